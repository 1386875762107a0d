/- The walks: part 21. -/
import Derived.Test.YtlkmcbgkohpmiaaS
import Derived.Test.YtlkmcbgkohpmiaaG0
import Derived.Test.YtlkmcbgkohpmiaaG19
import Derived.Test.YtlkmcbgkohpmiaaG20
set_option linter.unusedVariables false
set_option linter.unusedSimpArgs false
namespace Go.Proofs.Ytlkmcbgkohpmiaa
open Ev
set_option maxRecDepth 100000 in
set_option maxHeartbeats 4000000 in
theorem garside_Same_ok (n : Nat) {w : World} {O0 : List Nat} (hO : ∀ k ∈ O0, k < w.heap.size) {a_0_0 : Int} (ha_0_0 : I64 a_0_0) {Aa_0_1 : Option Addr} {ma_0_1 ca_0_1 : Nat} {a_0_1 : List Int} (ha_0_1 : Rep O0 w (.sl (.int .i64)) [.slice Aa_0_1 ma_0_1 ca_0_1] a_0_1) {b_1_0 : Int} (hb_1_0 : I64 b_1_0) {Ab_1_1 : Option Addr} {mb_1_1 cb_1_1 : Nat} {b_1_1 : List Int} (hb_1_1 : Rep O0 w (.sl (.int .i64)) [.slice Ab_1_1 mb_1_1 cb_1_1] b_1_1) {r : Bool} (hb : F.garside_Same n a_0_0 a_0_1 b_1_0 b_1_1 = some r) :
    Calls Try.prog 26 #[.agg #[.int .i64 a_0_0, .slice Aa_0_1 ma_0_1 ca_0_1], .agg #[.int .i64 b_1_0, .slice Ab_1_1 mb_1_1 cb_1_1]] w fun e w' => ∃ v, e = .returned v ∧ v = .bool r ∧ Cx (fun _ => False) O0 w w' [] := by
  unfold F.garside_Same at hb
  have hC := Cx.start hO
  replace hC := hC.arg rfl ha_0_1
  replace hC := hC.arg rfl hb_1_1
  clear hO
  obtain ⟨rfl, hla_0_1, hca_0_1⟩ := ha_0_1.sl_len
  obtain ⟨rfl, hlb_1_1, hcb_1_1⟩ := hb_1_1.sl_len
  refine calls_of_Wc Try.func26 rfl (by rw [Try.ntmps26]; exact Nat.le_of_ble_eq_true rfl) fun KR hKR => ?_
  refine Wc.seq fun K3 hK3 => ?_
  refine Wc.region (by decide +kernel) ?_
  refine lex.op (hC.box (cs := [.int .i64 a_0_0, .slice Aa_0_1 a_0_1.length ca_0_1]) rfl rfl) ?_
  rintro _ w5 ⟨g4, rfl, hC, hF, hG⟩
  clear hG
  refine lex.op (hC.box (cs := [.int .i64 b_1_0, .slice Ab_1_1 b_1_1.length cb_1_1]) rfl rfl) ?_
  rintro _ w8 ⟨g7, rfl, hC, hF, hG⟩
  clear hG
  refine lex.pure (v := .bool false) (pu_assign rfl) ?_
  refine lex.nil ?_
  refine hK3 _ _ ?_
  refine Wc.seq fun K10 hK10 => ?_
  refine Wc.region (by decide +kernel) ?_
  refine lex.val (v := .agg #[.int .i64 a_0_0, .slice Aa_0_1 a_0_1.length ca_0_1]) (ld_blk (hC.bx (i := 1) rfl) Try.isAgg24 Try.sizeOf24 rfl) ?_
  obtain ⟨y11, h12, hb⟩ := bd hb
  refine lex.cl (⟨_, _, op_call (vs := [.agg #[.int .i64 a_0_0, .slice Aa_0_1 a_0_1.length ca_0_1]]) Try.call43 rfl rfl rfl, garside_Form_ok n hC.lt ha_0_0 (hC.rd (i := 3) rfl) h12⟩) ?_
  rintro _ w20 ⟨A15, m16, c17, rfl, hr13, hr14, hr19, hK⟩
  replace hC := hC.merge hK
  clear hK
  obtain ⟨rfl, hl21, hc22⟩ := (hC.rd (i := 0) rfl).sl_len
  refine lex.pure (v := .tuple #[.agg #[.int .i64 y11.1, .int .i64 y11.2.1, .slice A15 y11.2.2.1.length c17], .int .i64 y11.2.2.2]) (pu_move rfl) ?_
  refine lex.pure (v := .agg #[.int .i64 y11.1, .int .i64 y11.2.1, .slice A15 y11.2.2.1.length c17]) (pu_extract rfl rfl) ?_
  refine lex.pure (v := .int .i64 y11.2.2.2) (pu_extract rfl rfl) ?_
  refine lex.op (hC.alloc (cs := [.int .i64 0, .int .i64 0, .slice none 0 0]) Try.zeroValue79 rfl) ?_
  rintro _ w24 ⟨g23, rfl, hC, hF, hG⟩
  clear hG
  refine lex.sk (hC.seta (i := 0) (ds := [.int .i64 y11.1, .int .i64 y11.2.1, .slice A15 y11.2.2.1.length c17]) rfl Try.type79 rfl rfl rfl rfl rfl) ?_
  rintro w26 ⟨hC, hF⟩
  refine lex.pure (v := .int .i64 y11.2.2.2) (pu_assign rfl) ?_
  refine lex.nil ?_
  refine hK10 _ _ ?_
  refine Wc.fresh fun E27 hE => ?_
  have e3 : E27 3 = .pointer (some ⟨g7, 0, none⟩) := (congrFun hE 3).trans rfl
  have e4 : E27 4 = .bool false := (congrFun hE 4).trans rfl
  have e5 : E27 5 = .pointer (some ⟨g23, 0, none⟩) := (congrFun hE 5).trans rfl
  have e6 : E27 6 = .int .i64 y11.2.2.2 := (congrFun hE 6).trans rfl
  clear hE
  refine Wc.seq fun K28 hK28 => ?_
  refine Wc.seq fun K29 hK29 => ?_
  refine Wc.region (by decide +kernel) ?_
  refine lex.pure (v := .int .i64 y11.2.2.2) (pu_move e6) ?_
  refine lex.pure (v := .bool (!(decide (y11.2.2.2 = 0)))) (pu_neq (k := .i64) (a := y11.2.2.2) (b := 0) rfl rfl) ?_
  refine lex.nil ?_
  refine hK29 _ _ ?_
  refine Wc.cond (t := (!(decide (y11.2.2.2 = 0)))) (rfl) (fun hq30 => ?_) (fun hq30 => ?_)
  · replace hb := (cT hq30).symm.trans hb
    refine Wc.seq fun K31 hK31 => ?_
    refine Wc.region (by decide +kernel) ?_
    refine lex.pure (v := .bool false) (pu_assign rfl) ?_
    refine lex.nil ?_
    refine hK31 _ _ ?_
    obtain rfl := Option.some.inj hb
    refine Wc.ret ?_
    refine hKR _ _ ?_
    refine ⟨_, res1 Try.results26 (show RV _ _ _ (.tmp _) (.bool false) from rfl), _, rfl, rfl, hC.sel [] (by decide)⟩
  · replace hb := (cF hq30).symm.trans hb
    refine Wc.skip ?_
    refine hK28 _ _ ?_
    refine Wc.seq fun K32 hK32 => ?_
    refine Wc.region (by decide +kernel) ?_
    refine lex.val (v := .agg #[.int .i64 b_1_0, .slice Ab_1_1 b_1_1.length cb_1_1]) (ld_blk (hC.bx (i := 2) rfl) Try.isAgg24 Try.sizeOf24 e3) ?_
    obtain ⟨y33, h34, hb⟩ := bd hb
    refine lex.cl (⟨_, _, op_call (vs := [.agg #[.int .i64 b_1_0, .slice Ab_1_1 b_1_1.length cb_1_1]]) Try.call43 rfl rfl rfl, garside_Form_ok n hC.lt hb_1_0 (hC.rd (i := 4) rfl) h34⟩) ?_
    rintro _ w42 ⟨A37, m38, c39, rfl, hr35, hr36, hr41, hK⟩
    replace hC := hC.merge hK
    clear hK
    obtain ⟨rfl, hl43, hc44⟩ := (hC.rd (i := 0) rfl).sl_len
    refine lex.pure (v := .tuple #[.agg #[.int .i64 y33.1, .int .i64 y33.2.1, .slice A37 y33.2.2.1.length c39], .int .i64 y33.2.2.2]) (pu_move rfl) ?_
    refine lex.pure (v := .agg #[.int .i64 y33.1, .int .i64 y33.2.1, .slice A37 y33.2.2.1.length c39]) (pu_extract rfl rfl) ?_
    refine lex.pure (v := .int .i64 y33.2.2.2) (pu_extract rfl rfl) ?_
    refine lex.op (hC.alloc (cs := [.int .i64 0, .int .i64 0, .slice none 0 0]) Try.zeroValue79 rfl) ?_
    rintro _ w46 ⟨g45, rfl, hC, hF, hG⟩
    clear hG
    refine lex.sk (hC.seta (i := 0) (ds := [.int .i64 y33.1, .int .i64 y33.2.1, .slice A37 y33.2.2.1.length c39]) rfl Try.type79 rfl rfl rfl rfl rfl) ?_
    rintro w48 ⟨hC, hF⟩
    refine lex.pure (v := .int .i64 y33.2.2.2) (pu_assign rfl) ?_
    refine lex.nil ?_
    refine hK32 _ _ ?_
    refine Wc.seq fun K49 hK49 => ?_
    refine Wc.seq fun K50 hK50 => ?_
    refine Wc.region (by decide +kernel) ?_
    refine lex.pure (v := .int .i64 y33.2.2.2) (pu_move rfl) ?_
    refine lex.pure (v := .bool (!(decide (y33.2.2.2 = 0)))) (pu_neq (k := .i64) (a := y33.2.2.2) (b := 0) rfl rfl) ?_
    refine lex.nil ?_
    refine hK50 _ _ ?_
    refine Wc.cond (t := (!(decide (y33.2.2.2 = 0)))) (rfl) (fun hq51 => ?_) (fun hq51 => ?_)
    · replace hb := (cT hq51).symm.trans hb
      refine Wc.seq fun K52 hK52 => ?_
      refine Wc.region (by decide +kernel) ?_
      refine lex.pure (v := .bool false) (pu_assign rfl) ?_
      refine lex.nil ?_
      refine hK52 _ _ ?_
      obtain rfl := Option.some.inj hb
      refine Wc.ret ?_
      refine hKR _ _ ?_
      refine ⟨_, res1 Try.results26 (show RV _ _ _ (.tmp _) (.bool false) from rfl), _, rfl, rfl, hC.sel [] (by decide)⟩
    · replace hb := (cF hq51).symm.trans hb
      refine Wc.skip ?_
      refine hK49 _ _ ?_
      refine Wc.fresh fun E53 hE => ?_
      have e4 : E53 4 = .bool false := (congrFun hE 4).trans e4
      have e5 : E53 5 = .pointer (some ⟨g23, 0, none⟩) := (congrFun hE 5).trans e5
      have e7 : E53 7 = .pointer (some ⟨g45, 0, none⟩) := (congrFun hE 7).trans rfl
      clear hE
      refine Wc.seq fun K54 hK54 => ?_
      refine Wc.region (by decide +kernel) ?_
      refine lex.pure (v := .pointer (some ((⟨g23, 0, none⟩ : Addr).add 0))) (pu_field (sz := 1) Try.underlying79 rfl Try.sizeOf3 (by decide) rfl e5) ?_
      refine lex.val (v := .int .i64 y11.1) (ld_fld (hC.bx (i := 2) rfl) Try.isAgg3 rfl rfl) ?_
      refine lex.pure (v := .pointer (some ((⟨g45, 0, none⟩ : Addr).add 0))) (pu_field (sz := 1) Try.underlying79 rfl Try.sizeOf3 (by decide) rfl e7) ?_
      refine lex.val (v := .int .i64 y33.1) (ld_fld (hC.bx (i := 0) rfl) Try.isAgg3 rfl rfl) ?_
      refine lex.pure (v := .bool (decide (y11.1 = y33.1))) (pu_eql (k := .i64) (a := y11.1) (b := y33.1) rfl rfl) ?_
      refine lex.pure (v := .bool (decide (y11.1 = y33.1))) (pu_move rfl) ?_
      rcases bS (decide (y11.1 = y33.1)) with hq55 | hq55
      · replace hb := (cT hq55).symm.trans hb
        refine lex.gpure (want_t rfl rfl (show _ = Value.bool (decide (y11.1 = y33.1)) from rfl) hq55) (v := .pointer (some ((⟨g23, 0, none⟩ : Addr).add 1))) (pu_field (sz := 1) Try.underlying79 rfl Try.sizeOf3 (by decide) rfl e5) ?_
        refine lex.gval (want_t rfl rfl (show _ = Value.bool (decide (y11.1 = y33.1)) from rfl) hq55) (v := .int .i64 y11.2.1) (ld_fld (hC.bx (i := 2) rfl) Try.isAgg3 rfl rfl) ?_
        refine lex.gpure (want_t rfl rfl (show _ = Value.bool (decide (y11.1 = y33.1)) from rfl) hq55) (v := .pointer (some ((⟨g45, 0, none⟩ : Addr).add 1))) (pu_field (sz := 1) Try.underlying79 rfl Try.sizeOf3 (by decide) rfl e7) ?_
        refine lex.gval (want_t rfl rfl (show _ = Value.bool (decide (y11.1 = y33.1)) from rfl) hq55) (v := .int .i64 y33.2.1) (ld_fld (hC.bx (i := 0) rfl) Try.isAgg3 rfl rfl) ?_
        refine lex.gpure (want_t rfl rfl (show _ = Value.bool (decide (y11.1 = y33.1)) from rfl) hq55) (v := .bool (decide (y11.2.1 = y33.2.1))) (pu_eql (k := .i64) (a := y11.2.1) (b := y33.2.1) rfl rfl) ?_
        refine lex.pure (v := .bool (decide (y11.2.1 = y33.2.1))) (pu_pickT (q := (decide (y11.1 = y33.1))) rfl hq55 rfl) ?_
        refine lex.pure (v := .bool (decide (y11.2.1 = y33.2.1))) (pu_move rfl) ?_
        rcases bS (decide (y11.2.1 = y33.2.1)) with hq56 | hq56
        · replace hb := (cT hq56).symm.trans hb
          refine lex.gpure (want_t rfl rfl (show _ = Value.bool (decide (y11.2.1 = y33.2.1)) from rfl) hq56) (v := .pointer (some ((⟨g23, 0, none⟩ : Addr).add 2))) (pu_field (sz := 1) Try.underlying79 rfl Try.sizeOf77 (by decide) rfl e5) ?_
          refine lex.gval (want_t rfl rfl (show _ = Value.bool (decide (y11.2.1 = y33.2.1)) from rfl) hq56) (v := .slice A15 y11.2.2.1.length c17) (ld_fld (hC.bx (i := 2) rfl) Try.isAgg77 rfl rfl) ?_
          refine lex.gpure (want_t rfl rfl (show _ = Value.bool (decide (y11.2.1 = y33.2.1)) from rfl) hq56) (v := .pointer (some ((⟨g45, 0, none⟩ : Addr).add 2))) (pu_field (sz := 1) Try.underlying79 rfl Try.sizeOf77 (by decide) rfl e7) ?_
          refine lex.gval (want_t rfl rfl (show _ = Value.bool (decide (y11.2.1 = y33.2.1)) from rfl) hq56) (v := .slice A37 y33.2.2.1.length c39) (ld_fld (hC.bx (i := 0) rfl) Try.isAgg77 rfl rfl) ?_
          obtain ⟨y57, h58, hb⟩ := bd hb
          refine lex.gcl (want_t rfl rfl (show _ = Value.bool (decide (y11.2.1 = y33.2.1)) from rfl) hq56) (⟨_, _, op_call (vs := [.slice A15 y11.2.2.1.length c17, .slice A37 y33.2.2.1.length c39, .func (.func 45) #[] #[]]) Try.call44 rfl rfl rfl, slices_EqualFunc_Perm_Perm_Perm_Perm_garside_Same_c1_ok n hC.lt (hC.rd (i := 3) rfl) (hC.rd (i := 1) rfl) h58⟩) ?_
          rintro _ w59 ⟨rfl, hK⟩
          replace hC := hC.merge hK
          clear hK
          refine lex.pure (v := .bool y57) (pu_pickT (q := (decide (y11.2.1 = y33.2.1))) rfl hq56 rfl) ?_
          refine lex.pure (v := .bool y57) (pu_assign rfl) ?_
          refine lex.nil ?_
          refine hK54 _ _ ?_
          obtain rfl := Option.some.inj hb
          refine Wc.ret ?_
          refine hKR _ _ ?_
          refine ⟨_, res1 Try.results26 (show RV _ _ _ (.tmp _) (.bool y57) from rfl), _, rfl, rfl, hC.sel [] (by decide)⟩
        · replace hb := (cF hq56).symm.trans hb
          refine lex.gskip (want_f rfl rfl (show _ = Value.bool (decide (y11.2.1 = y33.2.1)) from rfl) hq56) ?_
          refine lex.gskip (want_f rfl rfl (show _ = Value.bool (decide (y11.2.1 = y33.2.1)) from rfl) hq56) ?_
          refine lex.gskip (want_f rfl rfl (show _ = Value.bool (decide (y11.2.1 = y33.2.1)) from rfl) hq56) ?_
          refine lex.gskip (want_f rfl rfl (show _ = Value.bool (decide (y11.2.1 = y33.2.1)) from rfl) hq56) ?_
          refine lex.gskip (want_f rfl rfl (show _ = Value.bool (decide (y11.2.1 = y33.2.1)) from rfl) hq56) ?_
          refine lex.pure (v := .bool false) (pu_pickF (q := (decide (y11.2.1 = y33.2.1))) rfl hq56 rfl) ?_
          refine lex.pure (v := .bool false) (pu_assign rfl) ?_
          refine lex.nil ?_
          refine hK54 _ _ ?_
          obtain rfl := Option.some.inj hb
          refine Wc.ret ?_
          refine hKR _ _ ?_
          refine ⟨_, res1 Try.results26 (show RV _ _ _ (.tmp _) (.bool false) from rfl), _, rfl, rfl, hC.sel [] (by decide)⟩
      · replace hb := (cF hq55).symm.trans hb
        refine lex.gskip (want_f rfl rfl (show _ = Value.bool (decide (y11.1 = y33.1)) from rfl) hq55) ?_
        refine lex.gskip (want_f rfl rfl (show _ = Value.bool (decide (y11.1 = y33.1)) from rfl) hq55) ?_
        refine lex.gskip (want_f rfl rfl (show _ = Value.bool (decide (y11.1 = y33.1)) from rfl) hq55) ?_
        refine lex.gskip (want_f rfl rfl (show _ = Value.bool (decide (y11.1 = y33.1)) from rfl) hq55) ?_
        refine lex.gskip (want_f rfl rfl (show _ = Value.bool (decide (y11.1 = y33.1)) from rfl) hq55) ?_
        refine lex.pure (v := .bool false) (pu_pickF (q := (decide (y11.1 = y33.1))) rfl hq55 rfl) ?_
        refine lex.pure (v := .bool false) (pu_move rfl) ?_
        refine lex.gskip (want_f rfl rfl (show _ = Value.bool false from rfl) rfl) ?_
        refine lex.gskip (want_f rfl rfl (show _ = Value.bool false from rfl) rfl) ?_
        refine lex.gskip (want_f rfl rfl (show _ = Value.bool false from rfl) rfl) ?_
        refine lex.gskip (want_f rfl rfl (show _ = Value.bool false from rfl) rfl) ?_
        refine lex.gskip (want_f rfl rfl (show _ = Value.bool false from rfl) rfl) ?_
        refine lex.pure (v := .bool false) (pu_pickF (q := false) rfl rfl rfl) ?_
        refine lex.pure (v := .bool false) (pu_assign rfl) ?_
        refine lex.nil ?_
        refine hK54 _ _ ?_
        obtain rfl := Option.some.inj hb
        refine Wc.ret ?_
        refine hKR _ _ ?_
        refine ⟨_, res1 Try.results26 (show RV _ _ _ (.tmp _) (.bool false) from rfl), _, rfl, rfl, hC.sel [] (by decide)⟩

set_option maxRecDepth 100000 in
set_option maxHeartbeats 4000000 in
theorem slices_Backward_Lint_int_it {gb : Nat} {A : Option Addr} {c : Nat} {xs : List Int} : IterOk Try.prog 67 #[.pointer (some ⟨gb, 0, none⟩)] xs.length (fun k => #[.int .i64 ((xs.length : Int) - 1 - (k : Int)), .int .i64 (xs.getD (xs.length - 1 - k) 0)]) (RdBack gb 22 A c xs) := by
  intro l A' B W hrd hround hA0
  refine calls_of_Wc Try.func67 rfl (by rw [Try.ntmps67]; exact Nat.le_of_ble_eq_true rfl) fun KR hKR => ?_
  have fin : ∀ E w, (A' xs.length w ∨ B w) → KR E w := fun E w h => hKR _ _ ⟨_, res0 Try.results67, ⟨_, rfl⟩, h⟩
  refine Wc.seq fun K1 hK1 => ?_
  refine Wc.region (by decide +kernel) ?_
  obtain ⟨hb, hl, hx⟩ := hrd 0 W hA0
  refine lex.val (v := .slice A xs.length c) (ld_one Try.isAgg22 rfl (hb.cell (j := 0) rfl)) ?_
  refine lex.pure (v := .int .i64 (xs.length : Int)) (pu_len (A := A) (n := xs.length) (m := c) Try.underlying22 rfl) ?_
  refine lex.pure (v := .int .i64 ((xs.length : Int) - 1)) (pu_sub (a := (xs.length : Int)) (b := 1) rfl rfl (by unfold I64; omega)) ?_
  refine lex.pure (v := .int .i64 ((xs.length : Int) - 1)) (pu_assign rfl) ?_
  refine lex.nil ?_
  refine hK1 _ _ ?_
  refine Wc.block ?_
  refine Wc.loop (fun m E wv => ∃ k : Nat, m = xs.length - k ∧ k ≤ xs.length ∧ E 0 = .func (.yield l) #[] #[] ∧ E 1 = .pointer (some ⟨gb, 0, none⟩) ∧ E 3 = .int .i64 ((xs.length : Int) - 1 - (k : Int)) ∧ A' k wv) xs.length ⟨0, by omega, by omega, rfl, rfl, by rw [show (xs.length : Int) - 1 - ((0 : Nat) : Int) = (xs.length : Int) - 1 by omega]; rfl, hA0⟩ ?_
  clear hb hx hA0
  rintro m E1 w1 ⟨k, rfl, hk, e0, e1, e3, hA⟩ K hK
  obtain ⟨hb, _, hx⟩ := hrd k w1 hA
  refine Wc.seq fun K2 hK2 => ?_
  refine Wc.seq fun K3 hK3 => ?_
  refine Wc.region (by decide +kernel) ?_
  refine lex.pure (v := .int .i64 ((xs.length : Int) - 1 - (k : Int))) (pu_move e3) ?_
  refine lex.pure (v := .bool (decide (0 ≤ (xs.length : Int) - 1 - (k : Int)))) (pu_geq (k := .i64) (a := (xs.length : Int) - 1 - (k : Int)) (b := 0) rfl rfl) ?_
  refine lex.nil ?_
  refine hK3 _ _ ?_
  refine Wc.cond (t := decide (0 ≤ (xs.length : Int) - 1 - (k : Int))) rfl (fun hq => ?_) (fun hq => ?_)
  · refine Wc.skip ?_
    refine hK2 _ _ ?_
    have hkl : k < xs.length := by have := of_decide_eq_true hq; omega
    have hi : xs[xs.length - 1 - k]? = some (xs.getD (xs.length - 1 - k) 0) := by
      rw [List.getD_eq_getElem?_getD, List.getElem?_eq_getElem (by omega)]; rfl
    obtain ⟨ad, hA1, hcell⟩ := hx _ _ hi
    subst hA1
    refine Wc.seq fun K4 hK4 => ?_
    refine Wc.block ?_
    refine Wc.seq fun K5 hK5 => ?_
    refine Wc.region (by decide +kernel) ?_
    refine lex.pure (v := .func (.yield l) #[] #[]) (pu_move e0) ?_
    refine lex.pure (v := .int .i64 ((xs.length : Int) - 1 - (k : Int))) (pu_move e3) ?_
    refine lex.val (v := .slice (some ad) xs.length c) (ld_one Try.isAgg22 e1 (hb.cell (j := 0) rfl)) ?_
    refine lex.pure (v := .int .i64 ((xs.length : Int) - 1 - (k : Int))) (pu_move e3) ?_
    refine lex.pure (v := .pointer (some (ad.add (((xs.length : Int) - 1 - (k : Int)).toNat * 1)))) (pu_index (a := (xs.length : Int) - 1 - (k : Int)) Try.underlying22 Try.sizeOf3 rfl rfl (by omega)) ?_
    refine lex.val (v := .int .i64 (xs.getD (xs.length - 1 - k) 0)) (ld_one Try.isAgg3 rfl (by rw [show ((xs.length : Int) - 1 - (k : Int)).toNat * 1 = xs.length - 1 - k by omega]; exact hcell)) ?_
    obtain ⟨fn, tmps, assign, body, hy, hR⟩ := hround k w1 hkl hA
    refine lex.yield (op_yield (vs := [.int .i64 ((xs.length : Int) - 1 - (k : Int)), .int .i64 (xs.getD (xs.length - 1 - k) 0)]) rfl rfl rfl hy) hR ?_
    rintro e w2 (⟨rfl, hA2⟩ | ⟨rfl, hB⟩)
    · refine ⟨_, rfl, ?_⟩
      refine lex.pure (v := .bool (!true)) (pu_not rfl) ?_
      refine lex.nil ?_
      refine hK5 _ _ ?_
      refine Wc.cond_false rfl ?_
      refine Wc.skip ?_
      refine hK4 _ _ ?_
      refine Wc.region (by decide +kernel) ?_
      refine lex.pure (v := .int .i64 ((xs.length : Int) - 1 - (k : Int))) (pu_move e3) ?_
      refine lex.pure (v := .int .i64 ((xs.length : Int) - 1 - (k : Int) - 1)) (pu_sub (a := (xs.length : Int) - 1 - (k : Int)) (b := 1) rfl rfl (by unfold I64; omega)) ?_
      refine lex.pure (v := .int .i64 ((xs.length : Int) - 1 - (k : Int) - 1)) (pu_assign rfl) ?_
      refine lex.nil ?_
      exact hK (xs.length - (k + 1)) _ _ (by omega) ⟨k + 1, rfl, by omega, e0, e1, by rw [show (xs.length : Int) - 1 - ((k + 1 : Nat) : Int) = (xs.length : Int) - 1 - (k : Int) - 1 by omega]; rfl, hA2⟩
    · refine ⟨_, rfl, ?_⟩
      refine lex.pure (v := .bool (!false)) (pu_not rfl) ?_
      refine lex.nil ?_
      refine hK5 _ _ ?_
      refine Wc.cond_true rfl ?_
      refine Wc.ret ?_
      exact fin _ _ (.inr hB)
  · refine Wc.exit rfl ?_
    have : k = xs.length := by have := of_decide_eq_false hq; omega
    subst this
    exact fin _ _ (.inl hA)
set_option maxRecDepth 100000 in
set_option maxHeartbeats 4000000 in
theorem slices_Backward_Lint_int_ok {w : World} {O0 : List Nat} {A : Option Addr} {m c : Nat} (hO : ∀ k ∈ O0, k < w.heap.size) : Calls Try.prog 48 #[.slice A m c] w fun e w' => ∃ v, e = .returned v ∧ ∃ gb, v = .func (.func 67) #[] #[.pointer (some ⟨gb, 0, none⟩)] ∧ Cx (fun _ => False) O0 w w' [.box gb 22 [.slice A m c]] := by
  have hC := Cx.start hO
  refine calls_of_Wc Try.func48 rfl (by rw [Try.ntmps48]; exact Nat.le_of_ble_eq_true rfl) fun KR hKR => ?_
  refine Wc.seq fun K1 hK1 => ?_
  refine Wc.region (by decide +kernel) ?_
  refine lex.op (hC.box (cs := [.slice A m c]) rfl rfl) ?_
  rintro _ w2 ⟨g1, rfl, hC, hF, hG⟩
  refine lex.pure (v := .nilFunc) (pu_assign rfl) ?_
  refine lex.nil ?_
  refine hK1 _ _ ?_
  refine Wc.seq fun K2 hK2 => ?_
  refine Wc.region (by decide +kernel) ?_
  refine lex.pure (v := .func (.func 67) #[] #[.pointer (some ⟨g1, 0, none⟩)]) (pu_funcc (l := [.pointer (some ⟨g1, 0, none⟩)]) rfl) ?_
  refine lex.pure (v := .func (.func 67) #[] #[.pointer (some ⟨g1, 0, none⟩)]) (pu_assign rfl) ?_
  refine lex.nil ?_
  refine hK2 _ _ ?_
  refine Wc.ret ?_
  refine hKR _ _ ?_
  exact ⟨_, res1 Try.results48 (show RV _ _ _ (.tmp _) (.func (.func 67) #[] #[.pointer (some ⟨g1, 0, none⟩)]) from rfl), _, rfl, g1, rfl, hC⟩

set_option maxRecDepth 100000 in
set_option maxHeartbeats 4000000 in
theorem braid_Inverse_ok (n : Nat) {w : World} {O0 : List Nat} (hO : ∀ k ∈ O0, k < w.heap.size) {b_0_0 : Int} (hb_0_0 : I64 b_0_0) {Ab_0_1 : Option Addr} {mb_0_1 cb_0_1 : Nat} {b_0_1 : List Int} (hb_0_1 : Rep O0 w (.sl (.int .i64)) [.slice Ab_0_1 mb_0_1 cb_0_1] b_0_1) {r : Int × (List Int)} (hb : F.braid_Inverse n b_0_0 b_0_1 = some r) :
    Calls Try.prog 28 #[.agg #[.int .i64 b_0_0, .slice Ab_0_1 mb_0_1 cb_0_1]] w fun e w' => ∃ v, e = .returned v ∧ ∃ (A1 : Option Addr) (m1 c1 : Nat), v = .agg #[.int .i64 r.1, .slice A1 m1 c1] ∧ I64 r.1 ∧ Cx (fun _ => False) O0 w w' [.own 3 (.int .i64) (.slice A1 m1 c1) r.2] := by
  unfold F.braid_Inverse at hb
  have hC := Cx.start hO
  replace hC := hC.arg rfl hb_0_1
  clear hO
  obtain ⟨rfl, hlb_0_1, hcb_0_1⟩ := hb_0_1.sl_len
  replace hC : Cx (fun _ => False) O0 w w ([.ro (.sl (.int .i64)) [.slice Ab_0_1 b_0_1.length cb_0_1] b_0_1] ++ marksF ([] : List Nat)) := hC
  refine calls_of_WcM Try.func28 rfl (by rw [Try.ntmps28]; exact Nat.le_of_ble_eq_true rfl) fun KR hKR => ?_
  refine Wc.seq fun K2 hK2 => ?_
  refine Wc.region (by decide +kernel) ?_
  replace hC : Cx (fun _ => False) O0 w w ([.ro (.sl (.int .i64)) [.slice Ab_0_1 b_0_1.length cb_0_1] b_0_1] ++ marksF ([] : List Nat)) := hC
  refine lex.op (hC.box (cs := [.int .i64 b_0_0, .slice Ab_0_1 b_0_1.length cb_0_1]) rfl rfl) ?_
  rintro _ w4 ⟨g3, rfl, hC, hF, hG⟩
  clear hG
  replace hC : Cx (fun _ => False) O0 w w4 ([.box g3 24 [.int .i64 b_0_0, .slice Ab_0_1 b_0_1.length cb_0_1], .ro (.sl (.int .i64)) [.slice Ab_0_1 b_0_1.length cb_0_1] b_0_1] ++ marksF ([] : List Nat)) := hC
  refine lex.op (hC.alloc (cs := [.int .i64 0, .slice none 0 0]) Try.zeroValue24 rfl) ?_
  rintro _ w7 ⟨g6, rfl, hC, hF, hG⟩
  clear hG
  refine lex.nil ?_
  refine hK2 _ _ ?_
  refine Wc.seq fun K9 hK9 => ?_
  refine Wc.seq fun K10 hK10 => ?_
  refine Wc.region (by decide +kernel) ?_
  replace hC : Cx (fun _ => False) O0 w w7 ([.box g6 24 [.int .i64 0, .slice none 0 0], .box g3 24 [.int .i64 b_0_0, .slice Ab_0_1 b_0_1.length cb_0_1], .ro (.sl (.int .i64)) [.slice Ab_0_1 b_0_1.length cb_0_1] b_0_1] ++ marksF ([] : List Nat)) := hC
  refine lex.val (v := .agg #[.int .i64 b_0_0, .slice Ab_0_1 b_0_1.length cb_0_1]) (ld_blk (hC.bx (i := 1) rfl) Try.isAgg24 Try.sizeOf24 rfl) ?_
  obtain ⟨y11, h12, hb⟩ := bd hb
  refine lex.cl (⟨_, _, op_call (vs := [.agg #[.int .i64 b_0_0, .slice Ab_0_1 b_0_1.length cb_0_1]]) Try.call16 rfl rfl rfl, braid_Valid_ok n hC.lt hb_0_0 (hC.rd (i := 2) rfl) h12⟩) ?_
  rintro _ w13 ⟨rfl, hK⟩
  replace hC := hC.merge hK
  clear hK
  replace hC : Cx (fun _ => False) O0 w w13 ([.box g6 24 [.int .i64 0, .slice none 0 0], .box g3 24 [.int .i64 b_0_0, .slice Ab_0_1 b_0_1.length cb_0_1], .ro (.sl (.int .i64)) [.slice Ab_0_1 b_0_1.length cb_0_1] b_0_1] ++ marksF ([] : List Nat)) := hC
  refine lex.pure (v := .bool (!y11)) (pu_not (q := y11) rfl) ?_
  refine lex.nil ?_
  refine hK10 _ _ ?_
  refine Wc.cond (t := (!y11)) (rfl) (fun hq14 => ?_) (fun hq14 => ?_)
  · replace hb := (cT hq14).symm.trans hb
    refine Wc.seq fun K15 hK15 => ?_
    refine Wc.region (by decide +kernel) ?_
    refine lex.pure (v := .agg #[.int .i64 0, .slice none 0 0]) (pu_builds (places := [(0, 1), (1, 1)]) (pv := []) Try.type24 Try.underlying24 rfl (mp_cons Try.type3 (mp_cons Try.type22 mp_nil rfl rfl) rfl rfl) rfl (by simp [Instr.fill, Value.cells])) ?_
    refine lex.sk (hC.seta (i := 0) (ds := [.int .i64 0, .slice none 0 0]) rfl Try.type24 rfl rfl rfl rfl rfl) ?_
    rintro w16 ⟨hC, hF⟩
    refine lex.nil ?_
    refine hK15 _ _ ?_
    replace hC := hC.nil 3 (.int .i64)
    replace hC : Cx (fun _ => False) O0 w w16 ([.own 3 (.int .i64) (.slice none 0 0) ([] : List Int), .box g6 24 [.int .i64 0, .slice none 0 0], .box g3 24 [.int .i64 b_0_0, .slice Ab_0_1 b_0_1.length cb_0_1], .ro (.sl (.int .i64)) [.slice Ab_0_1 b_0_1.length cb_0_1] b_0_1] ++ marksF ([] : List Nat)) := hC
    obtain rfl := Option.some.inj hb
    refine Wc.ret ?_
    replace hC : Cx (fun _ => False) O0 w w16 (marksF ([] : List Nat) ++ [.own 3 (.int .i64) (.slice none 0 0) ([] : List Int), .box g6 24 [.int .i64 0, .slice none 0 0], .box g3 24 [.int .i64 b_0_0, .slice Ab_0_1 b_0_1.length cb_0_1], .ro (.sl (.int .i64)) [.slice Ab_0_1 b_0_1.length cb_0_1] b_0_1]) := hC.perm List.perm_append_comm
    refine hKR _ _ _ _ _ _ _ rfl hC fun w18 hC => ?_
    refine ⟨_, res1 Try.results28 ⟨_, rfl, loadVar_blk (hC.bx (i := 1) rfl) Try.isAgg24 Try.sizeOf24⟩, _, rfl, none, 0, 0, rfl, (show I64 0 from by unfold I64; omega), hC.sel [0] (by decide)⟩
  · replace hb := (cF hq14).symm.trans hb
    refine Wc.skip ?_
    refine hK9 _ _ ?_
    refine Wc.seq fun K19 hK19 => ?_
    refine Wc.region (by decide +kernel) ?_
    refine lex.pure (v := .pointer (some ((⟨g3, 0, none⟩ : Addr).add 1))) (pu_field (sz := 1) Try.underlying24 rfl Try.sizeOf22 (by decide) rfl rfl) ?_
    refine lex.val (v := .slice Ab_0_1 b_0_1.length cb_0_1) (ld_fld (hC.bx (i := 1) rfl) Try.isAgg22 rfl rfl) ?_
    refine lex.pure (v := .int .i64 (b_0_1.length : Int)) (pu_len (A := Ab_0_1) (n := b_0_1.length) (m := cb_0_1) Try.underlying22 rfl) ?_
    obtain ⟨u20, h21, hb⟩ := bd hb
    refine lex.op (hC.make0 (s := (.int .i64)) (n := (b_0_1.length : Int)) Try.underlying22 Try.type3 rfl rfl rfl rfl (pos_some h21).1 (pos_some h21).2 (by decide)) ?_
    rintro _ w26 ⟨A22, c23, rfl, hl24, hc25, hC, hF, hN⟩
    clear hF hN
    replace hC : Cx (fun _ => False) O0 w w26 ([.own 3 (.int .i64) (.slice A22 ((([] : List Int)).length) c23) ([] : List Int), .box g6 24 [.int .i64 0, .slice none 0 0], .box g3 24 [.int .i64 b_0_0, .slice Ab_0_1 b_0_1.length cb_0_1], .ro (.sl (.int .i64)) [.slice Ab_0_1 b_0_1.length cb_0_1] b_0_1] ++ marksF ([] : List Nat)) := hC
    refine lex.op (hC.alloc (cs := [.slice none 0 0]) Try.zeroValue22 rfl) ?_
    rintro _ w29 ⟨g28, rfl, hC, hF, hG⟩
    clear hG
    replace hC : Cx (fun _ => False) O0 w w29 ([.box g28 22 [.slice none 0 0], .own 3 (.int .i64) (.slice A22 ((([] : List Int)).length) c23) ([] : List Int), .box g6 24 [.int .i64 0, .slice none 0 0], .box g3 24 [.int .i64 b_0_0, .slice Ab_0_1 b_0_1.length cb_0_1], .ro (.sl (.int .i64)) [.slice Ab_0_1 b_0_1.length cb_0_1] b_0_1] ++ marksF ([] : List Nat)) := hC
    refine lex.sk (hC.setf (i := 0) (k := 0) (v := .slice A22 ((([] : List Int)).length) c23) rfl Try.sizeOf22 rfl (by rw [Addr.add_zero']; exact rfl) rfl rfl) ?_
    rintro w31 ⟨hC, hF⟩
    refine lex.nil ?_
    refine hK19 _ _ ?_
    refine Wc.fresh fun E32 hE => ?_
    have e1 : E32 1 = .pointer (some ⟨g3, 0, none⟩) := (congrFun hE 1).trans rfl
    have e2 : E32 2 = .pointer (some ⟨g6, 0, none⟩) := (congrFun hE 2).trans rfl
    have e3 : E32 3 = .pointer (some ⟨g28, 0, none⟩) := (congrFun hE 3).trans rfl
    clear hE
    refine Wc.seq fun K33 hK33 => ?_
    refine Wc.seq fun K34 hK34 => ?_
    refine Wc.region (by decide +kernel) ?_
    replace hC : Cx (fun _ => False) O0 w w31 ([.box g28 22 [.slice A22 ((([] : List Int)).length) c23], .own 3 (.int .i64) (.slice A22 ((([] : List Int)).length) c23) ([] : List Int), .box g6 24 [.int .i64 0, .slice none 0 0], .box g3 24 [.int .i64 b_0_0, .slice Ab_0_1 b_0_1.length cb_0_1], .ro (.sl (.int .i64)) [.slice Ab_0_1 b_0_1.length cb_0_1] b_0_1] ++ marksF ([] : List Nat)) := hC
    refine lex.pure (v := .pointer (some ((⟨g3, 0, none⟩ : Addr).add 1))) (pu_field (sz := 1) Try.underlying24 rfl Try.sizeOf22 (by decide) rfl e1) ?_
    refine lex.val (v := .slice Ab_0_1 b_0_1.length cb_0_1) (ld_fld (hC.bx (i := 3) rfl) Try.isAgg22 rfl rfl) ?_
    refine lex.cl (⟨_, _, op_call (vs := [.slice Ab_0_1 b_0_1.length cb_0_1]) Try.call48 rfl rfl rfl, slices_Backward_Lint_int_ok (m := b_0_1.length) hC.lt⟩) ?_
    rintro _ w37 ⟨g35, rfl, hK⟩
    replace hC := hC.merge hK
    clear hK
    refine lex.nil ?_
    refine hK34 _ _ ?_
    replace hC : Cx (fun _ => False) O0 w w37 ([.box g35 22 [.slice Ab_0_1 b_0_1.length cb_0_1], .box g28 22 [.slice A22 ((([] : List Int)).length) c23], .own 3 (.int .i64) (.slice A22 ((([] : List Int)).length) c23) ([] : List Int), .box g6 24 [.int .i64 0, .slice none 0 0], .box g3 24 [.int .i64 b_0_0, .slice Ab_0_1 b_0_1.length cb_0_1], .ro (.sl (.int .i64)) [.slice Ab_0_1 b_0_1.length cb_0_1] b_0_1] ++ marksF ([] : List Nat)) := hC
    obtain ⟨o38, hl0, hb⟩ := bd hb
    refine Wc.cut (fun E wv => ∃ (ms_0 : List Nat) (kf30_0_0 : List Int) (Akf30_0_0 : Option Addr) (mkf30_0_0 ckf30_0_0 : Nat), E 1 = .pointer (some ⟨g3, 0, none⟩) ∧ E 2 = .pointer (some ⟨g6, 0, none⟩) ∧ E 3 = .pointer (some ⟨g28, 0, none⟩) ∧ E.ms = ms_0 ∧ Cx (fun _ => False) O0 w wv ([.box g3 24 [.int .i64 b_0_0, .slice Ab_0_1 b_0_1.length cb_0_1], .ro (.sl (.int .i64)) [.slice Ab_0_1 b_0_1.length cb_0_1] b_0_1, .box g6 24 [.int .i64 0, .slice none 0 0], .box g28 22 [.slice Akf30_0_0 mkf30_0_0 ckf30_0_0], .own 3 (.int .i64) (.slice Akf30_0_0 mkf30_0_0 ckf30_0_0) kf30_0_0] ++ marksF ms_0) ∧ (some (b_0_0, kf30_0_0) : Option (Int × (List Int))) = some r) (fun K39 hK39 => ?_) ?_
    · refine Wc.block ?_
      replace hC := hC.selT [4, 5, 3, 1, 2, 0] (by decide)
      replace hC : Cx (fun _ => False) O0 w w37 ([.box g3 24 [.int .i64 b_0_0, .slice Ab_0_1 b_0_1.length cb_0_1], .ro (.sl (.int .i64)) [.slice Ab_0_1 b_0_1.length cb_0_1] b_0_1, .box g6 24 [.int .i64 0, .slice none 0 0], .box g28 22 [.slice A22 ((([] : List Int)).length) c23], .own 3 (.int .i64) (.slice A22 ((([] : List Int)).length) c23) ([] : List Int), .box g35 22 [.slice Ab_0_1 b_0_1.length cb_0_1]] ++ marksF ([] : List Nat)) := hC
      refine Wc.range (fun kk L => ∃ (m : Nat) (kf30_0_0 : List Int) (Akf30_0_0 : Option Addr) (mkf30_0_0 ckf30_0_0 : Nat), L = ([.box g3 24 [.int .i64 b_0_0, .slice Ab_0_1 b_0_1.length cb_0_1], .ro (.sl (.int .i64)) [.slice Ab_0_1 b_0_1.length cb_0_1] b_0_1, .box g6 24 [.int .i64 0, .slice none 0 0], .box g28 22 [.slice Akf30_0_0 mkf30_0_0 ckf30_0_0], .own 3 (.int .i64) (.slice Akf30_0_0 mkf30_0_0 ckf30_0_0) kf30_0_0, .box g35 22 [.slice Ab_0_1 b_0_1.length cb_0_1]] ++ marksF ([] : List Nat)) ∧ loopN m (F.braid_Inverse_b0 n b_0_1) (kk, kf30_0_0) = some o38) (fun _ => False) ([] : List Nat) (fun id L => ∃ (kf30_0_0 : List Int) (Akf30_0_0 : Option Addr) (mkf30_0_0 ckf30_0_0 : Nat), L = ([.box g3 24 [.int .i64 b_0_0, .slice Ab_0_1 b_0_1.length cb_0_1], .ro (.sl (.int .i64)) [.slice Ab_0_1 b_0_1.length cb_0_1] b_0_1, .box g6 24 [.int .i64 0, .slice none 0 0], .box g28 22 [.slice Akf30_0_0 mkf30_0_0 ckf30_0_0], .own 3 (.int .i64) (.slice Akf30_0_0 mkf30_0_0 ckf30_0_0) kf30_0_0, .box g35 22 [.slice Ab_0_1 b_0_1.length cb_0_1]] ++ marksF ([] : List Nat)) ∧ o38 = kf30_0_0) rfl Try.call67 (slices_Backward_Lint_int_it (A := Ab_0_1) (c := cb_0_1) (xs := b_0_1)) (fun _ => rfl) (by simp) (fun kk => [(17, .int .i64 ((b_0_1.length : Int) - 1 - (kk : Int))), (18, .int .i64 (b_0_1.getD (b_0_1.length - 1 - kk) 0))]) (fun kk => by simp) hC ⟨n, ([] : List Int), A22, (([] : List Int)).length, c23, rfl, hl0⟩ ?_ _ (fun l kk W => Wc.region (by decide +kernel) (lex.pure (v := .int .i64 (b_0_1.getD (b_0_1.length - 1 - kk) 0)) (pu_assign rfl) (lex.nil ⟨rfl, rfl⟩))) ?_ ?_ ?_ ?_
      · rintro k L W f1 f2 ⟨m, kf30_0_0, Akf30_0_0, mkf30_0_0, ckf30_0_0, rfl, hl0⟩ hC
        exact rdBackR hC (i := 7) (j := 3) rfl rfl
      · have hbK0 := hb
        clear hb hC hl0
        rintro k_0 l44 D45 oB46 oK47 L w41 hk ⟨m40, kf30_0_0, Akf30_0_0, mkf30_0_0, ckf30_0_0, rfl, hl0⟩ hC Kn Kr Kx hKn hKr hKx
        obtain ⟨m40', o43, rfl, hb, hl0⟩ := loopN_some hl0
        unfold F.braid_Inverse_b0 at hb
        replace hb := (cT (decide_eq_true hk)).symm.trans hb
        obtain ⟨x_0, hxx, hb⟩ := bd hb
        have hx_0 : I64 x_0 := by obtain ⟨_, _, _, _, hr⟩ := hC.elr (i := 3) rfl (rev_i hxx); exact i64w hr.2
        refine Wc.fresh fun E42 hE => ?_
        have e1 : E42 1 = .pointer (some ⟨g3, 0, none⟩) := (congrFun hE 1).trans e1
        have e2 : E42 2 = .pointer (some ⟨g6, 0, none⟩) := (congrFun hE 2).trans e2
        have e3 : E42 3 = .pointer (some ⟨g28, 0, none⟩) := (congrFun hE 3).trans e3
        have e16 : E42 16 = .func (.func 67) #[] #[.pointer (some ⟨g35, 0, none⟩)] := (congrFun hE 16).trans rfl
        have e18 : E42 18 = .int .i64 x_0 := (congrFun hE 18).trans (congrArg (Value.int .i64) (rev_x hxx))
        have e5 : E42 5 = .int .i64 x_0 := (congrFun hE 5).trans (congrArg (Value.int .i64) (rev_x hxx))
        clear hE
        obtain ⟨rfl, hlkf30_0_0, hckf30_0_0⟩ := (hC.ow (i := 6) rfl).sl_len
        refine Wc.block ?_
        refine Wc.region (by decide +kernel) ?_
        replace hC : Cx (fun _ => False) O0 w w41 ([.obj l44 oB46, .obj D45 oK47, .box g3 24 [.int .i64 b_0_0, .slice Ab_0_1 b_0_1.length cb_0_1], .ro (.sl (.int .i64)) [.slice Ab_0_1 b_0_1.length cb_0_1] b_0_1, .box g6 24 [.int .i64 0, .slice none 0 0], .box g28 22 [.slice Akf30_0_0 kf30_0_0.length ckf30_0_0], .own 3 (.int .i64) (.slice Akf30_0_0 kf30_0_0.length ckf30_0_0) kf30_0_0, .box g35 22 [.slice Ab_0_1 b_0_1.length cb_0_1]] ++ marksF ([] : List Nat)) := hC
        refine lex.val (v := .slice Akf30_0_0 kf30_0_0.length ckf30_0_0) (ld_one Try.isAgg22 e3 ((hC.bx (i := 5) rfl).cell (j := 0) rfl)) ?_
        refine lex.pure (v := .int .i64 x_0) (pu_move e5) ?_
        obtain ⟨z50, h51, hb⟩ := bd hb
        refine lex.pure (v := .int .i64 z50) (pu_negc (a := x_0) rfl h51) ?_
        refine lex.op (hC.lit (s := (.int .i64)) (vs := [.int .i64 z50]) (xs := [z50]) Try.underlying22 Try.type3 rfl rfl (Nat.le_of_ble_eq_true rfl) rfl rfl (by simp [Value.cells, Sh.n]) rfl (show Elems _ _ (.int .i64) ([.int .i64 z50] ++ ([])) ([z50] : List Int) from Elems.cons (⟨rfl, I64.wr (chk_rng h51)⟩) (Elems.nil _ _ _))) ?_
        rintro _ w56 ⟨A52, c53, rfl, hl54, hc55, hC, hF, hN⟩
        clear hF hN
        replace hC : Cx (fun _ => False) O0 w w56 ([.own 3 (.int .i64) (.slice A52 ((([z50] : List Int)).length) c53) ([z50] : List Int), .obj l44 oB46, .obj D45 oK47, .box g3 24 [.int .i64 b_0_0, .slice Ab_0_1 b_0_1.length cb_0_1], .ro (.sl (.int .i64)) [.slice Ab_0_1 b_0_1.length cb_0_1] b_0_1, .box g6 24 [.int .i64 0, .slice none 0 0], .box g28 22 [.slice Akf30_0_0 kf30_0_0.length ckf30_0_0], .own 3 (.int .i64) (.slice Akf30_0_0 kf30_0_0.length ckf30_0_0) kf30_0_0, .box g35 22 [.slice Ab_0_1 b_0_1.length cb_0_1]] ++ marksF ([] : List Nat)) := hC
        obtain ⟨u58, h59, hb⟩ := bd hb
        refine lex.op (hC.app (i := 7) (s := (.int .i64)) (xs := kf30_0_0) (ys := ([z50] : List Int)) (m := ((([z50] : List Int)).length)) rfl Try.underlying22 Try.underlying22 Try.type3 rfl rfl rfl (hC.srco (i := 0) rfl) rfl rfl (by have := lim_some h59; simp at this ⊢ <;> omega) (by decide)) ?_
        rintro _ w64 ⟨A60, c61, rfl, hl62, hc63, hC, hF, hN⟩
        clear hF hN
        replace hC : Cx (fun _ => False) O0 w w64 ([.own 3 (.int .i64) (.slice A52 ((([z50] : List Int)).length) c53) ([z50] : List Int), .obj l44 oB46, .obj D45 oK47, .box g3 24 [.int .i64 b_0_0, .slice Ab_0_1 b_0_1.length cb_0_1], .ro (.sl (.int .i64)) [.slice Ab_0_1 b_0_1.length cb_0_1] b_0_1, .box g6 24 [.int .i64 0, .slice none 0 0], .box g28 22 [.slice Akf30_0_0 kf30_0_0.length ckf30_0_0], .own 3 (.int .i64) (.slice A60 ((kf30_0_0 ++ ([z50] : List Int)).length) c61) (kf30_0_0 ++ ([z50] : List Int)), .box g35 22 [.slice Ab_0_1 b_0_1.length cb_0_1]] ++ marksF ([] : List Nat)) := hC
        refine lex.sk (hC.setf (i := 6) (k := 0) (v := .slice A60 ((kf30_0_0 ++ ([z50] : List Int)).length) c61) rfl Try.sizeOf22 rfl (by rw [Addr.add_zero']; exact e3) rfl rfl) ?_
        rintro w65 ⟨hC, hF⟩
        refine lex.nil ?_
        obtain rfl := Option.some.inj hb
        replace hC : Cx (fun _ => False) O0 w w65 ([.own 3 (.int .i64) (.slice A52 ((([z50] : List Int)).length) c53) ([z50] : List Int), .obj l44 oB46, .obj D45 oK47, .box g3 24 [.int .i64 b_0_0, .slice Ab_0_1 b_0_1.length cb_0_1], .ro (.sl (.int .i64)) [.slice Ab_0_1 b_0_1.length cb_0_1] b_0_1, .box g6 24 [.int .i64 0, .slice none 0 0], .box g28 22 [.slice A60 ((kf30_0_0 ++ ([z50] : List Int)).length) c61], .own 3 (.int .i64) (.slice A60 ((kf30_0_0 ++ ([z50] : List Int)).length) c61) (kf30_0_0 ++ ([z50] : List Int)), .box g35 22 [.slice Ab_0_1 b_0_1.length cb_0_1]] ++ marksF ([] : List Nat)) := hC
        exact hKn _ _ _ ⟨m40', (kf30_0_0 ++ ([z50] : List Int)), A60, (kf30_0_0 ++ ([z50] : List Int)).length, c61, rfl, lN hl0⟩ (hC.selT [1, 2, 3, 4, 5, 6, 7, 8] (by decide))
      · rintro D_0 L wv ⟨m, kf30_0_0, Akf30_0_0, mkf30_0_0, ckf30_0_0, rfl, hl0⟩ hC
        obtain ⟨m', o2, rfl, hb2, hl2⟩ := loopN_some hl0
        unfold F.braid_Inverse_b0 at hb2
        replace hb2 := (cF (decide_eq_false (Nat.lt_irrefl _))).symm.trans hb2
        obtain rfl := Option.some.inj hb2
        obtain rfl := (lX hl2).symm
        replace hC := hC.markIn
        obtain ⟨rfl, hlkf30_0_0, hckf30_0_0⟩ := (hC.ow (i := 4) rfl).sl_len
        replace hC : Cx (fun _ => False) O0 w wv ([.box g3 24 [.int .i64 b_0_0, .slice Ab_0_1 b_0_1.length cb_0_1], .ro (.sl (.int .i64)) [.slice Ab_0_1 b_0_1.length cb_0_1] b_0_1, .box g6 24 [.int .i64 0, .slice none 0 0], .box g28 22 [.slice Akf30_0_0 kf30_0_0.length ckf30_0_0], .own 3 (.int .i64) (.slice Akf30_0_0 kf30_0_0.length ckf30_0_0) kf30_0_0, .box g35 22 [.slice Ab_0_1 b_0_1.length cb_0_1]] ++ marksF (D_0 :: ([] : List Nat))) := hC
        exact hK39 _ _ ⟨(D_0 :: ([] : List Nat)), kf30_0_0, Akf30_0_0, kf30_0_0.length, ckf30_0_0, e1, e2, e3, rfl, hC.selT [0, 1, 2, 3, 4] (by decide), hb⟩
      · exact fun _ _ _ h => h.elim
      · exact fun _ _ _ _ h => absurd h List.not_mem_nil
    · clear hb hC hl0
      rintro E67 w66 ⟨ms_0, kf30_0_0, Akf30_0_0, mkf30_0_0, ckf30_0_0, e1, e2, e3, hms, hC, hb⟩
      obtain ⟨rfl, hlkf30_0_0, hckf30_0_0⟩ := (hC.ow (i := 4) rfl).sl_len
      refine hK33 _ _ ?_
      refine Wc.seq fun K68 hK68 => ?_
      refine Wc.region (by decide +kernel) ?_
      replace hC : Cx (fun _ => False) O0 w w66 ([.box g3 24 [.int .i64 b_0_0, .slice Ab_0_1 b_0_1.length cb_0_1], .ro (.sl (.int .i64)) [.slice Ab_0_1 b_0_1.length cb_0_1] b_0_1, .box g6 24 [.int .i64 0, .slice none 0 0], .box g28 22 [.slice Akf30_0_0 kf30_0_0.length ckf30_0_0], .own 3 (.int .i64) (.slice Akf30_0_0 kf30_0_0.length ckf30_0_0) kf30_0_0] ++ marksF ms_0) := hC
      refine lex.pure (v := .pointer (some ((⟨g3, 0, none⟩ : Addr).add 0))) (pu_field (sz := 1) Try.underlying24 rfl Try.sizeOf3 (by decide) rfl e1) ?_
      refine lex.val (v := .int .i64 b_0_0) (ld_fld (hC.bx (i := 0) rfl) Try.isAgg3 rfl rfl) ?_
      refine lex.val (v := .slice Akf30_0_0 kf30_0_0.length ckf30_0_0) (ld_one Try.isAgg22 e3 ((hC.bx (i := 3) rfl).cell (j := 0) rfl)) ?_
      refine lex.pure (v := .agg #[.int .i64 b_0_0, .slice Akf30_0_0 kf30_0_0.length ckf30_0_0]) (pu_builds (places := [(0, 1), (1, 1)]) (pv := [(0, .int .i64 b_0_0), (1, .slice Akf30_0_0 kf30_0_0.length ckf30_0_0)]) Try.type24 Try.underlying24 rfl (mp_cons Try.type3 (mp_cons Try.type22 mp_nil rfl rfl) rfl rfl) rfl (by simp [Instr.fill, Value.cells])) ?_
      refine lex.sk (hC.seta (i := 2) (ds := [.int .i64 b_0_0, .slice Akf30_0_0 kf30_0_0.length ckf30_0_0]) rfl Try.type24 rfl rfl rfl e2 rfl) ?_
      rintro w69 ⟨hC, hF⟩
      refine lex.nil ?_
      refine hK68 _ _ ?_
      replace hC : Cx (fun _ => False) O0 w w69 ([.box g3 24 [.int .i64 b_0_0, .slice Ab_0_1 b_0_1.length cb_0_1], .ro (.sl (.int .i64)) [.slice Ab_0_1 b_0_1.length cb_0_1] b_0_1, .box g6 24 [.int .i64 b_0_0, .slice Akf30_0_0 kf30_0_0.length ckf30_0_0], .box g28 22 [.slice Akf30_0_0 kf30_0_0.length ckf30_0_0], .own 3 (.int .i64) (.slice Akf30_0_0 kf30_0_0.length ckf30_0_0) kf30_0_0] ++ marksF ms_0) := hC
      obtain rfl := Option.some.inj hb
      refine Wc.ret ?_
      replace hC : Cx (fun _ => False) O0 w w69 (marksF ms_0 ++ [.box g3 24 [.int .i64 b_0_0, .slice Ab_0_1 b_0_1.length cb_0_1], .ro (.sl (.int .i64)) [.slice Ab_0_1 b_0_1.length cb_0_1] b_0_1, .box g6 24 [.int .i64 b_0_0, .slice Akf30_0_0 kf30_0_0.length ckf30_0_0], .box g28 22 [.slice Akf30_0_0 kf30_0_0.length ckf30_0_0], .own 3 (.int .i64) (.slice Akf30_0_0 kf30_0_0.length ckf30_0_0) kf30_0_0]) := hC.perm List.perm_append_comm
      refine hKR _ _ _ _ _ _ _ hms hC fun w70 hC => ?_
      refine ⟨_, res1 Try.results28 ⟨_, e2, loadVar_blk (hC.bx (i := 2) rfl) Try.isAgg24 Try.sizeOf24⟩, _, rfl, Akf30_0_0, kf30_0_0.length, ckf30_0_0, rfl, hb_0_0, hC.sel [4] (by decide)⟩

set_option maxRecDepth 100000 in
set_option maxHeartbeats 4000000 in
theorem slices_Grow_Lint_int_nil_ok (n : Nat) {w : World} {O0 : List Nat} (hO : ∀ k ∈ O0, k < w.heap.size) {nx_1 : Int} (hnx_1 : I64 nx_1) {r : (List Int)} (hb : F.slices_Grow_Lint_int_nil n nx_1 = some r) :
    Calls Try.prog 66 #[.slice none 0 0, .int .i64 nx_1] w fun e w' => ∃ v, e = .returned v ∧ ∃ (A0 : Option Addr) (m0 c0 : Nat), v = .slice A0 m0 c0 ∧ Cx (fun _ => False) O0 w w' [.own 3 (.int .i64) (.slice A0 m0 c0) r] := by
  unfold F.slices_Grow_Lint_int_nil at hb
  have hC := Cx.start hO
  clear hO
  refine calls_of_Wc Try.func66 rfl (by rw [Try.ntmps66]; exact Nat.le_of_ble_eq_true rfl) fun KR hKR => ?_
  refine Wc.seq fun K1 hK1 => ?_
  refine Wc.region (by decide +kernel) ?_
  refine lex.pure (v := .slice none 0 0) (pu_assign rfl) ?_
  refine lex.nil ?_
  refine hK1 _ _ ?_
  refine Wc.seq fun K2 hK2 => ?_
  refine Wc.seq fun K3 hK3 => ?_
  refine Wc.region (by decide +kernel) ?_
  refine lex.pure (v := .int .i64 nx_1) (pu_move rfl) ?_
  refine lex.pure (v := .bool (decide (nx_1 < 0))) (pu_lss (k := .i64) (a := nx_1) (b := 0) rfl rfl) ?_
  refine lex.nil ?_
  refine hK3 _ _ ?_
  refine Wc.cond (t := (decide (nx_1 < 0))) (rfl) (fun hq4 => ?_) (fun hq4 => ?_)
  · replace hb := (cT hq4).symm.trans hb
    cases hb
  · replace hb := (cF hq4).symm.trans hb
    refine Wc.skip ?_
    refine hK2 _ _ ?_
    refine Wc.seq fun K5 hK5 => ?_
    refine Wc.seq fun K6 hK6 => ?_
    refine Wc.region (by decide +kernel) ?_
    refine lex.pure (v := .int .i64 nx_1) (pu_move rfl) ?_
    refine lex.pure (v := .slice none 0 0) (pu_move rfl) ?_
    refine lex.pure (v := .int .i64 0) (pu_cap (A := none) (n := 0) (m := 0) Try.underlying22 rfl) ?_
    refine lex.pure (v := .slice none 0 0) (pu_move rfl) ?_
    refine lex.pure (v := .int .i64 0) (pu_len (A := none) (n := 0) (m := 0) Try.underlying22 rfl) ?_
    obtain ⟨z7, h8, hb⟩ := bd hb
    refine lex.pure (v := .int .i64 z7) (pu_subc (a := 0) (b := 0) rfl rfl h8) ?_
    obtain ⟨z9, h10, hb⟩ := bd hb
    refine lex.pure (v := .int .i64 z9) (pu_subc (a := nx_1) (b := z7) rfl rfl h10) ?_
    refine lex.pure (v := .int .i64 z9) (pu_assign rfl) ?_
    refine lex.nil ?_
    refine hK6 _ _ ?_
    refine Wc.fresh fun E11 hE => ?_
    have e0 : E11 0 = .slice none 0 0 := (congrFun hE 0).trans rfl
    have e1 : E11 1 = .int .i64 z9 := (congrFun hE 1).trans rfl
    have e4 : E11 4 = .slice none 0 0 := (congrFun hE 4).trans rfl
    clear hE
    refine Wc.seq fun K12 hK12 => ?_
    refine Wc.region (by decide +kernel) ?_
    refine lex.pure (v := .int .i64 z9) (pu_move e1) ?_
    refine lex.pure (v := .bool (decide (0 < z9))) (pu_gtr (k := .i64) (a := z9) (b := 0) rfl rfl) ?_
    refine lex.nil ?_
    refine hK12 _ _ ?_
    refine Wc.cond (t := (decide (0 < z9))) (rfl) (fun hq13 => ?_) (fun hq13 => ?_)
    · replace hb := (cT hq13).symm.trans hb
      refine Wc.region (by decide +kernel) ?_
      refine lex.pure (v := .slice none 0 0) (pu_move e0) ?_
      refine lex.pure (v := .slice none 0 0) (pu_move e0) ?_
      refine lex.pure (v := .int .i64 0) (pu_cap (A := none) (n := 0) (m := 0) Try.underlying22 rfl) ?_
      refine lex.pure (v := .slice none 0 0) (pu_nilcut Try.underlying22 Try.sizeOf3 rfl rfl) ?_
      refine lex.pure (v := .int .i64 z9) (pu_move e1) ?_
      obtain ⟨u14, h15, hb⟩ := bd hb
      refine lex.op (hC.appz (s := (.int .i64)) (n := z9) Try.underlying22 Try.underlying3 Try.type3 rfl rfl rfl rfl rfl (posz_some h15).1 (posz_some h15).2 (by decide)) ?_
      rintro _ w20 ⟨A16, c17, rfl, hl18, hc19, hC, hF, hN⟩
      clear hF hN
      refine lex.pure (v := .slice none 0 0) (pu_move e0) ?_
      refine lex.pure (v := .int .i64 0) (pu_len (A := none) (n := 0) (m := 0) Try.underlying22 rfl) ?_
      obtain ⟨u22, h23, hb⟩ := bd hb
      refine lex.pure (v := .slice A16 (((List.replicate z9.toNat (0 : Int)).take (0 : Int).toNat).length) c17) (pu_cuth (b := 0) Try.underlying22 Try.sizeOf3 rfl rfl (hC.ow (i := 0) rfl).sl_len (cut_some h23)) ?_
      replace hC := hC.cuth (i := 0) rfl (k := (0 : Int).toNat) (by have := cut_some h23; omega)
      obtain ⟨-, hl24, hc25⟩ := (hC.ow (i := 0) rfl).sl_len
      refine lex.pure (v := .slice A16 (((List.replicate z9.toNat (0 : Int)).take (0 : Int).toNat).length) c17) (pu_assign rfl) ?_
      refine lex.nil ?_
      refine hK5 _ _ ?_
      refine Wc.seq fun K26 hK26 => ?_
      refine Wc.region (by decide +kernel) ?_
      refine lex.pure (v := .slice A16 (((List.replicate z9.toNat (0 : Int)).take (0 : Int).toNat).length) c17) (pu_move rfl) ?_
      refine lex.pure (v := .slice A16 (((List.replicate z9.toNat (0 : Int)).take (0 : Int).toNat).length) c17) (pu_assign rfl) ?_
      refine lex.nil ?_
      refine hK26 _ _ ?_
      obtain rfl := Option.some.inj hb
      refine Wc.ret ?_
      refine hKR _ _ ?_
      refine ⟨_, res1 Try.results66 (show RV _ _ _ (.tmp _) (.slice A16 (((List.replicate z9.toNat (0 : Int)).take (0 : Int).toNat).length) c17) from rfl), _, rfl, A16, ((List.replicate z9.toNat (0 : Int)).take (0 : Int).toNat).length, c17, rfl, hC.sel [0] (by decide)⟩
    · replace hb := (cF hq13).symm.trans hb
      refine Wc.skip ?_
      refine hK5 _ _ ?_
      refine Wc.seq fun K27 hK27 => ?_
      refine Wc.region (by decide +kernel) ?_
      refine lex.pure (v := .slice none 0 0) (pu_move e0) ?_
      refine lex.pure (v := .slice none 0 0) (pu_assign rfl) ?_
      refine lex.nil ?_
      refine hK27 _ _ ?_
      replace hC := hC.nil 3 (.int .i64)
      obtain rfl := Option.some.inj hb
      refine Wc.ret ?_
      refine hKR _ _ ?_
      refine ⟨_, res1 Try.results66 (show RV _ _ _ (.tmp _) (.slice none 0 0) from rfl), _, rfl, none, 0, 0, rfl, hC.sel [0] (by decide)⟩

set_option maxRecDepth 100000 in
set_option maxHeartbeats 4000000 in
theorem slices_Concat_Lint_int_ok (n : Nat) {w : World} {O0 : List Nat} (hO : ∀ k ∈ O0, k < w.heap.size) {Aslices_0 : Option Addr} {mslices_0 cslices_0 : Nat} {slices_0 : List (List Int)} (hslices_0 : Rep O0 w (.sl (.sl (.int .i64))) [.slice Aslices_0 mslices_0 cslices_0] slices_0) {r : (List Int)} (hb : F.slices_Concat_Lint_int n slices_0 = some r) :
    Calls Try.prog 47 #[.slice Aslices_0 mslices_0 cslices_0] w fun e w' => ∃ v, e = .returned v ∧ ∃ (A0 : Option Addr) (m0 c0 : Nat), v = .slice A0 m0 c0 ∧ Cx (fun _ => False) O0 w w' [.own 3 (.int .i64) (.slice A0 m0 c0) r] := by
  unfold F.slices_Concat_Lint_int at hb
  have hC := Cx.start hO
  replace hC := hC.arg rfl hslices_0
  clear hO
  obtain ⟨rfl, hlslices_0, hcslices_0⟩ := hslices_0.sl_len
  refine calls_of_Wc Try.func47 rfl (by rw [Try.ntmps47]; exact Nat.le_of_ble_eq_true rfl) fun KR hKR => ?_
  refine Wc.seq fun K2 hK2 => ?_
  refine Wc.region (by decide +kernel) ?_
  refine lex.pure (v := .slice none 0 0) (pu_assign rfl) ?_
  refine lex.nil ?_
  refine hK2 _ _ ?_
  refine Wc.seq fun K3 hK3 => ?_
  refine Wc.region (by decide +kernel) ?_
  refine lex.pure (v := .int .i64 0) (pu_assign rfl) ?_
  refine lex.nil ?_
  refine hK3 _ _ ?_
  refine Wc.seq fun K4 hK4 => ?_
  refine Wc.seq fun K5 hK5 => ?_
  refine Wc.region (by decide +kernel) ?_
  refine lex.pure (v := .slice Aslices_0 slices_0.length cslices_0) (pu_move rfl) ?_
  refine lex.pure (v := .int .i64 (slices_0.length : Int)) (pu_len (A := Aslices_0) (n := slices_0.length) (m := cslices_0) Try.underlying41 rfl) ?_
  refine lex.pure (v := .int .i64 0) (pu_move rfl) ?_
  refine lex.nil ?_
  refine hK5 _ _ ?_
  obtain ⟨o6, hl0, hb⟩ := bd hb
  refine Wc.cut (fun E wv => ∃ (v3_0 : Int) (v11_0 : Int), E 0 = .slice Aslices_0 slices_0.length cslices_0 ∧ E 2 = .slice none 0 0 ∧ E 3 = .int .i64 v3_0 ∧ I64 v3_0 ∧ I64 v11_0 ∧ Cx (fun _ => False) O0 w wv [.ro (.sl (.sl (.int .i64))) [.slice Aslices_0 slices_0.length cslices_0] slices_0] ∧ ((F.slices_Grow_Lint_int_nil n v3_0).bind fun y40 => ((loopN n (F.slices_Concat_Lint_int_b1 n slices_0) (y40, 0)).bind fun o51 => match o51 with     | (l6_1, v27_1) => some l6_1) : Option ((List Int))) = some r) (fun K7 hK7 => ?_) ?_
  · refine Wc.block ?_
    refine Wc.loop (fun m E wv => ∃ (v3_0 : Int) (v11_0 : Int), E 0 = .slice Aslices_0 slices_0.length cslices_0 ∧ E 2 = .slice none 0 0 ∧ E 3 = .int .i64 v3_0 ∧ E 9 = .slice Aslices_0 slices_0.length cslices_0 ∧ E 10 = .int .i64 (slices_0.length : Int) ∧ E 11 = .int .i64 v11_0 ∧ I64 v3_0 ∧ I64 v11_0 ∧ Cx (fun _ => False) O0 w wv [.ro (.sl (.sl (.int .i64))) [.slice Aslices_0 slices_0.length cslices_0] slices_0] ∧ loopN m (F.slices_Concat_Lint_int_b0 n slices_0) (v3_0, v11_0) = some o6) n ⟨0, 0, rfl, rfl, rfl, rfl, rfl, rfl, (show I64 0 from by unfold I64; omega), (show I64 0 from by unfold I64; omega), hC.sel [0] (by decide), hl0⟩ ?_
    have hbK0 := hb
    clear hb hC hl0
    rintro m9 E11 w10 ⟨v3_0, v11_0, e0, e2, e3, e9, e10, e11, hrv3_0, hrv11_0, hC, hl0⟩ K8 hK8
    obtain ⟨m9', o12, rfl, hb, hl0⟩ := loopN_some hl0
    unfold F.slices_Concat_Lint_int_b0 at hb
    refine Wc.seq fun K13 hK13 => ?_
    refine Wc.region (by decide +kernel) ?_
    refine lex.pure (v := .bool (decide (v11_0 < (slices_0.length : Int)))) (pu_lss (k := .i64) (a := v11_0) (b := (slices_0.length : Int)) e11 e10) ?_
    refine lex.nil ?_
    refine hK13 _ _ ?_
    refine Wc.seq fun K14 hK14 => ?_
    refine Wc.cond (t := (decide (v11_0 < (slices_0.length : Int)))) (rfl) (fun hq15 => ?_) (fun hq15 => ?_)
    · replace hb := (cT hq15).symm.trans hb
      refine Wc.skip ?_
      refine hK14 _ _ ?_
      refine Wc.seq fun K16 hK16 => ?_
      refine Wc.block ?_
      refine Wc.seq fun K17 hK17 => ?_
      refine Wc.region (by decide +kernel) ?_
      obtain ⟨x18, h19, hb⟩ := bd hb
      obtain ⟨ad20, cs21, hA, hc22, hr23⟩ := hC.elr (i := 0) rfl (get_some h19).2
      subst hA
      refine lex.pure (v := .pointer (some (ad20.add (v11_0.toNat * 1)))) (pu_index (a := v11_0) Try.underlying41 Try.sizeOf22 e9 e11 (get_some h19).1) ?_
      have hR := hr23
      obtain ⟨A24, c25, rfl, hl26, hc27, _⟩ := hr23
      replace hC := hC.ro hR
      clear hR
      refine lex.val (v := .slice A24 x18.length c25) (ld_one Try.isAgg22 rfl (hc22 0 _ rfl)) ?_
      refine lex.pure (v := .slice A24 x18.length c25) (pu_assign rfl) ?_
      refine lex.nil ?_
      refine hK17 _ _ ?_
      refine Wc.seq fun K29 hK29 => ?_
      refine Wc.region (by decide +kernel) ?_
      refine lex.pure (v := .int .i64 v3_0) (pu_move e3) ?_
      refine lex.pure (v := .slice A24 x18.length c25) (pu_move rfl) ?_
      refine lex.pure (v := .int .i64 (x18.length : Int)) (pu_len (A := A24) (n := x18.length) (m := c25) Try.underlying22 rfl) ?_
      obtain ⟨z30, h31, hb⟩ := bd hb
      refine lex.pure (v := .int .i64 z30) (pu_addc (a := v3_0) (b := (x18.length : Int)) rfl rfl h31) ?_
      refine lex.pure (v := .int .i64 z30) (pu_assign rfl) ?_
      refine lex.nil ?_
      refine hK29 _ _ ?_
      refine Wc.seq fun K32 hK32 => ?_
      refine Wc.region (by decide +kernel) ?_
      refine lex.pure (v := .int .i64 z30) (pu_move rfl) ?_
      refine lex.pure (v := .bool (decide (z30 < 0))) (pu_lss (k := .i64) (a := z30) (b := 0) rfl rfl) ?_
      refine lex.nil ?_
      refine hK32 _ _ ?_
      refine Wc.fresh fun E33 hE => ?_
      have e0 : E33 0 = .slice (some ad20) slices_0.length cslices_0 := (congrFun hE 0).trans e0
      have e2 : E33 2 = .slice none 0 0 := (congrFun hE 2).trans e2
      have e3 : E33 3 = .int .i64 z30 := (congrFun hE 3).trans rfl
      have e5 : E33 5 = .slice A24 x18.length c25 := (congrFun hE 5).trans rfl
      have e9 : E33 9 = .slice (some ad20) slices_0.length cslices_0 := (congrFun hE 9).trans e9
      have e10 : E33 10 = .int .i64 (slices_0.length : Int) := (congrFun hE 10).trans e10
      have e11 : E33 11 = .int .i64 v11_0 := (congrFun hE 11).trans e11
      have e12 : E33 12 = .bool (decide (v11_0 < (slices_0.length : Int))) := (congrFun hE 12).trans rfl
      have e20 : E33 20 = .bool (decide (z30 < 0)) := (congrFun hE 20).trans rfl
      clear hE
      refine Wc.cond (t := (decide (z30 < 0))) (e20) (fun hq34 => ?_) (fun hq34 => ?_)
      · replace hb := (cT hq34).symm.trans hb
        cases hb
      · replace hb := (cF hq34).symm.trans hb
        refine Wc.skip ?_
        refine hK16 _ _ ?_
        refine Wc.region (by decide +kernel) ?_
        obtain ⟨z35, h36, hb⟩ := bd hb
        refine lex.pure (v := .int .i64 z35) (pu_addc (a := v11_0) (b := 1) e11 rfl h36) ?_
        refine lex.pure (v := .int .i64 z35) (pu_move rfl) ?_
        refine lex.nil ?_
        obtain rfl := Option.some.inj hb
        exact hK8 m9' _ _ (Nat.lt_succ_self _) ⟨z30, z35, e0, e2, e3, e9, e10, rfl, (chk_rng h31), (chk_rng h36), hC.sel [1] (by decide), lN hl0⟩
    · replace hb := (cF hq15).symm.trans hb
      refine Wc.exit rfl ?_
      obtain rfl := Option.some.inj hb
      obtain rfl := (lX hl0).symm
      exact hK7 _ _ ⟨v3_0, v11_0, e0, e2, e3, hrv3_0, hrv11_0, hC.sel [0] (by decide), hbK0⟩
  · clear hb hC hl0
    rintro E38 w37 ⟨v3_0, v11_0, e0, e2, e3, hrv3_0, hrv11_0, hC, hb⟩
    refine hK4 _ _ ?_
    refine Wc.seq fun K39 hK39 => ?_
    refine Wc.region (by decide +kernel) ?_
    refine lex.pure (v := .int .i64 v3_0) (pu_move e3) ?_
    obtain ⟨y40, h41, hb⟩ := bd hb
    refine lex.cl (⟨_, _, op_call (vs := [.slice none 0 0, .int .i64 v3_0]) Try.call66 rfl rfl rfl, slices_Grow_Lint_int_nil_ok n hC.lt hrv3_0 h41⟩) ?_
    rintro _ w46 ⟨A42, m43, c44, rfl, hK⟩
    replace hC := hC.merge hK
    clear hK
    obtain ⟨rfl, hl47, hc48⟩ := (hC.ow (i := 0) rfl).sl_len
    refine lex.pure (v := .slice A42 y40.length c44) (pu_assign rfl) ?_
    refine lex.nil ?_
    refine hK39 _ _ ?_
    refine Wc.seq fun K49 hK49 => ?_
    refine Wc.seq fun K50 hK50 => ?_
    refine Wc.region (by decide +kernel) ?_
    refine lex.pure (v := .slice Aslices_0 slices_0.length cslices_0) (pu_move e0) ?_
    refine lex.pure (v := .int .i64 (slices_0.length : Int)) (pu_len (A := Aslices_0) (n := slices_0.length) (m := cslices_0) Try.underlying41 rfl) ?_
    refine lex.pure (v := .int .i64 0) (pu_move rfl) ?_
    refine lex.nil ?_
    refine hK50 _ _ ?_
    obtain ⟨o51, hl1, hb⟩ := bd hb
    refine Wc.cut (fun E wv => ∃ (l6_1 : List Int) (v27_1 : Int) (Al6_1 : Option Addr) (ml6_1 cl6_1 : Nat), E 2 = .slice none 0 0 ∧ E 6 = .slice Al6_1 ml6_1 cl6_1 ∧ I64 v27_1 ∧ Cx (fun _ => False) O0 w wv [.own 3 (.int .i64) (.slice Al6_1 ml6_1 cl6_1) l6_1] ∧ (some l6_1 : Option ((List Int))) = some r) (fun K52 hK52 => ?_) ?_
    · refine Wc.block ?_
      refine Wc.loop (fun m E wv => ∃ (l6_1 : List Int) (v27_1 : Int) (Al6_1 : Option Addr) (ml6_1 cl6_1 : Nat), E 2 = .slice none 0 0 ∧ E 6 = .slice Al6_1 ml6_1 cl6_1 ∧ E 25 = .slice Aslices_0 slices_0.length cslices_0 ∧ E 26 = .int .i64 (slices_0.length : Int) ∧ E 27 = .int .i64 v27_1 ∧ I64 v27_1 ∧ Cx (fun _ => False) O0 w wv [.own 3 (.int .i64) (.slice Al6_1 ml6_1 cl6_1) l6_1, .ro (.sl (.sl (.int .i64))) [.slice Aslices_0 slices_0.length cslices_0] slices_0] ∧ loopN m (F.slices_Concat_Lint_int_b1 n slices_0) (l6_1, v27_1) = some o51) n ⟨y40, 0, A42, y40.length, c44, e2, rfl, rfl, rfl, rfl, (show I64 0 from by unfold I64; omega), hC.sel [0, 1] (by decide), hl1⟩ ?_
      have hbK1 := hb
      clear hb hC hl1
      rintro m54 E56 w55 ⟨l6_1, v27_1, Al6_1, ml6_1, cl6_1, e2, e6, e25, e26, e27, hrv27_1, hC, hl1⟩ K53 hK53
      obtain ⟨m54', o57, rfl, hb, hl1⟩ := loopN_some hl1
      unfold F.slices_Concat_Lint_int_b1 at hb
      obtain ⟨rfl, hll6_1, hcl6_1⟩ := (hC.ow (i := 0) rfl).sl_len
      refine Wc.seq fun K58 hK58 => ?_
      refine Wc.region (by decide +kernel) ?_
      refine lex.pure (v := .bool (decide (v27_1 < (slices_0.length : Int)))) (pu_lss (k := .i64) (a := v27_1) (b := (slices_0.length : Int)) e27 e26) ?_
      refine lex.nil ?_
      refine hK58 _ _ ?_
      refine Wc.seq fun K59 hK59 => ?_
      refine Wc.cond (t := (decide (v27_1 < (slices_0.length : Int)))) (rfl) (fun hq60 => ?_) (fun hq60 => ?_)
      · replace hb := (cT hq60).symm.trans hb
        refine Wc.skip ?_
        refine hK59 _ _ ?_
        refine Wc.seq fun K61 hK61 => ?_
        refine Wc.block ?_
        refine Wc.seq fun K62 hK62 => ?_
        refine Wc.region (by decide +kernel) ?_
        obtain ⟨x63, h64, hb⟩ := bd hb
        obtain ⟨ad65, cs66, hA, hc67, hr68⟩ := hC.elr (i := 1) rfl (get_some h64).2
        subst hA
        refine lex.pure (v := .pointer (some (ad65.add (v27_1.toNat * 1)))) (pu_index (a := v27_1) Try.underlying41 Try.sizeOf22 e25 e27 (get_some h64).1) ?_
        have hR := hr68
        obtain ⟨A69, c70, rfl, hl71, hc72, _⟩ := hr68
        replace hC := hC.ro hR
        clear hR
        refine lex.val (v := .slice A69 x63.length c70) (ld_one Try.isAgg22 rfl (hc67 0 _ rfl)) ?_
        refine lex.pure (v := .slice A69 x63.length c70) (pu_assign rfl) ?_
        refine lex.nil ?_
        refine hK62 _ _ ?_
        refine Wc.region (by decide +kernel) ?_
        refine lex.pure (v := .slice Al6_1 l6_1.length cl6_1) (pu_move e6) ?_
        refine lex.pure (v := .slice A69 x63.length c70) (pu_move rfl) ?_
        obtain ⟨u74, h75, hb⟩ := bd hb
        refine lex.op (hC.app (i := 1) (s := (.int .i64)) (xs := l6_1) (ys := x63) (m := x63.length) rfl Try.underlying22 Try.underlying22 Try.type3 rfl rfl rfl (hC.srcr (i := 0) rfl) rfl rfl (by have := lim_some h75; simp at this ⊢ <;> omega) (by decide)) ?_
        rintro _ w80 ⟨A76, c77, rfl, hl78, hc79, hC, hF, hN⟩
        clear hF hN
        refine lex.pure (v := .slice A76 ((l6_1 ++ x63).length) c77) (pu_assign rfl) ?_
        refine lex.nil ?_
        refine hK61 _ _ ?_
        refine Wc.region (by decide +kernel) ?_
        obtain ⟨z81, h82, hb⟩ := bd hb
        refine lex.pure (v := .int .i64 z81) (pu_addc (a := v27_1) (b := 1) e27 rfl h82) ?_
        refine lex.pure (v := .int .i64 z81) (pu_move rfl) ?_
        refine lex.nil ?_
        obtain rfl := Option.some.inj hb
        exact hK53 m54' _ _ (Nat.lt_succ_self _) ⟨(l6_1 ++ x63), z81, A76, (l6_1 ++ x63).length, c77, e2, rfl, e25, e26, rfl, (chk_rng h82), hC.sel [1, 2] (by decide), lN hl1⟩
      · replace hb := (cF hq60).symm.trans hb
        refine Wc.exit rfl ?_
        obtain rfl := Option.some.inj hb
        obtain rfl := (lX hl1).symm
        exact hK52 _ _ ⟨l6_1, v27_1, Al6_1, l6_1.length, cl6_1, e2, e6, hrv27_1, hC.sel [0] (by decide), hbK1⟩
    · clear hb hC hl1
      rintro E84 w83 ⟨l6_1, v27_1, Al6_1, ml6_1, cl6_1, e2, e6, hrv27_1, hC, hb⟩
      obtain ⟨rfl, hll6_1, hcl6_1⟩ := (hC.ow (i := 0) rfl).sl_len
      refine hK49 _ _ ?_
      refine Wc.seq fun K85 hK85 => ?_
      refine Wc.region (by decide +kernel) ?_
      refine lex.pure (v := .slice Al6_1 l6_1.length cl6_1) (pu_move e6) ?_
      refine lex.pure (v := .slice Al6_1 l6_1.length cl6_1) (pu_assign rfl) ?_
      refine lex.nil ?_
      refine hK85 _ _ ?_
      obtain rfl := Option.some.inj hb
      refine Wc.ret ?_
      refine hKR _ _ ?_
      refine ⟨_, res1 Try.results47 (show RV _ _ _ (.tmp _) (.slice Al6_1 l6_1.length cl6_1) from rfl), _, rfl, Al6_1, l6_1.length, cl6_1, rfl, hC.sel [0] (by decide)⟩

set_option maxRecDepth 100000 in
set_option maxHeartbeats 4000000 in
theorem braid_Mul_ok (n : Nat) {w : World} {O0 : List Nat} (hO : ∀ k ∈ O0, k < w.heap.size) {a_0_0 : Int} (ha_0_0 : I64 a_0_0) {Aa_0_1 : Option Addr} {ma_0_1 ca_0_1 : Nat} {a_0_1 : List Int} (ha_0_1 : Rep O0 w (.sl (.int .i64)) [.slice Aa_0_1 ma_0_1 ca_0_1] a_0_1) {b_1_0 : Int} (hb_1_0 : I64 b_1_0) {Ab_1_1 : Option Addr} {mb_1_1 cb_1_1 : Nat} {b_1_1 : List Int} (hb_1_1 : Rep O0 w (.sl (.int .i64)) [.slice Ab_1_1 mb_1_1 cb_1_1] b_1_1) {r : Int × (List Int) × Int} (hb : F.braid_Mul n a_0_0 a_0_1 b_1_0 b_1_1 = some r) :
    Calls Try.prog 27 #[.agg #[.int .i64 a_0_0, .slice Aa_0_1 ma_0_1 ca_0_1], .agg #[.int .i64 b_1_0, .slice Ab_1_1 mb_1_1 cb_1_1]] w fun e w' => ∃ v, e = .returned v ∧ ∃ (A1 : Option Addr) (m1 c1 : Nat), v = .tuple #[.agg #[.int .i64 r.1, .slice A1 m1 c1], .int .i64 r.2.2] ∧ I64 r.1 ∧ I64 r.2.2 ∧ Cx (fun _ => False) O0 w w' [.own 3 (.int .i64) (.slice A1 m1 c1) r.2.1] := by
  unfold F.braid_Mul at hb
  have hC := Cx.start hO
  replace hC := hC.arg rfl ha_0_1
  replace hC := hC.arg rfl hb_1_1
  clear hO
  obtain ⟨rfl, hla_0_1, hca_0_1⟩ := ha_0_1.sl_len
  obtain ⟨rfl, hlb_1_1, hcb_1_1⟩ := hb_1_1.sl_len
  refine calls_of_Wc Try.func27 rfl (by rw [Try.ntmps27]; exact Nat.le_of_ble_eq_true rfl) fun KR hKR => ?_
  refine Wc.seq fun K3 hK3 => ?_
  refine Wc.region (by decide +kernel) ?_
  refine lex.op (hC.box (cs := [.int .i64 a_0_0, .slice Aa_0_1 a_0_1.length ca_0_1]) rfl rfl) ?_
  rintro _ w5 ⟨g4, rfl, hC, hF, hG⟩
  clear hG
  refine lex.op (hC.box (cs := [.int .i64 b_1_0, .slice Ab_1_1 b_1_1.length cb_1_1]) rfl rfl) ?_
  rintro _ w8 ⟨g7, rfl, hC, hF, hG⟩
  clear hG
  refine lex.op (hC.alloc (cs := [.int .i64 0, .slice none 0 0]) Try.zeroValue24 rfl) ?_
  rintro _ w11 ⟨g10, rfl, hC, hF, hG⟩
  clear hG
  refine lex.pure (v := .int .i64 0) (pu_assign rfl) ?_
  refine lex.nil ?_
  refine hK3 _ _ ?_
  refine Wc.seq fun K13 hK13 => ?_
  refine Wc.seq fun K14 hK14 => ?_
  refine Wc.region (by decide +kernel) ?_
  refine lex.val (v := .agg #[.int .i64 a_0_0, .slice Aa_0_1 a_0_1.length ca_0_1]) (ld_blk (hC.bx (i := 2) rfl) Try.isAgg24 Try.sizeOf24 rfl) ?_
  obtain ⟨y15, h16, hb⟩ := bd hb
  refine lex.cl (⟨_, _, op_call (vs := [.agg #[.int .i64 a_0_0, .slice Aa_0_1 a_0_1.length ca_0_1]]) Try.call16 rfl rfl rfl, braid_Valid_ok n hC.lt ha_0_0 (hC.rd (i := 4) rfl) h16⟩) ?_
  rintro _ w17 ⟨rfl, hK⟩
  replace hC := hC.merge hK
  clear hK
  refine lex.pure (v := .bool (!y15)) (pu_not (q := y15) rfl) ?_
  refine lex.pure (v := .bool (!y15)) (pu_move rfl) ?_
  rcases bS (!y15) with hq18 | hq18
  · replace hb := (cT hq18).symm.trans hb
    refine lex.gskip (want_f rfl rfl (show _ = Value.bool (!y15) from rfl) hq18) ?_
    refine lex.gskip (want_f rfl rfl (show _ = Value.bool (!y15) from rfl) hq18) ?_
    refine lex.gskip (want_f rfl rfl (show _ = Value.bool (!y15) from rfl) hq18) ?_
    refine lex.pure (v := .bool true) (pu_pickT (q := (!y15)) rfl hq18 rfl) ?_
    refine lex.nil ?_
    refine hK14 _ _ ?_
    refine Wc.cond_true (rfl) ?_
    refine Wc.seq fun K19 hK19 => ?_
    refine Wc.region (by decide +kernel) ?_
    refine lex.pure (v := .agg #[.int .i64 0, .slice none 0 0]) (pu_builds (places := [(0, 1), (1, 1)]) (pv := []) Try.type24 Try.underlying24 rfl (mp_cons Try.type3 (mp_cons Try.type22 mp_nil rfl rfl) rfl rfl) rfl (by simp [Instr.fill, Value.cells])) ?_
    refine lex.sk (hC.seta (i := 0) (ds := [.int .i64 0, .slice none 0 0]) rfl Try.type24 rfl rfl rfl rfl rfl) ?_
    rintro w20 ⟨hC, hF⟩
    refine lex.pure (v := .int .i64 1) (pu_assign rfl) ?_
    refine lex.nil ?_
    refine hK19 _ _ ?_
    replace hC := hC.nil 3 (.int .i64)
    obtain rfl := Option.some.inj hb
    refine Wc.ret ?_
    refine hKR _ _ ?_
    refine ⟨_, res2 Try.results27 ⟨_, rfl, loadVar_blk (hC.bx (i := 1) rfl) Try.isAgg24 Try.sizeOf24⟩ (show RV _ _ _ (.tmp _) (.int .i64 1) from rfl), _, rfl, none, 0, 0, rfl, (show I64 0 from by unfold I64; omega), (show I64 1 from by unfold I64; omega), hC.sel [0] (by decide)⟩
  · replace hb := (cF hq18).symm.trans hb
    refine lex.gval (want_t rfl rfl (show _ = Value.bool (!y15) from rfl) hq18) (v := .agg #[.int .i64 b_1_0, .slice Ab_1_1 b_1_1.length cb_1_1]) (ld_blk (hC.bx (i := 1) rfl) Try.isAgg24 Try.sizeOf24 rfl) ?_
    obtain ⟨y22, h23, hb⟩ := bd hb
    refine lex.gcl (want_t rfl rfl (show _ = Value.bool (!y15) from rfl) hq18) (⟨_, _, op_call (vs := [.agg #[.int .i64 b_1_0, .slice Ab_1_1 b_1_1.length cb_1_1]]) Try.call16 rfl rfl rfl, braid_Valid_ok n hC.lt hb_1_0 (hC.rd (i := 3) rfl) h23⟩) ?_
    rintro _ w24 ⟨rfl, hK⟩
    replace hC := hC.merge hK
    clear hK
    refine lex.gpure (want_t rfl rfl (show _ = Value.bool (!y15) from rfl) hq18) (v := .bool (!y22)) (pu_not (q := y22) rfl) ?_
    refine lex.pure (v := .bool (!y22)) (pu_pickF (q := (!y15)) rfl hq18 rfl) ?_
    refine lex.nil ?_
    refine hK14 _ _ ?_
    refine Wc.fresh fun E25 hE => ?_
    have e2 : E25 2 = .pointer (some ⟨g4, 0, none⟩) := (congrFun hE 2).trans rfl
    have e3 : E25 3 = .pointer (some ⟨g7, 0, none⟩) := (congrFun hE 3).trans rfl
    have e4 : E25 4 = .pointer (some ⟨g10, 0, none⟩) := (congrFun hE 4).trans rfl
    have e5 : E25 5 = .int .i64 0 := (congrFun hE 5).trans rfl
    have e13 : E25 13 = .bool (!y22) := (congrFun hE 13).trans rfl
    clear hE
    refine Wc.cond (t := (!y22)) (e13) (fun hq26 => ?_) (fun hq26 => ?_)
    · replace hb := (cT hq26).symm.trans hb
      refine Wc.seq fun K27 hK27 => ?_
      refine Wc.region (by decide +kernel) ?_
      refine lex.pure (v := .agg #[.int .i64 0, .slice none 0 0]) (pu_builds (places := [(0, 1), (1, 1)]) (pv := []) Try.type24 Try.underlying24 rfl (mp_cons Try.type3 (mp_cons Try.type22 mp_nil rfl rfl) rfl rfl) rfl (by simp [Instr.fill, Value.cells])) ?_
      refine lex.sk (hC.seta (i := 0) (ds := [.int .i64 0, .slice none 0 0]) rfl Try.type24 rfl rfl rfl e4 rfl) ?_
      rintro w28 ⟨hC, hF⟩
      refine lex.pure (v := .int .i64 1) (pu_assign rfl) ?_
      refine lex.nil ?_
      refine hK27 _ _ ?_
      replace hC := hC.nil 3 (.int .i64)
      obtain rfl := Option.some.inj hb
      refine Wc.ret ?_
      refine hKR _ _ ?_
      refine ⟨_, res2 Try.results27 ⟨_, e4, loadVar_blk (hC.bx (i := 1) rfl) Try.isAgg24 Try.sizeOf24⟩ (show RV _ _ _ (.tmp _) (.int .i64 1) from rfl), _, rfl, none, 0, 0, rfl, (show I64 0 from by unfold I64; omega), (show I64 1 from by unfold I64; omega), hC.sel [0] (by decide)⟩
    · replace hb := (cF hq26).symm.trans hb
      refine Wc.skip ?_
      refine hK13 _ _ ?_
      refine Wc.seq fun K30 hK30 => ?_
      refine Wc.seq fun K31 hK31 => ?_
      refine Wc.region (by decide +kernel) ?_
      refine lex.pure (v := .pointer (some ((⟨g4, 0, none⟩ : Addr).add 0))) (pu_field (sz := 1) Try.underlying24 rfl Try.sizeOf3 (by decide) rfl e2) ?_
      refine lex.val (v := .int .i64 a_0_0) (ld_fld (hC.bx (i := 2) rfl) Try.isAgg3 rfl rfl) ?_
      refine lex.pure (v := .pointer (some ((⟨g7, 0, none⟩ : Addr).add 0))) (pu_field (sz := 1) Try.underlying24 rfl Try.sizeOf3 (by decide) rfl e3) ?_
      refine lex.val (v := .int .i64 b_1_0) (ld_fld (hC.bx (i := 1) rfl) Try.isAgg3 rfl rfl) ?_
      refine lex.pure (v := .bool (!(decide (a_0_0 = b_1_0)))) (pu_neq (k := .i64) (a := a_0_0) (b := b_1_0) rfl rfl) ?_
      refine lex.nil ?_
      refine hK31 _ _ ?_
      refine Wc.cond (t := (!(decide (a_0_0 = b_1_0)))) (rfl) (fun hq32 => ?_) (fun hq32 => ?_)
      · replace hb := (cT hq32).symm.trans hb
        refine Wc.seq fun K33 hK33 => ?_
        refine Wc.region (by decide +kernel) ?_
        refine lex.pure (v := .agg #[.int .i64 0, .slice none 0 0]) (pu_builds (places := [(0, 1), (1, 1)]) (pv := []) Try.type24 Try.underlying24 rfl (mp_cons Try.type3 (mp_cons Try.type22 mp_nil rfl rfl) rfl rfl) rfl (by simp [Instr.fill, Value.cells])) ?_
        refine lex.sk (hC.seta (i := 0) (ds := [.int .i64 0, .slice none 0 0]) rfl Try.type24 rfl rfl rfl e4 rfl) ?_
        rintro w34 ⟨hC, hF⟩
        refine lex.pure (v := .int .i64 2) (pu_assign rfl) ?_
        refine lex.nil ?_
        refine hK33 _ _ ?_
        replace hC := hC.nil 3 (.int .i64)
        obtain rfl := Option.some.inj hb
        refine Wc.ret ?_
        refine hKR _ _ ?_
        refine ⟨_, res2 Try.results27 ⟨_, e4, loadVar_blk (hC.bx (i := 1) rfl) Try.isAgg24 Try.sizeOf24⟩ (show RV _ _ _ (.tmp _) (.int .i64 2) from rfl), _, rfl, none, 0, 0, rfl, (show I64 0 from by unfold I64; omega), (show I64 2 from by unfold I64; omega), hC.sel [0] (by decide)⟩
      · replace hb := (cF hq32).symm.trans hb
        refine Wc.skip ?_
        refine hK30 _ _ ?_
        refine Wc.seq fun K36 hK36 => ?_
        refine Wc.seq fun K37 hK37 => ?_
        refine Wc.region (by decide +kernel) ?_
        refine lex.pure (v := .pointer (some ((⟨g4, 0, none⟩ : Addr).add 1))) (pu_field (sz := 1) Try.underlying24 rfl Try.sizeOf22 (by decide) rfl e2) ?_
        refine lex.val (v := .slice Aa_0_1 a_0_1.length ca_0_1) (ld_fld (hC.bx (i := 2) rfl) Try.isAgg22 rfl rfl) ?_
        refine lex.pure (v := .int .i64 (a_0_1.length : Int)) (pu_len (A := Aa_0_1) (n := a_0_1.length) (m := ca_0_1) Try.underlying22 rfl) ?_
        refine lex.pure (v := .pointer (some ((⟨g7, 0, none⟩ : Addr).add 1))) (pu_field (sz := 1) Try.underlying24 rfl Try.sizeOf22 (by decide) rfl e3) ?_
        refine lex.val (v := .slice Ab_1_1 b_1_1.length cb_1_1) (ld_fld (hC.bx (i := 1) rfl) Try.isAgg22 rfl rfl) ?_
        refine lex.pure (v := .int .i64 (b_1_1.length : Int)) (pu_len (A := Ab_1_1) (n := b_1_1.length) (m := cb_1_1) Try.underlying22 rfl) ?_
        obtain ⟨z38, h39, hb⟩ := bd hb
        refine lex.pure (v := .int .i64 z38) (pu_addc (a := (a_0_1.length : Int)) (b := (b_1_1.length : Int)) rfl rfl h39) ?_
        refine lex.pure (v := .bool (decide (200 < z38))) (pu_gtr (k := .i64) (a := z38) (b := 200) rfl rfl) ?_
        refine lex.nil ?_
        refine hK37 _ _ ?_
        refine Wc.fresh fun E40 hE => ?_
        have e2 : E40 2 = .pointer (some ⟨g4, 0, none⟩) := (congrFun hE 2).trans e2
        have e3 : E40 3 = .pointer (some ⟨g7, 0, none⟩) := (congrFun hE 3).trans e3
        have e4 : E40 4 = .pointer (some ⟨g10, 0, none⟩) := (congrFun hE 4).trans e4
        have e5 : E40 5 = .int .i64 0 := (congrFun hE 5).trans e5
        have e28 : E40 28 = .bool (decide (200 < z38)) := (congrFun hE 28).trans rfl
        clear hE
        refine Wc.cond (t := (decide (200 < z38))) (e28) (fun hq41 => ?_) (fun hq41 => ?_)
        · replace hb := (cT hq41).symm.trans hb
          refine Wc.seq fun K42 hK42 => ?_
          refine Wc.region (by decide +kernel) ?_
          refine lex.pure (v := .agg #[.int .i64 0, .slice none 0 0]) (pu_builds (places := [(0, 1), (1, 1)]) (pv := []) Try.type24 Try.underlying24 rfl (mp_cons Try.type3 (mp_cons Try.type22 mp_nil rfl rfl) rfl rfl) rfl (by simp [Instr.fill, Value.cells])) ?_
          refine lex.sk (hC.seta (i := 0) (ds := [.int .i64 0, .slice none 0 0]) rfl Try.type24 rfl rfl rfl e4 rfl) ?_
          rintro w43 ⟨hC, hF⟩
          refine lex.pure (v := .int .i64 5) (pu_assign rfl) ?_
          refine lex.nil ?_
          refine hK42 _ _ ?_
          replace hC := hC.nil 3 (.int .i64)
          obtain rfl := Option.some.inj hb
          refine Wc.ret ?_
          refine hKR _ _ ?_
          refine ⟨_, res2 Try.results27 ⟨_, e4, loadVar_blk (hC.bx (i := 1) rfl) Try.isAgg24 Try.sizeOf24⟩ (show RV _ _ _ (.tmp _) (.int .i64 5) from rfl), _, rfl, none, 0, 0, rfl, (show I64 0 from by unfold I64; omega), (show I64 5 from by unfold I64; omega), hC.sel [0] (by decide)⟩
        · replace hb := (cF hq41).symm.trans hb
          refine Wc.skip ?_
          refine hK36 _ _ ?_
          refine Wc.seq fun K45 hK45 => ?_
          refine Wc.regionMix [31, 33, 35] (frm [31, 33, 35] ([] : List Fact) [.box g10 24 [.int .i64 0, .slice none 0 0]]) (fun _ => rfl) mixed (by decide +kernel) (by decide +kernel) fun w47 hw46 => ?_
          replace hC := hC.step (Fr.of_drew hw46)
          have hM := Fr.refl (fun k => k ∈ blocks ([] : List Fact)) w47
          clear hw46
          have hS := hC
          have hD : Fr (fun k => k ∈ blocks (([] : List Fact) ++ [.box g10 24 [.int .i64 0, .slice none 0 0]])) w47 w47 := hM.wide
          have hUf12 : g10 < w47.heap.size → g10 ∈ blocks (([] : List Fact) ++ [.box g10 24 [.int .i64 0, .slice none 0 0]]) := fun _ => box_in (i := 0) rfl
          refine mixE.pure (v := .pointer (some ((⟨g4, 0, none⟩ : Addr).add 0))) (pu_field (sz := 1) Try.underlying24 rfl Try.sizeOf3 (by decide) rfl e2) ?_
          refine mixE.steady hD (v := .int .i64 a_0_0) (fun _ hF => ld_fld (hS.bx2 (i := 2) rfl [0] (by decide) hF) Try.isAgg3 rfl rfl) ?_
          refine mixE.pure (v := .pointer (some ((⟨g4, 0, none⟩ : Addr).add 1))) (pu_field (sz := 1) Try.underlying24 rfl Try.sizeOf22 (by decide) rfl e2) ?_
          refine mixE.steady hD (v := .slice Aa_0_1 a_0_1.length ca_0_1) (fun _ hF => ld_fld (hS.bx2 (i := 2) rfl [0] (by decide) hF) Try.isAgg22 rfl rfl) ?_
          refine mixE.pure (v := .pointer (some ((⟨g7, 0, none⟩ : Addr).add 1))) (pu_field (sz := 1) Try.underlying24 rfl Try.sizeOf22 (by decide) rfl e3) ?_
          refine mixE.steady hD (v := .slice Ab_1_1 b_1_1.length cb_1_1) (fun _ hF => ld_fld (hS.bx2 (i := 1) rfl [0] (by decide) hF) Try.isAgg22 rfl rfl) ?_
          refine mixE.op hM (hC.lit (s := (.sl (.int .i64))) (vs := [.slice Aa_0_1 a_0_1.length ca_0_1, .slice Ab_1_1 b_1_1.length cb_1_1]) (xs := [a_0_1, b_1_1]) Try.underlying41 Try.type22 rfl rfl (Nat.le_of_ble_eq_true rfl) rfl rfl (by simp [Value.cells, Sh.n]) rfl (show Elems _ _ (.sl (.int .i64)) ([.slice Aa_0_1 a_0_1.length ca_0_1] ++ ([.slice Ab_1_1 b_1_1.length cb_1_1] ++ ([]))) ([a_0_1, b_1_1] : List (List Int)) from Elems.cons (hC.rd (i := 4) rfl) (Elems.cons (hC.rd (i := 3) rfl) (Elems.nil _ _ _)))) ?_
          rintro _ w52 ⟨A48, c49, rfl, hl50, hc51, hC, hF, hN⟩
          have hBf53 := Beside.new hM hN
          have hUf53 := Beside.new (hM.wide (H := [.box g10 24 [.int .i64 0, .slice none 0 0]])) hN
          replace hM := hM.none hF
          replace hD := hM.wide (H := [.box g10 24 [.int .i64 0, .slice none 0 0]])
          refine ⟨hM, ?_⟩
          clear hF hN
          obtain ⟨y54, h55, hb⟩ := bd hb
          refine mixE.cl hM (⟨_, _, op_call (vs := [.slice A48 ((([a_0_1, b_1_1] : List (List Int))).length) c49]) Try.call47 rfl rfl rfl, slices_Concat_Lint_int_ok n (hC.lentLt [.slice A48 ((([a_0_1, b_1_1] : List (List Int))).length) c49]) ((hC.ow (i := 0) rfl).lend (vs := [.slice A48 ((([a_0_1, b_1_1] : List (List Int))).length) c49]) (by simp)) h55⟩) ?_
          rintro _ w60 ⟨A56, m57, c58, rfl, hK⟩
          have hBf59 := Beside.cl (i := 0) hM hK rfl
          have hUf59 := hBf59.wide (H := [.box g10 24 [.int .i64 0, .slice none 0 0]])
          replace hM := hM.none hK.fr
          replace hD := hM.wide (H := [.box g10 24 [.int .i64 0, .slice none 0 0]])
          refine ⟨hM, ?_⟩
          replace hC := hC.mergeF hK rfl
          clear hK
          obtain ⟨rfl, hl61, hc62⟩ := (hC.ow (i := 0) rfl).sl_len
          refine mixE.pure (v := .agg #[.int .i64 a_0_0, .slice A56 y54.length c58]) (pu_builds (places := [(0, 1), (1, 1)]) (pv := [(0, .int .i64 a_0_0), (1, .slice A56 y54.length c58)]) Try.type24 Try.underlying24 rfl (mp_cons Try.type3 (mp_cons Try.type22 mp_nil rfl rfl) rfl rfl) rfl (by simp [Instr.fill, Value.cells])) ?_
          refine mixE.sk hD (hC.seta (i := 2) (ds := [.int .i64 a_0_0, .slice A56 y54.length c58]) rfl Try.type24 rfl rfl rfl e4 rfl) ?_
          rintro w63 ⟨hC, hF⟩
          replace hD := hD.besideG hUf12 hF
          clear hF
          refine ⟨hD, ?_⟩
          refine mixE.pure (v := .int .i64 0) (pu_assign rfl) ?_
          refine mixE.nil ?_
          clear hS hM
          clear hD
          refine hK45 _ _ ?_
          obtain rfl := Option.some.inj hb
          refine Wc.ret ?_
          refine hKR _ _ ?_
          refine ⟨_, res2 Try.results27 ⟨_, e4, loadVar_blk (hC.bx (i := 2) rfl) Try.isAgg24 Try.sizeOf24⟩ (show RV _ _ _ (.tmp _) (.int .i64 0) from rfl), _, rfl, A56, y54.length, c58, rfl, ha_0_0, (show I64 0 from by unfold I64; omega), hC.sel [0] (by decide)⟩
end Go.Proofs.Ytlkmcbgkohpmiaa
