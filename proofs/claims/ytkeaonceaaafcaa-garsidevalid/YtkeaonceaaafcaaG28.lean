/- The walks: part 28. -/
import Derived.Test.YtkeaonceaaafcaaS
import Derived.Test.YtkeaonceaaafcaaG27
set_option linter.unusedVariables false
set_option linter.unusedSimpArgs false
namespace Go.Proofs.Ytkeaonceaaafcaa
open Ev
set_option maxRecDepth 100000 in
set_option maxHeartbeats 4000000 in
theorem garside_Canonical_ok (n : Nat) {w : World} {O0 : List Nat} (hO : ∀ k ∈ O0, k < w.heap.size) {nx_0_0 : Int} (hnx_0_0 : I64 nx_0_0) {nx_0_1 : Int} (hnx_0_1 : I64 nx_0_1) {Anx_0_2 : Option Addr} {mnx_0_2 cnx_0_2 : Nat} {nx_0_2 : List (List Int)} (hnx_0_2 : Rep O0 w (.sl (.sl (.int .i64))) [.slice Anx_0_2 mnx_0_2 cnx_0_2] nx_0_2) {r : Int × Int} (hb : F.garside_Canonical n nx_0_0 nx_0_1 nx_0_2 = some r) :
    Calls Try.prog 34 #[.agg #[.int .i64 nx_0_0, .int .i64 nx_0_1, .slice Anx_0_2 mnx_0_2 cnx_0_2]] w fun e w' => ∃ v, e = .returned v ∧ v = .tuple #[.int .i64 r.1, .int .i64 r.2] ∧ I64 r.1 ∧ I64 r.2 ∧ Cx (fun _ => False) O0 w w' [] := by
  unfold F.garside_Canonical at hb
  have hC := Cx.start hO
  replace hC := hC.arg rfl hnx_0_2
  clear hO
  obtain ⟨rfl, hlnx_0_2, hcnx_0_2⟩ := hnx_0_2.sl_len
  refine calls_of_Wc Try.func34 rfl (by rw [Try.ntmps34]; exact Nat.le_of_ble_eq_true rfl) fun KR hKR => ?_
  refine Wc.seq fun K2 hK2 => ?_
  refine Wc.region (by decide +kernel) ?_
  refine lex.op (hC.box (cs := [.int .i64 nx_0_0, .int .i64 nx_0_1, .slice Anx_0_2 nx_0_2.length cnx_0_2]) rfl rfl) ?_
  rintro _ w4 ⟨g3, rfl, hC, hF, hG⟩
  clear hG
  refine lex.pure (v := .int .i64 0) (pu_assign rfl) ?_
  refine lex.pure (v := .int .i64 0) (pu_assign rfl) ?_
  refine lex.nil ?_
  refine hK2 _ _ ?_
  refine Wc.seq fun K6 hK6 => ?_
  refine Wc.seq fun K7 hK7 => ?_
  refine Wc.region (by decide +kernel) ?_
  refine lex.val (v := .agg #[.int .i64 nx_0_0, .int .i64 nx_0_1, .slice Anx_0_2 nx_0_2.length cnx_0_2]) (ld_blk (hC.bx (i := 0) rfl) Try.isAgg28 Try.sizeOf28 rfl) ?_
  obtain ⟨y8, h9, hb⟩ := bd hb
  refine lex.cl (⟨_, _, op_call (vs := [.agg #[.int .i64 nx_0_0, .int .i64 nx_0_1, .slice Anx_0_2 nx_0_2.length cnx_0_2]]) Try.call36 rfl rfl rfl, garside_Valid_ok n hC.lt hnx_0_0 hnx_0_1 (hC.rd (i := 1) rfl) h9⟩) ?_
  rintro _ w10 ⟨rfl, hK⟩
  replace hC := hC.merge hK
  clear hK
  refine lex.pure (v := .bool (!y8)) (pu_not (q := y8) rfl) ?_
  refine lex.nil ?_
  refine hK7 _ _ ?_
  refine Wc.cond (t := (!y8)) (rfl) (fun hq11 => ?_) (fun hq11 => ?_)
  · replace hb := (cT hq11).symm.trans hb
    refine Wc.seq fun K12 hK12 => ?_
    refine Wc.region (by decide +kernel) ?_
    refine lex.pure (v := .int .i64 0) (pu_assign rfl) ?_
    refine lex.pure (v := .int .i64 0) (pu_assign rfl) ?_
    refine lex.nil ?_
    refine hK12 _ _ ?_
    obtain rfl := Option.some.inj hb
    refine Wc.ret ?_
    refine hKR _ _ ?_
    refine ⟨_, res2 Try.results34 (show RV _ _ _ (.tmp _) (.int .i64 0) from rfl) (show RV _ _ _ (.tmp _) (.int .i64 0) from rfl), _, rfl, rfl, (show I64 0 from by unfold I64; omega), (show I64 0 from by unfold I64; omega), hC.sel [] (by decide)⟩
  · replace hb := (cF hq11).symm.trans hb
    refine Wc.skip ?_
    refine hK6 _ _ ?_
    refine Wc.seq fun K13 hK13 => ?_
    refine Wc.regionMix [] (frm [] ([] : List Fact) ([] : List Fact)) (fun _ => rfl) mixed (by decide +kernel) (by decide +kernel) fun w15 hw14 => ?_
    replace hC := hC.step (Fr.of_drew hw14)
    have hM := Fr.refl (fun k => k ∈ blocks ([] : List Fact)) w15
    clear hw14
    have hS := hC
    refine mixE.pure (v := .pointer (some ((⟨g3, 0, none⟩ : Addr).add 1))) (pu_field (sz := 1) Try.underlying28 rfl Try.sizeOf3 (by decide) rfl rfl) ?_
    refine mixE.load hM (v := .int .i64 nx_0_1) (fun _ hF => ld_fld (hS.bx2 (i := 0) rfl [] (by decide) hF) Try.isAgg3 rfl rfl) ?_
    refine mixE.pure (v := .pointer (some ((⟨g3, 0, none⟩ : Addr).add 1))) (pu_field (sz := 1) Try.underlying28 rfl Try.sizeOf3 (by decide) rfl rfl) ?_
    refine mixE.load hM (v := .int .i64 nx_0_1) (fun _ hF => ld_fld (hS.bx2 (i := 0) rfl [] (by decide) hF) Try.isAgg3 rfl rfl) ?_
    refine mixE.pure (v := .pointer (some ((⟨g3, 0, none⟩ : Addr).add 2))) (pu_field (sz := 1) Try.underlying28 rfl Try.sizeOf26 (by decide) rfl rfl) ?_
    refine mixE.load hM (v := .slice Anx_0_2 nx_0_2.length cnx_0_2) (fun _ hF => ld_fld (hS.bx2 (i := 0) rfl [] (by decide) hF) Try.isAgg26 rfl rfl) ?_
    refine mixE.pure (v := .int .i64 (nx_0_2.length : Int)) (pu_len (A := Anx_0_2) (n := nx_0_2.length) (m := cnx_0_2) Try.underlying26 rfl) ?_
    obtain ⟨z16, h17, hb⟩ := bd hb
    refine mixE.pure (v := .int .i64 z16) (pu_addc (a := nx_0_1) (b := (nx_0_2.length : Int)) rfl rfl h17) ?_
    refine mixE.pure (v := .int .i64 nx_0_1) (pu_assign rfl) ?_
    refine mixE.pure (v := .int .i64 z16) (pu_assign rfl) ?_
    refine mixE.nil ?_
    clear hS hM
    refine hK13 _ _ ?_
    obtain rfl := Option.some.inj hb
    refine Wc.ret ?_
    refine hKR _ _ ?_
    refine ⟨_, res2 Try.results34 (show RV _ _ _ (.tmp _) (.int .i64 nx_0_1) from rfl) (show RV _ _ _ (.tmp _) (.int .i64 z16) from rfl), _, rfl, rfl, hnx_0_1, (chk_rng h17), hC.sel [] (by decide)⟩
end Go.Proofs.Ytkeaonceaaafcaa
