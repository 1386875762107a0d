/- The walks: part 31. -/
import Derived.Test.YtkeaonceaaafcaaS
import Derived.Test.YtkeaonceaaafcaaG4
import Derived.Test.YtkeaonceaaafcaaG6
import Derived.Test.YtkeaonceaaafcaaG8
import Derived.Test.YtkeaonceaaafcaaG11
import Derived.Test.YtkeaonceaaafcaaG25
import Derived.Test.YtkeaonceaaafcaaG27
import Derived.Test.YtkeaonceaaafcaaG28
import Derived.Test.YtkeaonceaaafcaaG30
set_option linter.unusedVariables false
set_option linter.unusedSimpArgs false
namespace Go.Proofs.Ytkeaonceaaafcaa
open Ev
set_option maxRecDepth 100000 in
set_option maxHeartbeats 4000000 in
theorem law34_GarsideValid_ok (n : Nat) {w : World} {O0 : List Nat} (hO : ∀ k ∈ O0, k < w.heap.size) {nx_0_0 : Int} (hnx_0_0 : I64 nx_0_0) {nx_0_1 : Int} (hnx_0_1 : I64 nx_0_1) {Anx_0_2 : Option Addr} {mnx_0_2 cnx_0_2 : Nat} {nx_0_2 : List (List Int)} (hnx_0_2 : Rep O0 w (.sl (.sl (.int .i64))) [.slice Anx_0_2 mnx_0_2 cnx_0_2] nx_0_2) {r : Bool} (hb : F.law34_GarsideValid n nx_0_0 nx_0_1 nx_0_2 = some r) :
    Calls Try.prog 9 #[.agg #[.int .i64 nx_0_0, .int .i64 nx_0_1, .slice Anx_0_2 mnx_0_2 cnx_0_2]] w fun e w' => ∃ v, e = .returned v ∧ v = .bool r ∧ Cx (fun _ => False) O0 w w' [] := by
  unfold F.law34_GarsideValid at hb
  have hC := Cx.start hO
  replace hC := hC.arg rfl hnx_0_2
  clear hO
  obtain ⟨rfl, hlnx_0_2, hcnx_0_2⟩ := hnx_0_2.sl_len
  refine calls_of_Wc Try.func9 rfl (by rw [Try.ntmps9]; exact Nat.le_of_ble_eq_true rfl) fun KR hKR => ?_
  refine Wc.seq fun K2 hK2 => ?_
  refine Wc.region (by decide +kernel) ?_
  refine lex.op (hC.box (cs := [.int .i64 nx_0_0, .int .i64 nx_0_1, .slice Anx_0_2 nx_0_2.length cnx_0_2]) rfl rfl) ?_
  rintro _ w4 ⟨g3, rfl, hC, hF, hG⟩
  clear hG
  refine lex.pure (v := .bool false) (pu_assign rfl) ?_
  refine lex.nil ?_
  refine hK2 _ _ ?_
  refine Wc.seq fun K6 hK6 => ?_
  refine Wc.seq fun K7 hK7 => ?_
  refine Wc.region (by decide +kernel) ?_
  obtain ⟨y8, h9, hb⟩ := bd hb
  refine lex.cl (⟨_, _, op_call (vs := []) Try.call12 rfl rfl rfl, law34_awake_ok n hC.lt  h9⟩) ?_
  rintro _ w10 ⟨rfl, hK⟩
  replace hC := hC.merge hK
  clear hK
  refine lex.pure (v := .bool (!y8)) (pu_not (q := y8) rfl) ?_
  refine lex.pure (v := .bool (!y8)) (pu_move rfl) ?_
  rcases bS (!y8) with hq11 | hq11
  · replace hb := (cT hq11).symm.trans hb
    refine lex.gskip (want_f rfl rfl (show _ = Value.bool (!y8) from rfl) hq11) ?_
    refine lex.gskip (want_f rfl rfl (show _ = Value.bool (!y8) from rfl) hq11) ?_
    refine lex.gskip (want_f rfl rfl (show _ = Value.bool (!y8) from rfl) hq11) ?_
    refine lex.gskip (want_f rfl rfl (show _ = Value.bool (!y8) from rfl) hq11) ?_
    refine lex.pure (v := .bool true) (pu_pickT (q := (!y8)) rfl hq11 rfl) ?_
    refine lex.nil ?_
    refine hK7 _ _ ?_
    refine Wc.cond_true (rfl) ?_
    refine Wc.seq fun K12 hK12 => ?_
    refine Wc.region (by decide +kernel) ?_
    obtain ⟨y13, h14, hb⟩ := bd hb
    refine lex.cl (⟨_, _, op_call (vs := []) Try.call12 rfl rfl rfl, law34_awake_ok n hC.lt  h14⟩) ?_
    rintro _ w15 ⟨rfl, hK⟩
    replace hC := hC.merge hK
    clear hK
    refine lex.pure (v := .bool y13) (pu_assign rfl) ?_
    refine lex.nil ?_
    refine hK12 _ _ ?_
    obtain rfl := Option.some.inj hb
    refine Wc.ret ?_
    refine hKR _ _ ?_
    refine ⟨_, res1 Try.results9 (show RV _ _ _ (.tmp _) (.bool y13) from rfl), _, rfl, rfl, hC.sel [] (by decide)⟩
  · replace hb := (cF hq11).symm.trans hb
    refine lex.gpure (want_t rfl rfl (show _ = Value.bool (!y8) from rfl) hq11) (v := .pointer (some ((⟨g3, 0, none⟩ : Addr).add 2))) (pu_field (sz := 1) Try.underlying28 rfl Try.sizeOf26 (by decide) rfl rfl) ?_
    refine lex.gval (want_t rfl rfl (show _ = Value.bool (!y8) from rfl) hq11) (v := .slice Anx_0_2 nx_0_2.length cnx_0_2) (ld_fld (hC.bx (i := 0) rfl) Try.isAgg26 rfl rfl) ?_
    refine lex.gpure (want_t rfl rfl (show _ = Value.bool (!y8) from rfl) hq11) (v := .int .i64 (nx_0_2.length : Int)) (pu_len (A := Anx_0_2) (n := nx_0_2.length) (m := cnx_0_2) Try.underlying26 rfl) ?_
    refine lex.gpure (want_t rfl rfl (show _ = Value.bool (!y8) from rfl) hq11) (v := .bool (decide (40 < (nx_0_2.length : Int)))) (pu_gtr (k := .i64) (a := (nx_0_2.length : Int)) (b := 40) rfl rfl) ?_
    refine lex.pure (v := .bool (decide (40 < (nx_0_2.length : Int)))) (pu_pickF (q := (!y8)) rfl hq11 rfl) ?_
    refine lex.nil ?_
    refine hK7 _ _ ?_
    refine Wc.fresh fun E16 hE => ?_
    have e1 : E16 1 = .pointer (some ⟨g3, 0, none⟩) := (congrFun hE 1).trans rfl
    have e2 : E16 2 = .bool false := (congrFun hE 2).trans rfl
    have e18 : E16 18 = .bool (decide (40 < (nx_0_2.length : Int))) := (congrFun hE 18).trans rfl
    clear hE
    refine Wc.cond (t := (decide (40 < (nx_0_2.length : Int)))) (e18) (fun hq17 => ?_) (fun hq17 => ?_)
    · replace hb := (cT hq17).symm.trans hb
      refine Wc.seq fun K18 hK18 => ?_
      refine Wc.region (by decide +kernel) ?_
      obtain ⟨y19, h20, hb⟩ := bd hb
      refine lex.cl (⟨_, _, op_call (vs := []) Try.call12 rfl rfl rfl, law34_awake_ok n hC.lt  h20⟩) ?_
      rintro _ w21 ⟨rfl, hK⟩
      replace hC := hC.merge hK
      clear hK
      refine lex.pure (v := .bool y19) (pu_assign rfl) ?_
      refine lex.nil ?_
      refine hK18 _ _ ?_
      obtain rfl := Option.some.inj hb
      refine Wc.ret ?_
      refine hKR _ _ ?_
      refine ⟨_, res1 Try.results9 (show RV _ _ _ (.tmp _) (.bool y19) from rfl), _, rfl, rfl, hC.sel [] (by decide)⟩
    · replace hb := (cF hq17).symm.trans hb
      refine Wc.skip ?_
      refine hK6 _ _ ?_
      refine Wc.seq fun K22 hK22 => ?_
      refine Wc.seq fun K23 hK23 => ?_
      refine Wc.region (by decide +kernel) ?_
      refine lex.pure (v := .pointer (some ((⟨g3, 0, none⟩ : Addr).add 2))) (pu_field (sz := 1) Try.underlying28 rfl Try.sizeOf26 (by decide) rfl e1) ?_
      refine lex.val (v := .slice Anx_0_2 nx_0_2.length cnx_0_2) (ld_fld (hC.bx (i := 0) rfl) Try.isAgg26 rfl rfl) ?_
      refine lex.pure (v := .int .i64 (nx_0_2.length : Int)) (pu_len (A := Anx_0_2) (n := nx_0_2.length) (m := cnx_0_2) Try.underlying26 rfl) ?_
      refine lex.pure (v := .int .i64 0) (pu_move rfl) ?_
      refine lex.nil ?_
      refine hK23 _ _ ?_
      obtain ⟨o24, hl0, hb⟩ := bd hb
      refine Wc.cut (fun E wv => ∃ (v23_0 : Int), E 1 = .pointer (some ⟨g3, 0, none⟩) ∧ E 2 = .bool false ∧ I64 v23_0 ∧ Cx (fun _ => False) O0 w wv [.box g3 28 [.int .i64 nx_0_0, .int .i64 nx_0_1, .slice Anx_0_2 nx_0_2.length cnx_0_2], .ro (.sl (.sl (.int .i64))) [.slice Anx_0_2 nx_0_2.length cnx_0_2] nx_0_2] ∧ ((F.law34_plain n nx_0_2).bind fun y57 => (F.ref34_Valid n nx_0_0 nx_0_1 y57).bind fun y66 => (F.garside_Canonical n nx_0_0 nx_0_1 nx_0_2).bind fun y70 => (F.garside_Word n nx_0_0 nx_0_1 nx_0_2).bind fun y77 => (F.garside_Valid n nx_0_0 nx_0_1 nx_0_2).bind fun y94 => cond (!(y94 == y66)) (some false) (cond (!y66) (cond (decide (y70.1 = 0)) (cond (decide (y70.2 = 0)) (cond (decide (y77.2.2 = 1)) (cond (decide (y77.1 = 0)) (some (decide ((y77.2.1.length : Int) = 0))) (some false)) (some false)) (some false)) (some false)) (cond (!(decide (y70.1 = nx_0_1))) (some false) ((chk (nx_0_1 + (nx_0_2.length : Int))).bind fun z112 => cond (!(decide (y70.2 = z112))) (some false) ((F.law34_plain n nx_0_2).bind fun y120 => (F.ref34_Whole n nx_0_0 nx_0_1 y120).bind fun y129 => cond (decide (200 < (y129.length : Int))) (cond (decide (y77.2.2 = 5)) (cond (decide (y77.1 = 0)) (some (decide ((y77.2.1.length : Int) = 0))) (some false)) (some false)) (cond (decide (y77.2.2 = 0)) (cond (decide (y77.1 = nx_0_0)) ((F.slices_Equal_Lint_int n y77.2.1 y129).bind fun y148 => some y148) (some false)) (some false)))))) : Option (Bool)) = some r) (fun K25 hK25 => ?_) ?_
      · refine Wc.block ?_
        refine Wc.loop (fun m E wv => ∃ (v23_0 : Int), E 1 = .pointer (some ⟨g3, 0, none⟩) ∧ E 2 = .bool false ∧ E 21 = .slice Anx_0_2 nx_0_2.length cnx_0_2 ∧ E 22 = .int .i64 (nx_0_2.length : Int) ∧ E 23 = .int .i64 v23_0 ∧ I64 v23_0 ∧ Cx (fun _ => False) O0 w wv [.box g3 28 [.int .i64 nx_0_0, .int .i64 nx_0_1, .slice Anx_0_2 nx_0_2.length cnx_0_2], .ro (.sl (.sl (.int .i64))) [.slice Anx_0_2 nx_0_2.length cnx_0_2] nx_0_2] ∧ loopN m (F.law34_GarsideValid_b0 n nx_0_2) v23_0 = some o24) n ⟨0, e1, e2, rfl, rfl, rfl, (show I64 0 from by unfold I64; omega), hC.sel [0, 1] (by decide), hl0⟩ ?_
        have hbK0 := hb
        clear hb hC hl0
        rintro m27 E29 w28 ⟨v23_0, e1, e2, e21, e22, e23, hrv23_0, hC, hl0⟩ K26 hK26
        obtain ⟨m27', o30, rfl, hb, hl0⟩ := loopN_some hl0
        unfold F.law34_GarsideValid_b0 at hb
        refine Wc.seq fun K31 hK31 => ?_
        refine Wc.region (by decide +kernel) ?_
        refine lex.pure (v := .bool (decide (v23_0 < (nx_0_2.length : Int)))) (pu_lss (k := .i64) (a := v23_0) (b := (nx_0_2.length : Int)) e23 e22) ?_
        refine lex.nil ?_
        refine hK31 _ _ ?_
        refine Wc.seq fun K32 hK32 => ?_
        refine Wc.cond (t := (decide (v23_0 < (nx_0_2.length : Int)))) (rfl) (fun hq33 => ?_) (fun hq33 => ?_)
        · replace hb := (cT hq33).symm.trans hb
          refine Wc.skip ?_
          refine hK32 _ _ ?_
          refine Wc.seq fun K34 hK34 => ?_
          refine Wc.block ?_
          refine Wc.seq fun K35 hK35 => ?_
          refine Wc.region (by decide +kernel) ?_
          obtain ⟨x36, h37, hb⟩ := bd hb
          obtain ⟨ad38, cs39, hA, hc40, hr41⟩ := hC.elr (i := 1) rfl (get_some h37).2
          subst hA
          refine lex.pure (v := .pointer (some (ad38.add (v23_0.toNat * 1)))) (pu_index (a := v23_0) Try.underlying26 Try.sizeOf43 e21 e23 (get_some h37).1) ?_
          have hR := hr41
          obtain ⟨A42, c43, rfl, hl44, hc45, _⟩ := hr41
          replace hC := hC.ro hR
          clear hR
          refine lex.val (v := .slice A42 x36.length c43) (ld_one Try.isAgg43 rfl (hc40 0 _ rfl)) ?_
          refine lex.pure (v := .slice A42 x36.length c43) (pu_assign rfl) ?_
          refine lex.nil ?_
          refine hK35 _ _ ?_
          refine Wc.seq fun K47 hK47 => ?_
          refine Wc.region (by decide +kernel) ?_
          refine lex.pure (v := .slice A42 x36.length c43) (pu_move rfl) ?_
          refine lex.pure (v := .int .i64 (x36.length : Int)) (pu_len (A := A42) (n := x36.length) (m := c43) Try.underlying43 rfl) ?_
          refine lex.pure (v := .bool (decide (20 < (x36.length : Int)))) (pu_gtr (k := .i64) (a := (x36.length : Int)) (b := 20) rfl rfl) ?_
          refine lex.nil ?_
          refine hK47 _ _ ?_
          refine Wc.cond (t := (decide (20 < (x36.length : Int)))) (rfl) (fun hq48 => ?_) (fun hq48 => ?_)
          · replace hb := (cT hq48).symm.trans hb
            refine Wc.seq fun K49 hK49 => ?_
            refine Wc.region (by decide +kernel) ?_
            refine lex.pure (v := .bool true) (pu_assign rfl) ?_
            refine lex.nil ?_
            refine hK49 _ _ ?_
            obtain rfl := Option.some.inj hb
            obtain rfl := (lX hl0).symm
            replace hb := hbK0
            obtain rfl := Option.some.inj hb
            refine Wc.ret ?_
            refine hKR _ _ ?_
            refine ⟨_, res1 Try.results9 (show RV _ _ _ (.tmp _) (.bool true) from rfl), _, rfl, rfl, hC.sel [] (by decide)⟩
          · replace hb := (cF hq48).symm.trans hb
            refine Wc.skip ?_
            refine hK34 _ _ ?_
            refine Wc.region (by decide +kernel) ?_
            obtain ⟨z50, h51, hb⟩ := bd hb
            refine lex.pure (v := .int .i64 z50) (pu_addc (a := v23_0) (b := 1) e23 rfl h51) ?_
            refine lex.pure (v := .int .i64 z50) (pu_move rfl) ?_
            refine lex.nil ?_
            obtain rfl := Option.some.inj hb
            exact hK26 m27' _ _ (Nat.lt_succ_self _) ⟨z50, e1, e2, e21, e22, rfl, (chk_rng h51), hC.sel [1, 2] (by decide), lN hl0⟩
        · replace hb := (cF hq33).symm.trans hb
          refine Wc.exit rfl ?_
          obtain rfl := Option.some.inj hb
          obtain rfl := (lX hl0).symm
          exact hK25 _ _ ⟨v23_0, e1, e2, hrv23_0, hC.sel [0, 1] (by decide), hbK0⟩
      · clear hb hC hl0
        rintro E53 w52 ⟨v23_0, e1, e2, hrv23_0, hC, hb⟩
        refine hK22 _ _ ?_
        refine Wc.seq fun K54 hK54 => ?_
        refine Wc.regionMix [] (frm [] ([] : List Fact) ([] : List Fact)) (fun _ => rfl) mixed (by decide +kernel) (by decide +kernel) fun w56 hw55 => ?_
        replace hC := hC.step (Fr.of_drew hw55)
        have hM := Fr.refl (fun k => k ∈ blocks ([] : List Fact)) w56
        clear hw55
        have hS := hC
        refine mixE.pure (v := .pointer (some ((⟨g3, 0, none⟩ : Addr).add 0))) (pu_field (sz := 1) Try.underlying28 rfl Try.sizeOf3 (by decide) rfl e1) ?_
        refine mixE.load hM (v := .int .i64 nx_0_0) (fun _ hF => ld_fld (hS.bx2 (i := 0) rfl [] (by decide) hF) Try.isAgg3 rfl rfl) ?_
        refine mixE.pure (v := .pointer (some ((⟨g3, 0, none⟩ : Addr).add 1))) (pu_field (sz := 1) Try.underlying28 rfl Try.sizeOf3 (by decide) rfl e1) ?_
        refine mixE.load hM (v := .int .i64 nx_0_1) (fun _ hF => ld_fld (hS.bx2 (i := 0) rfl [] (by decide) hF) Try.isAgg3 rfl rfl) ?_
        refine mixE.pure (v := .pointer (some ((⟨g3, 0, none⟩ : Addr).add 2))) (pu_field (sz := 1) Try.underlying28 rfl Try.sizeOf26 (by decide) rfl e1) ?_
        refine mixE.load hM (v := .slice Anx_0_2 nx_0_2.length cnx_0_2) (fun _ hF => ld_fld (hS.bx2 (i := 0) rfl [] (by decide) hF) Try.isAgg26 rfl rfl) ?_
        obtain ⟨y57, h58, hb⟩ := bd hb
        refine mixE.cl hM (⟨_, _, op_call (vs := [.slice Anx_0_2 nx_0_2.length cnx_0_2]) Try.call17 rfl rfl rfl, law34_plain_ok n hC.lt (hC.rd (i := 1) rfl) h58⟩) ?_
        rintro _ w63 ⟨A59, m60, c61, rfl, hK⟩
        replace hM := hM.none hK.fr
        refine ⟨hM, ?_⟩
        replace hC := hC.merge hK
        clear hK
        obtain ⟨rfl, hl64, hc65⟩ := (hC.ow (i := 0) rfl).sl_len
        obtain ⟨y66, h67, hb⟩ := bd hb
        refine mixE.cl hM (⟨_, _, op_call (vs := [.int .i64 nx_0_0, .int .i64 nx_0_1, .slice A59 y57.length c61]) Try.call16 rfl rfl rfl, ref34_Valid_ok n (hC.lentLt [.slice A59 y57.length c61]) hnx_0_0 hnx_0_1 ((hC.ow (i := 0) rfl).lend (vs := [.slice A59 y57.length c61]) (by simp)) h67⟩) ?_
        rintro _ w68 ⟨rfl, hK⟩
        replace hM := hM.none hK.fr
        refine ⟨hM, ?_⟩
        replace hC := hC.mergeF hK rfl
        clear hK
        refine mixE.pure (v := .bool y66) (pu_assign rfl) ?_
        refine mixE.nil ?_
        clear hS hM
        refine hK54 _ _ ?_
        refine Wc.seq fun K69 hK69 => ?_
        refine Wc.region (by decide +kernel) ?_
        refine lex.val (v := .agg #[.int .i64 nx_0_0, .int .i64 nx_0_1, .slice Anx_0_2 nx_0_2.length cnx_0_2]) (ld_blk (hC.bx (i := 1) rfl) Try.isAgg28 Try.sizeOf28 e1) ?_
        obtain ⟨y70, h71, hb⟩ := bd hb
        refine lex.cl (⟨_, _, op_call (vs := [.agg #[.int .i64 nx_0_0, .int .i64 nx_0_1, .slice Anx_0_2 nx_0_2.length cnx_0_2]]) Try.call34 rfl rfl rfl, garside_Canonical_ok n hC.lt hnx_0_0 hnx_0_1 (hC.rd (i := 2) rfl) h71⟩) ?_
        rintro _ w74 ⟨rfl, hr72, hr73, hK⟩
        replace hC := hC.merge hK
        clear hK
        refine lex.pure (v := .tuple #[.int .i64 y70.1, .int .i64 y70.2]) (pu_move rfl) ?_
        refine lex.pure (v := .int .i64 y70.1) (pu_extract rfl rfl) ?_
        refine lex.pure (v := .int .i64 y70.2) (pu_extract rfl rfl) ?_
        refine lex.pure (v := .int .i64 y70.1) (pu_assign rfl) ?_
        refine lex.pure (v := .int .i64 y70.2) (pu_assign rfl) ?_
        refine lex.nil ?_
        refine hK69 _ _ ?_
        refine Wc.fresh fun E75 hE => ?_
        have e1 : E75 1 = .pointer (some ⟨g3, 0, none⟩) := (congrFun hE 1).trans e1
        have e2 : E75 2 = .bool false := (congrFun hE 2).trans e2
        have e5 : E75 5 = .bool y66 := (congrFun hE 5).trans rfl
        have e6 : E75 6 = .int .i64 y70.1 := (congrFun hE 6).trans rfl
        have e7 : E75 7 = .int .i64 y70.2 := (congrFun hE 7).trans rfl
        clear hE
        refine Wc.seq fun K76 hK76 => ?_
        refine Wc.region (by decide +kernel) ?_
        refine lex.val (v := .agg #[.int .i64 nx_0_0, .int .i64 nx_0_1, .slice Anx_0_2 nx_0_2.length cnx_0_2]) (ld_blk (hC.bx (i := 1) rfl) Try.isAgg28 Try.sizeOf28 e1) ?_
        obtain ⟨y77, h78, hb⟩ := bd hb
        refine lex.cl (⟨_, _, op_call (vs := [.agg #[.int .i64 nx_0_0, .int .i64 nx_0_1, .slice Anx_0_2 nx_0_2.length cnx_0_2]]) Try.call35 rfl rfl rfl, garside_Word_ok n hC.lt hnx_0_0 hnx_0_1 (hC.rd (i := 2) rfl) h78⟩) ?_
        rintro _ w85 ⟨A80, m81, c82, rfl, hr79, hr84, hK⟩
        replace hC := hC.merge hK
        clear hK
        obtain ⟨rfl, hl86, hc87⟩ := (hC.ow (i := 0) rfl).sl_len
        refine lex.pure (v := .tuple #[.agg #[.int .i64 y77.1, .slice A80 y77.2.1.length c82], .int .i64 y77.2.2]) (pu_move rfl) ?_
        refine lex.pure (v := .agg #[.int .i64 y77.1, .slice A80 y77.2.1.length c82]) (pu_extract rfl rfl) ?_
        refine lex.pure (v := .int .i64 y77.2.2) (pu_extract rfl rfl) ?_
        refine lex.op (hC.alloc (cs := [.int .i64 0, .slice none 0 0]) Try.zeroValue24 rfl) ?_
        rintro _ w89 ⟨g88, rfl, hC, hF, hG⟩
        clear hG
        refine lex.sk (hC.seta (i := 0) (ds := [.int .i64 y77.1, .slice A80 y77.2.1.length c82]) rfl Try.type24 rfl rfl rfl rfl rfl) ?_
        rintro w91 ⟨hC, hF⟩
        refine lex.pure (v := .int .i64 y77.2.2) (pu_assign rfl) ?_
        refine lex.nil ?_
        refine hK76 _ _ ?_
        refine Wc.seq fun K92 hK92 => ?_
        refine Wc.seq fun K93 hK93 => ?_
        refine Wc.region (by decide +kernel) ?_
        refine lex.val (v := .agg #[.int .i64 nx_0_0, .int .i64 nx_0_1, .slice Anx_0_2 nx_0_2.length cnx_0_2]) (ld_blk (hC.bx (i := 3) rfl) Try.isAgg28 Try.sizeOf28 e1) ?_
        obtain ⟨y94, h95, hb⟩ := bd hb
        refine lex.cl (⟨_, _, op_call (vs := [.agg #[.int .i64 nx_0_0, .int .i64 nx_0_1, .slice Anx_0_2 nx_0_2.length cnx_0_2]]) Try.call36 rfl rfl rfl, garside_Valid_ok n hC.lt hnx_0_0 hnx_0_1 (hC.rd (i := 4) rfl) h95⟩) ?_
        rintro _ w96 ⟨rfl, hK⟩
        replace hC := hC.merge hK
        clear hK
        refine lex.pure (v := .bool y66) (pu_move e5) ?_
        refine lex.pure (v := .bool (!(y94 == y66))) (pu_neqb (p := y94) (q := y66) Try.underlying4 rfl rfl) ?_
        refine lex.nil ?_
        refine hK93 _ _ ?_
        refine Wc.cond (t := (!(y94 == y66))) (rfl) (fun hq97 => ?_) (fun hq97 => ?_)
        · replace hb := (cT hq97).symm.trans hb
          refine Wc.seq fun K98 hK98 => ?_
          refine Wc.region (by decide +kernel) ?_
          refine lex.pure (v := .bool false) (pu_assign rfl) ?_
          refine lex.nil ?_
          refine hK98 _ _ ?_
          obtain rfl := Option.some.inj hb
          refine Wc.ret ?_
          refine hKR _ _ ?_
          refine ⟨_, res1 Try.results9 (show RV _ _ _ (.tmp _) (.bool false) from rfl), _, rfl, rfl, hC.sel [] (by decide)⟩
        · replace hb := (cF hq97).symm.trans hb
          refine Wc.skip ?_
          refine hK92 _ _ ?_
          refine Wc.fresh fun E99 hE => ?_
          have e1 : E99 1 = .pointer (some ⟨g3, 0, none⟩) := (congrFun hE 1).trans e1
          have e2 : E99 2 = .bool false := (congrFun hE 2).trans e2
          have e5 : E99 5 = .bool y66 := (congrFun hE 5).trans e5
          have e6 : E99 6 = .int .i64 y70.1 := (congrFun hE 6).trans e6
          have e7 : E99 7 = .int .i64 y70.2 := (congrFun hE 7).trans e7
          have e8 : E99 8 = .pointer (some ⟨g88, 0, none⟩) := (congrFun hE 8).trans rfl
          have e9 : E99 9 = .int .i64 y77.2.2 := (congrFun hE 9).trans rfl
          clear hE
          refine Wc.seq fun K100 hK100 => ?_
          refine Wc.seq fun K101 hK101 => ?_
          refine Wc.region (by decide +kernel) ?_
          refine lex.pure (v := .bool y66) (pu_move e5) ?_
          refine lex.pure (v := .bool (!y66)) (pu_not (q := y66) rfl) ?_
          refine lex.nil ?_
          refine hK101 _ _ ?_
          refine Wc.cond (t := (!y66)) (rfl) (fun hq102 => ?_) (fun hq102 => ?_)
          · replace hb := (cT hq102).symm.trans hb
            refine Wc.seq fun K103 hK103 => ?_
            refine Wc.region (by decide +kernel) ?_
            refine lex.pure (v := .int .i64 y70.1) (pu_move e6) ?_
            refine lex.pure (v := .bool (decide (y70.1 = 0))) (pu_eql (k := .i64) (a := y70.1) (b := 0) rfl rfl) ?_
            refine lex.pure (v := .bool (decide (y70.1 = 0))) (pu_move rfl) ?_
            rcases bS (decide (y70.1 = 0)) with hq104 | hq104
            · replace hb := (cT hq104).symm.trans hb
              refine lex.gpure (want_t rfl rfl (show _ = Value.bool (decide (y70.1 = 0)) from rfl) hq104) (v := .int .i64 y70.2) (pu_move e7) ?_
              refine lex.gpure (want_t rfl rfl (show _ = Value.bool (decide (y70.1 = 0)) from rfl) hq104) (v := .bool (decide (y70.2 = 0))) (pu_eql (k := .i64) (a := y70.2) (b := 0) rfl rfl) ?_
              refine lex.pure (v := .bool (decide (y70.2 = 0))) (pu_pickT (q := (decide (y70.1 = 0))) rfl hq104 rfl) ?_
              refine lex.pure (v := .bool (decide (y70.2 = 0))) (pu_move rfl) ?_
              rcases bS (decide (y70.2 = 0)) with hq105 | hq105
              · replace hb := (cT hq105).symm.trans hb
                refine lex.gpure (want_t rfl rfl (show _ = Value.bool (decide (y70.2 = 0)) from rfl) hq105) (v := .int .i64 y77.2.2) (pu_move e9) ?_
                refine lex.gpure (want_t rfl rfl (show _ = Value.bool (decide (y70.2 = 0)) from rfl) hq105) (v := .bool (decide (y77.2.2 = 1))) (pu_eql (k := .i64) (a := y77.2.2) (b := 1) rfl rfl) ?_
                refine lex.pure (v := .bool (decide (y77.2.2 = 1))) (pu_pickT (q := (decide (y70.2 = 0))) rfl hq105 rfl) ?_
                refine lex.pure (v := .bool (decide (y77.2.2 = 1))) (pu_move rfl) ?_
                rcases bS (decide (y77.2.2 = 1)) with hq106 | hq106
                · replace hb := (cT hq106).symm.trans hb
                  refine lex.gpure (want_t rfl rfl (show _ = Value.bool (decide (y77.2.2 = 1)) from rfl) hq106) (v := .pointer (some ((⟨g88, 0, none⟩ : Addr).add 0))) (pu_field (sz := 1) Try.underlying24 rfl Try.sizeOf3 (by decide) rfl e8) ?_
                  refine lex.gval (want_t rfl rfl (show _ = Value.bool (decide (y77.2.2 = 1)) from rfl) hq106) (v := .int .i64 y77.1) (ld_fld (hC.bx (i := 0) rfl) Try.isAgg3 rfl rfl) ?_
                  refine lex.gpure (want_t rfl rfl (show _ = Value.bool (decide (y77.2.2 = 1)) from rfl) hq106) (v := .bool (decide (y77.1 = 0))) (pu_eql (k := .i64) (a := y77.1) (b := 0) rfl rfl) ?_
                  refine lex.pure (v := .bool (decide (y77.1 = 0))) (pu_pickT (q := (decide (y77.2.2 = 1))) rfl hq106 rfl) ?_
                  refine lex.pure (v := .bool (decide (y77.1 = 0))) (pu_move rfl) ?_
                  rcases bS (decide (y77.1 = 0)) with hq107 | hq107
                  · replace hb := (cT hq107).symm.trans hb
                    refine lex.gpure (want_t rfl rfl (show _ = Value.bool (decide (y77.1 = 0)) from rfl) hq107) (v := .pointer (some ((⟨g88, 0, none⟩ : Addr).add 1))) (pu_field (sz := 1) Try.underlying24 rfl Try.sizeOf22 (by decide) rfl e8) ?_
                    refine lex.gval (want_t rfl rfl (show _ = Value.bool (decide (y77.1 = 0)) from rfl) hq107) (v := .slice A80 y77.2.1.length c82) (ld_fld (hC.bx (i := 0) rfl) Try.isAgg22 rfl rfl) ?_
                    refine lex.gpure (want_t rfl rfl (show _ = Value.bool (decide (y77.1 = 0)) from rfl) hq107) (v := .int .i64 (y77.2.1.length : Int)) (pu_len (A := A80) (n := y77.2.1.length) (m := c82) Try.underlying22 rfl) ?_
                    refine lex.gpure (want_t rfl rfl (show _ = Value.bool (decide (y77.1 = 0)) from rfl) hq107) (v := .bool (decide ((y77.2.1.length : Int) = 0))) (pu_eql (k := .i64) (a := (y77.2.1.length : Int)) (b := 0) rfl rfl) ?_
                    refine lex.pure (v := .bool (decide ((y77.2.1.length : Int) = 0))) (pu_pickT (q := (decide (y77.1 = 0))) rfl hq107 rfl) ?_
                    refine lex.pure (v := .bool (decide ((y77.2.1.length : Int) = 0))) (pu_assign rfl) ?_
                    refine lex.nil ?_
                    refine hK103 _ _ ?_
                    obtain rfl := Option.some.inj hb
                    refine Wc.ret ?_
                    refine hKR _ _ ?_
                    refine ⟨_, res1 Try.results9 (show RV _ _ _ (.tmp _) (.bool (decide ((y77.2.1.length : Int) = 0))) from rfl), _, rfl, rfl, hC.sel [] (by decide)⟩
                  · replace hb := (cF hq107).symm.trans hb
                    refine lex.gskip (want_f rfl rfl (show _ = Value.bool (decide (y77.1 = 0)) from rfl) hq107) ?_
                    refine lex.gskip (want_f rfl rfl (show _ = Value.bool (decide (y77.1 = 0)) from rfl) hq107) ?_
                    refine lex.gskip (want_f rfl rfl (show _ = Value.bool (decide (y77.1 = 0)) from rfl) hq107) ?_
                    refine lex.gskip (want_f rfl rfl (show _ = Value.bool (decide (y77.1 = 0)) from rfl) hq107) ?_
                    refine lex.pure (v := .bool false) (pu_pickF (q := (decide (y77.1 = 0))) rfl hq107 rfl) ?_
                    refine lex.pure (v := .bool false) (pu_assign rfl) ?_
                    refine lex.nil ?_
                    refine hK103 _ _ ?_
                    obtain rfl := Option.some.inj hb
                    refine Wc.ret ?_
                    refine hKR _ _ ?_
                    refine ⟨_, res1 Try.results9 (show RV _ _ _ (.tmp _) (.bool false) from rfl), _, rfl, rfl, hC.sel [] (by decide)⟩
                · replace hb := (cF hq106).symm.trans hb
                  refine lex.gskip (want_f rfl rfl (show _ = Value.bool (decide (y77.2.2 = 1)) from rfl) hq106) ?_
                  refine lex.gskip (want_f rfl rfl (show _ = Value.bool (decide (y77.2.2 = 1)) from rfl) hq106) ?_
                  refine lex.gskip (want_f rfl rfl (show _ = Value.bool (decide (y77.2.2 = 1)) from rfl) hq106) ?_
                  refine lex.pure (v := .bool false) (pu_pickF (q := (decide (y77.2.2 = 1))) rfl hq106 rfl) ?_
                  refine lex.pure (v := .bool false) (pu_move rfl) ?_
                  refine lex.gskip (want_f rfl rfl (show _ = Value.bool false from rfl) rfl) ?_
                  refine lex.gskip (want_f rfl rfl (show _ = Value.bool false from rfl) rfl) ?_
                  refine lex.gskip (want_f rfl rfl (show _ = Value.bool false from rfl) rfl) ?_
                  refine lex.gskip (want_f rfl rfl (show _ = Value.bool false from rfl) rfl) ?_
                  refine lex.pure (v := .bool false) (pu_pickF (q := false) rfl rfl rfl) ?_
                  refine lex.pure (v := .bool false) (pu_assign rfl) ?_
                  refine lex.nil ?_
                  refine hK103 _ _ ?_
                  obtain rfl := Option.some.inj hb
                  refine Wc.ret ?_
                  refine hKR _ _ ?_
                  refine ⟨_, res1 Try.results9 (show RV _ _ _ (.tmp _) (.bool false) from rfl), _, rfl, rfl, hC.sel [] (by decide)⟩
              · replace hb := (cF hq105).symm.trans hb
                refine lex.gskip (want_f rfl rfl (show _ = Value.bool (decide (y70.2 = 0)) from rfl) hq105) ?_
                refine lex.gskip (want_f rfl rfl (show _ = Value.bool (decide (y70.2 = 0)) from rfl) hq105) ?_
                refine lex.pure (v := .bool false) (pu_pickF (q := (decide (y70.2 = 0))) rfl hq105 rfl) ?_
                refine lex.pure (v := .bool false) (pu_move rfl) ?_
                refine lex.gskip (want_f rfl rfl (show _ = Value.bool false from rfl) rfl) ?_
                refine lex.gskip (want_f rfl rfl (show _ = Value.bool false from rfl) rfl) ?_
                refine lex.gskip (want_f rfl rfl (show _ = Value.bool false from rfl) rfl) ?_
                refine lex.pure (v := .bool false) (pu_pickF (q := false) rfl rfl rfl) ?_
                refine lex.pure (v := .bool false) (pu_move rfl) ?_
                refine lex.gskip (want_f rfl rfl (show _ = Value.bool false from rfl) rfl) ?_
                refine lex.gskip (want_f rfl rfl (show _ = Value.bool false from rfl) rfl) ?_
                refine lex.gskip (want_f rfl rfl (show _ = Value.bool false from rfl) rfl) ?_
                refine lex.gskip (want_f rfl rfl (show _ = Value.bool false from rfl) rfl) ?_
                refine lex.pure (v := .bool false) (pu_pickF (q := false) rfl rfl rfl) ?_
                refine lex.pure (v := .bool false) (pu_assign rfl) ?_
                refine lex.nil ?_
                refine hK103 _ _ ?_
                obtain rfl := Option.some.inj hb
                refine Wc.ret ?_
                refine hKR _ _ ?_
                refine ⟨_, res1 Try.results9 (show RV _ _ _ (.tmp _) (.bool false) from rfl), _, rfl, rfl, hC.sel [] (by decide)⟩
            · replace hb := (cF hq104).symm.trans hb
              refine lex.gskip (want_f rfl rfl (show _ = Value.bool (decide (y70.1 = 0)) from rfl) hq104) ?_
              refine lex.gskip (want_f rfl rfl (show _ = Value.bool (decide (y70.1 = 0)) from rfl) hq104) ?_
              refine lex.pure (v := .bool false) (pu_pickF (q := (decide (y70.1 = 0))) rfl hq104 rfl) ?_
              refine lex.pure (v := .bool false) (pu_move rfl) ?_
              refine lex.gskip (want_f rfl rfl (show _ = Value.bool false from rfl) rfl) ?_
              refine lex.gskip (want_f rfl rfl (show _ = Value.bool false from rfl) rfl) ?_
              refine lex.pure (v := .bool false) (pu_pickF (q := false) rfl rfl rfl) ?_
              refine lex.pure (v := .bool false) (pu_move rfl) ?_
              refine lex.gskip (want_f rfl rfl (show _ = Value.bool false from rfl) rfl) ?_
              refine lex.gskip (want_f rfl rfl (show _ = Value.bool false from rfl) rfl) ?_
              refine lex.gskip (want_f rfl rfl (show _ = Value.bool false from rfl) rfl) ?_
              refine lex.pure (v := .bool false) (pu_pickF (q := false) rfl rfl rfl) ?_
              refine lex.pure (v := .bool false) (pu_move rfl) ?_
              refine lex.gskip (want_f rfl rfl (show _ = Value.bool false from rfl) rfl) ?_
              refine lex.gskip (want_f rfl rfl (show _ = Value.bool false from rfl) rfl) ?_
              refine lex.gskip (want_f rfl rfl (show _ = Value.bool false from rfl) rfl) ?_
              refine lex.gskip (want_f rfl rfl (show _ = Value.bool false from rfl) rfl) ?_
              refine lex.pure (v := .bool false) (pu_pickF (q := false) rfl rfl rfl) ?_
              refine lex.pure (v := .bool false) (pu_assign rfl) ?_
              refine lex.nil ?_
              refine hK103 _ _ ?_
              obtain rfl := Option.some.inj hb
              refine Wc.ret ?_
              refine hKR _ _ ?_
              refine ⟨_, res1 Try.results9 (show RV _ _ _ (.tmp _) (.bool false) from rfl), _, rfl, rfl, hC.sel [] (by decide)⟩
          · replace hb := (cF hq102).symm.trans hb
            refine Wc.skip ?_
            refine hK100 _ _ ?_
            refine Wc.seq fun K108 hK108 => ?_
            refine Wc.seq fun K109 hK109 => ?_
            refine Wc.region (by decide +kernel) ?_
            refine lex.pure (v := .int .i64 y70.1) (pu_move e6) ?_
            refine lex.pure (v := .pointer (some ((⟨g3, 0, none⟩ : Addr).add 1))) (pu_field (sz := 1) Try.underlying28 rfl Try.sizeOf3 (by decide) rfl e1) ?_
            refine lex.val (v := .int .i64 nx_0_1) (ld_fld (hC.bx (i := 3) rfl) Try.isAgg3 rfl rfl) ?_
            refine lex.pure (v := .bool (!(decide (y70.1 = nx_0_1)))) (pu_neq (k := .i64) (a := y70.1) (b := nx_0_1) rfl rfl) ?_
            refine lex.pure (v := .bool (!(decide (y70.1 = nx_0_1)))) (pu_move rfl) ?_
            rcases bS (!(decide (y70.1 = nx_0_1))) with hq110 | hq110
            · replace hb := (cT hq110).symm.trans hb
              refine lex.gskip (want_f rfl rfl (show _ = Value.bool (!(decide (y70.1 = nx_0_1))) from rfl) hq110) ?_
              refine lex.gskip (want_f rfl rfl (show _ = Value.bool (!(decide (y70.1 = nx_0_1))) from rfl) hq110) ?_
              refine lex.gskip (want_f rfl rfl (show _ = Value.bool (!(decide (y70.1 = nx_0_1))) from rfl) hq110) ?_
              refine lex.gskip (want_f rfl rfl (show _ = Value.bool (!(decide (y70.1 = nx_0_1))) from rfl) hq110) ?_
              refine lex.gskip (want_f rfl rfl (show _ = Value.bool (!(decide (y70.1 = nx_0_1))) from rfl) hq110) ?_
              refine lex.gskip (want_f rfl rfl (show _ = Value.bool (!(decide (y70.1 = nx_0_1))) from rfl) hq110) ?_
              refine lex.gskip (want_f rfl rfl (show _ = Value.bool (!(decide (y70.1 = nx_0_1))) from rfl) hq110) ?_
              refine lex.gskip (want_f rfl rfl (show _ = Value.bool (!(decide (y70.1 = nx_0_1))) from rfl) hq110) ?_
              refine lex.pure (v := .bool true) (pu_pickT (q := (!(decide (y70.1 = nx_0_1)))) rfl hq110 rfl) ?_
              refine lex.nil ?_
              refine hK109 _ _ ?_
              refine Wc.cond_true (rfl) ?_
              refine Wc.seq fun K111 hK111 => ?_
              refine Wc.region (by decide +kernel) ?_
              refine lex.pure (v := .bool false) (pu_assign rfl) ?_
              refine lex.nil ?_
              refine hK111 _ _ ?_
              obtain rfl := Option.some.inj hb
              refine Wc.ret ?_
              refine hKR _ _ ?_
              refine ⟨_, res1 Try.results9 (show RV _ _ _ (.tmp _) (.bool false) from rfl), _, rfl, rfl, hC.sel [] (by decide)⟩
            · replace hb := (cF hq110).symm.trans hb
              refine lex.gpure (want_t rfl rfl (show _ = Value.bool (!(decide (y70.1 = nx_0_1))) from rfl) hq110) (v := .int .i64 y70.2) (pu_move e7) ?_
              refine lex.gpure (want_t rfl rfl (show _ = Value.bool (!(decide (y70.1 = nx_0_1))) from rfl) hq110) (v := .pointer (some ((⟨g3, 0, none⟩ : Addr).add 1))) (pu_field (sz := 1) Try.underlying28 rfl Try.sizeOf3 (by decide) rfl e1) ?_
              refine lex.gval (want_t rfl rfl (show _ = Value.bool (!(decide (y70.1 = nx_0_1))) from rfl) hq110) (v := .int .i64 nx_0_1) (ld_fld (hC.bx (i := 3) rfl) Try.isAgg3 rfl rfl) ?_
              refine lex.gpure (want_t rfl rfl (show _ = Value.bool (!(decide (y70.1 = nx_0_1))) from rfl) hq110) (v := .pointer (some ((⟨g3, 0, none⟩ : Addr).add 2))) (pu_field (sz := 1) Try.underlying28 rfl Try.sizeOf26 (by decide) rfl e1) ?_
              refine lex.gval (want_t rfl rfl (show _ = Value.bool (!(decide (y70.1 = nx_0_1))) from rfl) hq110) (v := .slice Anx_0_2 nx_0_2.length cnx_0_2) (ld_fld (hC.bx (i := 3) rfl) Try.isAgg26 rfl rfl) ?_
              refine lex.gpure (want_t rfl rfl (show _ = Value.bool (!(decide (y70.1 = nx_0_1))) from rfl) hq110) (v := .int .i64 (nx_0_2.length : Int)) (pu_len (A := Anx_0_2) (n := nx_0_2.length) (m := cnx_0_2) Try.underlying26 rfl) ?_
              obtain ⟨z112, h113, hb⟩ := bd hb
              refine lex.gpure (want_t rfl rfl (show _ = Value.bool (!(decide (y70.1 = nx_0_1))) from rfl) hq110) (v := .int .i64 z112) (pu_addc (a := nx_0_1) (b := (nx_0_2.length : Int)) rfl rfl h113) ?_
              refine lex.gpure (want_t rfl rfl (show _ = Value.bool (!(decide (y70.1 = nx_0_1))) from rfl) hq110) (v := .bool (!(decide (y70.2 = z112)))) (pu_neq (k := .i64) (a := y70.2) (b := z112) rfl rfl) ?_
              refine lex.pure (v := .bool (!(decide (y70.2 = z112)))) (pu_pickF (q := (!(decide (y70.1 = nx_0_1)))) rfl hq110 rfl) ?_
              refine lex.nil ?_
              refine hK109 _ _ ?_
              refine Wc.cond (t := (!(decide (y70.2 = z112)))) (rfl) (fun hq114 => ?_) (fun hq114 => ?_)
              · replace hb := (cT hq114).symm.trans hb
                refine Wc.seq fun K115 hK115 => ?_
                refine Wc.region (by decide +kernel) ?_
                refine lex.pure (v := .bool false) (pu_assign rfl) ?_
                refine lex.nil ?_
                refine hK115 _ _ ?_
                obtain rfl := Option.some.inj hb
                refine Wc.ret ?_
                refine hKR _ _ ?_
                refine ⟨_, res1 Try.results9 (show RV _ _ _ (.tmp _) (.bool false) from rfl), _, rfl, rfl, hC.sel [] (by decide)⟩
              · replace hb := (cF hq114).symm.trans hb
                refine Wc.skip ?_
                refine hK108 _ _ ?_
                refine Wc.fresh fun E116 hE => ?_
                have e1 : E116 1 = .pointer (some ⟨g3, 0, none⟩) := (congrFun hE 1).trans e1
                have e2 : E116 2 = .bool false := (congrFun hE 2).trans e2
                have e8 : E116 8 = .pointer (some ⟨g88, 0, none⟩) := (congrFun hE 8).trans e8
                have e9 : E116 9 = .int .i64 y77.2.2 := (congrFun hE 9).trans e9
                clear hE
                refine Wc.seq fun K117 hK117 => ?_
                refine Wc.regionMix [] (frm [] ([] : List Fact) ([] : List Fact)) (fun _ => rfl) mixed (by decide +kernel) (by decide +kernel) fun w119 hw118 => ?_
                replace hC := hC.step (Fr.of_drew hw118)
                have hM := Fr.refl (fun k => k ∈ blocks ([] : List Fact)) w119
                clear hw118
                have hS := hC
                refine mixE.pure (v := .pointer (some ((⟨g3, 0, none⟩ : Addr).add 0))) (pu_field (sz := 1) Try.underlying28 rfl Try.sizeOf3 (by decide) rfl e1) ?_
                refine mixE.load hM (v := .int .i64 nx_0_0) (fun _ hF => ld_fld (hS.bx2 (i := 3) rfl [] (by decide) hF) Try.isAgg3 rfl rfl) ?_
                refine mixE.pure (v := .pointer (some ((⟨g3, 0, none⟩ : Addr).add 1))) (pu_field (sz := 1) Try.underlying28 rfl Try.sizeOf3 (by decide) rfl e1) ?_
                refine mixE.load hM (v := .int .i64 nx_0_1) (fun _ hF => ld_fld (hS.bx2 (i := 3) rfl [] (by decide) hF) Try.isAgg3 rfl rfl) ?_
                refine mixE.pure (v := .pointer (some ((⟨g3, 0, none⟩ : Addr).add 2))) (pu_field (sz := 1) Try.underlying28 rfl Try.sizeOf26 (by decide) rfl e1) ?_
                refine mixE.load hM (v := .slice Anx_0_2 nx_0_2.length cnx_0_2) (fun _ hF => ld_fld (hS.bx2 (i := 3) rfl [] (by decide) hF) Try.isAgg26 rfl rfl) ?_
                obtain ⟨y120, h121, hb⟩ := bd hb
                refine mixE.cl hM (⟨_, _, op_call (vs := [.slice Anx_0_2 nx_0_2.length cnx_0_2]) Try.call17 rfl rfl rfl, law34_plain_ok n hC.lt (hC.rd (i := 4) rfl) h121⟩) ?_
                rintro _ w126 ⟨A122, m123, c124, rfl, hK⟩
                replace hM := hM.none hK.fr
                refine ⟨hM, ?_⟩
                replace hC := hC.merge hK
                clear hK
                obtain ⟨rfl, hl127, hc128⟩ := (hC.ow (i := 0) rfl).sl_len
                obtain ⟨y129, h130, hb⟩ := bd hb
                refine mixE.cl hM (⟨_, _, op_call (vs := [.int .i64 nx_0_0, .int .i64 nx_0_1, .slice A122 y120.length c124]) Try.call19 rfl rfl rfl, ref34_Whole_ok n (hC.lentLt [.slice A122 y120.length c124]) hnx_0_0 hnx_0_1 ((hC.ow (i := 0) rfl).lend (vs := [.slice A122 y120.length c124]) (by simp)) h130⟩) ?_
                rintro _ w135 ⟨A131, m132, c133, rfl, hK⟩
                replace hM := hM.none hK.fr
                refine ⟨hM, ?_⟩
                replace hC := hC.mergeF hK rfl
                clear hK
                obtain ⟨rfl, hl136, hc137⟩ := (hC.ow (i := 0) rfl).sl_len
                refine mixE.pure (v := .slice A131 y129.length c133) (pu_assign rfl) ?_
                refine mixE.nil ?_
                clear hS hM
                refine hK117 _ _ ?_
                refine Wc.seq fun K138 hK138 => ?_
                refine Wc.seq fun K139 hK139 => ?_
                refine Wc.region (by decide +kernel) ?_
                refine lex.pure (v := .slice A131 y129.length c133) (pu_move rfl) ?_
                refine lex.pure (v := .int .i64 (y129.length : Int)) (pu_len (A := A131) (n := y129.length) (m := c133) Try.underlying22 rfl) ?_
                refine lex.pure (v := .bool (decide (200 < (y129.length : Int)))) (pu_gtr (k := .i64) (a := (y129.length : Int)) (b := 200) rfl rfl) ?_
                refine lex.nil ?_
                refine hK139 _ _ ?_
                refine Wc.fresh fun E140 hE => ?_
                have e1 : E140 1 = .pointer (some ⟨g3, 0, none⟩) := (congrFun hE 1).trans e1
                have e2 : E140 2 = .bool false := (congrFun hE 2).trans e2
                have e8 : E140 8 = .pointer (some ⟨g88, 0, none⟩) := (congrFun hE 8).trans e8
                have e9 : E140 9 = .int .i64 y77.2.2 := (congrFun hE 9).trans e9
                have e10 : E140 10 = .slice A131 y129.length c133 := (congrFun hE 10).trans rfl
                have e100 : E140 100 = .bool (decide (200 < (y129.length : Int))) := (congrFun hE 100).trans rfl
                clear hE
                refine Wc.cond (t := (decide (200 < (y129.length : Int)))) (e100) (fun hq141 => ?_) (fun hq141 => ?_)
                · replace hb := (cT hq141).symm.trans hb
                  refine Wc.seq fun K142 hK142 => ?_
                  refine Wc.region (by decide +kernel) ?_
                  refine lex.pure (v := .int .i64 y77.2.2) (pu_move e9) ?_
                  refine lex.pure (v := .bool (decide (y77.2.2 = 5))) (pu_eql (k := .i64) (a := y77.2.2) (b := 5) rfl rfl) ?_
                  refine lex.pure (v := .bool (decide (y77.2.2 = 5))) (pu_move rfl) ?_
                  rcases bS (decide (y77.2.2 = 5)) with hq143 | hq143
                  · replace hb := (cT hq143).symm.trans hb
                    refine lex.gpure (want_t rfl rfl (show _ = Value.bool (decide (y77.2.2 = 5)) from rfl) hq143) (v := .pointer (some ((⟨g88, 0, none⟩ : Addr).add 0))) (pu_field (sz := 1) Try.underlying24 rfl Try.sizeOf3 (by decide) rfl e8) ?_
                    refine lex.gval (want_t rfl rfl (show _ = Value.bool (decide (y77.2.2 = 5)) from rfl) hq143) (v := .int .i64 y77.1) (ld_fld (hC.bx (i := 2) rfl) Try.isAgg3 rfl rfl) ?_
                    refine lex.gpure (want_t rfl rfl (show _ = Value.bool (decide (y77.2.2 = 5)) from rfl) hq143) (v := .bool (decide (y77.1 = 0))) (pu_eql (k := .i64) (a := y77.1) (b := 0) rfl rfl) ?_
                    refine lex.pure (v := .bool (decide (y77.1 = 0))) (pu_pickT (q := (decide (y77.2.2 = 5))) rfl hq143 rfl) ?_
                    refine lex.pure (v := .bool (decide (y77.1 = 0))) (pu_move rfl) ?_
                    rcases bS (decide (y77.1 = 0)) with hq144 | hq144
                    · replace hb := (cT hq144).symm.trans hb
                      refine lex.gpure (want_t rfl rfl (show _ = Value.bool (decide (y77.1 = 0)) from rfl) hq144) (v := .pointer (some ((⟨g88, 0, none⟩ : Addr).add 1))) (pu_field (sz := 1) Try.underlying24 rfl Try.sizeOf22 (by decide) rfl e8) ?_
                      refine lex.gval (want_t rfl rfl (show _ = Value.bool (decide (y77.1 = 0)) from rfl) hq144) (v := .slice A80 y77.2.1.length c82) (ld_fld (hC.bx (i := 2) rfl) Try.isAgg22 rfl rfl) ?_
                      refine lex.gpure (want_t rfl rfl (show _ = Value.bool (decide (y77.1 = 0)) from rfl) hq144) (v := .int .i64 (y77.2.1.length : Int)) (pu_len (A := A80) (n := y77.2.1.length) (m := c82) Try.underlying22 rfl) ?_
                      refine lex.gpure (want_t rfl rfl (show _ = Value.bool (decide (y77.1 = 0)) from rfl) hq144) (v := .bool (decide ((y77.2.1.length : Int) = 0))) (pu_eql (k := .i64) (a := (y77.2.1.length : Int)) (b := 0) rfl rfl) ?_
                      refine lex.pure (v := .bool (decide ((y77.2.1.length : Int) = 0))) (pu_pickT (q := (decide (y77.1 = 0))) rfl hq144 rfl) ?_
                      refine lex.pure (v := .bool (decide ((y77.2.1.length : Int) = 0))) (pu_assign rfl) ?_
                      refine lex.nil ?_
                      refine hK142 _ _ ?_
                      obtain rfl := Option.some.inj hb
                      refine Wc.ret ?_
                      refine hKR _ _ ?_
                      refine ⟨_, res1 Try.results9 (show RV _ _ _ (.tmp _) (.bool (decide ((y77.2.1.length : Int) = 0))) from rfl), _, rfl, rfl, hC.sel [] (by decide)⟩
                    · replace hb := (cF hq144).symm.trans hb
                      refine lex.gskip (want_f rfl rfl (show _ = Value.bool (decide (y77.1 = 0)) from rfl) hq144) ?_
                      refine lex.gskip (want_f rfl rfl (show _ = Value.bool (decide (y77.1 = 0)) from rfl) hq144) ?_
                      refine lex.gskip (want_f rfl rfl (show _ = Value.bool (decide (y77.1 = 0)) from rfl) hq144) ?_
                      refine lex.gskip (want_f rfl rfl (show _ = Value.bool (decide (y77.1 = 0)) from rfl) hq144) ?_
                      refine lex.pure (v := .bool false) (pu_pickF (q := (decide (y77.1 = 0))) rfl hq144 rfl) ?_
                      refine lex.pure (v := .bool false) (pu_assign rfl) ?_
                      refine lex.nil ?_
                      refine hK142 _ _ ?_
                      obtain rfl := Option.some.inj hb
                      refine Wc.ret ?_
                      refine hKR _ _ ?_
                      refine ⟨_, res1 Try.results9 (show RV _ _ _ (.tmp _) (.bool false) from rfl), _, rfl, rfl, hC.sel [] (by decide)⟩
                  · replace hb := (cF hq143).symm.trans hb
                    refine lex.gskip (want_f rfl rfl (show _ = Value.bool (decide (y77.2.2 = 5)) from rfl) hq143) ?_
                    refine lex.gskip (want_f rfl rfl (show _ = Value.bool (decide (y77.2.2 = 5)) from rfl) hq143) ?_
                    refine lex.gskip (want_f rfl rfl (show _ = Value.bool (decide (y77.2.2 = 5)) from rfl) hq143) ?_
                    refine lex.pure (v := .bool false) (pu_pickF (q := (decide (y77.2.2 = 5))) rfl hq143 rfl) ?_
                    refine lex.pure (v := .bool false) (pu_move rfl) ?_
                    refine lex.gskip (want_f rfl rfl (show _ = Value.bool false from rfl) rfl) ?_
                    refine lex.gskip (want_f rfl rfl (show _ = Value.bool false from rfl) rfl) ?_
                    refine lex.gskip (want_f rfl rfl (show _ = Value.bool false from rfl) rfl) ?_
                    refine lex.gskip (want_f rfl rfl (show _ = Value.bool false from rfl) rfl) ?_
                    refine lex.pure (v := .bool false) (pu_pickF (q := false) rfl rfl rfl) ?_
                    refine lex.pure (v := .bool false) (pu_assign rfl) ?_
                    refine lex.nil ?_
                    refine hK142 _ _ ?_
                    obtain rfl := Option.some.inj hb
                    refine Wc.ret ?_
                    refine hKR _ _ ?_
                    refine ⟨_, res1 Try.results9 (show RV _ _ _ (.tmp _) (.bool false) from rfl), _, rfl, rfl, hC.sel [] (by decide)⟩
                · replace hb := (cF hq141).symm.trans hb
                  refine Wc.skip ?_
                  refine hK138 _ _ ?_
                  refine Wc.seq fun K145 hK145 => ?_
                  refine Wc.region (by decide +kernel) ?_
                  refine lex.pure (v := .int .i64 y77.2.2) (pu_move e9) ?_
                  refine lex.pure (v := .bool (decide (y77.2.2 = 0))) (pu_eql (k := .i64) (a := y77.2.2) (b := 0) rfl rfl) ?_
                  refine lex.pure (v := .bool (decide (y77.2.2 = 0))) (pu_move rfl) ?_
                  rcases bS (decide (y77.2.2 = 0)) with hq146 | hq146
                  · replace hb := (cT hq146).symm.trans hb
                    refine lex.gpure (want_t rfl rfl (show _ = Value.bool (decide (y77.2.2 = 0)) from rfl) hq146) (v := .pointer (some ((⟨g88, 0, none⟩ : Addr).add 0))) (pu_field (sz := 1) Try.underlying24 rfl Try.sizeOf3 (by decide) rfl e8) ?_
                    refine lex.gval (want_t rfl rfl (show _ = Value.bool (decide (y77.2.2 = 0)) from rfl) hq146) (v := .int .i64 y77.1) (ld_fld (hC.bx (i := 2) rfl) Try.isAgg3 rfl rfl) ?_
                    refine lex.gpure (want_t rfl rfl (show _ = Value.bool (decide (y77.2.2 = 0)) from rfl) hq146) (v := .pointer (some ((⟨g3, 0, none⟩ : Addr).add 0))) (pu_field (sz := 1) Try.underlying28 rfl Try.sizeOf3 (by decide) rfl e1) ?_
                    refine lex.gval (want_t rfl rfl (show _ = Value.bool (decide (y77.2.2 = 0)) from rfl) hq146) (v := .int .i64 nx_0_0) (ld_fld (hC.bx (i := 5) rfl) Try.isAgg3 rfl rfl) ?_
                    refine lex.gpure (want_t rfl rfl (show _ = Value.bool (decide (y77.2.2 = 0)) from rfl) hq146) (v := .bool (decide (y77.1 = nx_0_0))) (pu_eql (k := .i64) (a := y77.1) (b := nx_0_0) rfl rfl) ?_
                    refine lex.pure (v := .bool (decide (y77.1 = nx_0_0))) (pu_pickT (q := (decide (y77.2.2 = 0))) rfl hq146 rfl) ?_
                    refine lex.pure (v := .bool (decide (y77.1 = nx_0_0))) (pu_move rfl) ?_
                    rcases bS (decide (y77.1 = nx_0_0)) with hq147 | hq147
                    · replace hb := (cT hq147).symm.trans hb
                      refine lex.gpure (want_t rfl rfl (show _ = Value.bool (decide (y77.1 = nx_0_0)) from rfl) hq147) (v := .pointer (some ((⟨g88, 0, none⟩ : Addr).add 1))) (pu_field (sz := 1) Try.underlying24 rfl Try.sizeOf22 (by decide) rfl e8) ?_
                      refine lex.gval (want_t rfl rfl (show _ = Value.bool (decide (y77.1 = nx_0_0)) from rfl) hq147) (v := .slice A80 y77.2.1.length c82) (ld_fld (hC.bx (i := 2) rfl) Try.isAgg22 rfl rfl) ?_
                      refine lex.gpure (want_t rfl rfl (show _ = Value.bool (decide (y77.1 = nx_0_0)) from rfl) hq147) (v := .slice A131 y129.length c133) (pu_move e10) ?_
                      obtain ⟨y148, h149, hb⟩ := bd hb
                      refine lex.gcl (want_t rfl rfl (show _ = Value.bool (decide (y77.1 = nx_0_0)) from rfl) hq147) (⟨_, _, op_call (vs := [.slice A80 y77.2.1.length c82, .slice A131 y129.length c133]) Try.call32 rfl rfl rfl, slices_Equal_Lint_int_ok n (hC.lentLt [.slice A131 y129.length c133, .slice A80 y77.2.1.length c82]) ((hC.ow (i := 3) rfl).lend (vs := [.slice A131 y129.length c133, .slice A80 y77.2.1.length c82]) (by simp)) ((hC.ow (i := 0) rfl).lend (vs := [.slice A131 y129.length c133, .slice A80 y77.2.1.length c82]) (by simp)) h149⟩) ?_
                      rintro _ w150 ⟨rfl, hK⟩
                      replace hC := hC.mergeF hK rfl
                      clear hK
                      refine lex.pure (v := .bool y148) (pu_pickT (q := (decide (y77.1 = nx_0_0))) rfl hq147 rfl) ?_
                      refine lex.pure (v := .bool y148) (pu_assign rfl) ?_
                      refine lex.nil ?_
                      refine hK145 _ _ ?_
                      obtain rfl := Option.some.inj hb
                      refine Wc.ret ?_
                      refine hKR _ _ ?_
                      refine ⟨_, res1 Try.results9 (show RV _ _ _ (.tmp _) (.bool y148) from rfl), _, rfl, rfl, hC.sel [] (by decide)⟩
                    · replace hb := (cF hq147).symm.trans hb
                      refine lex.gskip (want_f rfl rfl (show _ = Value.bool (decide (y77.1 = nx_0_0)) from rfl) hq147) ?_
                      refine lex.gskip (want_f rfl rfl (show _ = Value.bool (decide (y77.1 = nx_0_0)) from rfl) hq147) ?_
                      refine lex.gskip (want_f rfl rfl (show _ = Value.bool (decide (y77.1 = nx_0_0)) from rfl) hq147) ?_
                      refine lex.gskip (want_f rfl rfl (show _ = Value.bool (decide (y77.1 = nx_0_0)) from rfl) hq147) ?_
                      refine lex.pure (v := .bool false) (pu_pickF (q := (decide (y77.1 = nx_0_0))) rfl hq147 rfl) ?_
                      refine lex.pure (v := .bool false) (pu_assign rfl) ?_
                      refine lex.nil ?_
                      refine hK145 _ _ ?_
                      obtain rfl := Option.some.inj hb
                      refine Wc.ret ?_
                      refine hKR _ _ ?_
                      refine ⟨_, res1 Try.results9 (show RV _ _ _ (.tmp _) (.bool false) from rfl), _, rfl, rfl, hC.sel [] (by decide)⟩
                  · replace hb := (cF hq146).symm.trans hb
                    refine lex.gskip (want_f rfl rfl (show _ = Value.bool (decide (y77.2.2 = 0)) from rfl) hq146) ?_
                    refine lex.gskip (want_f rfl rfl (show _ = Value.bool (decide (y77.2.2 = 0)) from rfl) hq146) ?_
                    refine lex.gskip (want_f rfl rfl (show _ = Value.bool (decide (y77.2.2 = 0)) from rfl) hq146) ?_
                    refine lex.gskip (want_f rfl rfl (show _ = Value.bool (decide (y77.2.2 = 0)) from rfl) hq146) ?_
                    refine lex.gskip (want_f rfl rfl (show _ = Value.bool (decide (y77.2.2 = 0)) from rfl) hq146) ?_
                    refine lex.pure (v := .bool false) (pu_pickF (q := (decide (y77.2.2 = 0))) rfl hq146 rfl) ?_
                    refine lex.pure (v := .bool false) (pu_move rfl) ?_
                    refine lex.gskip (want_f rfl rfl (show _ = Value.bool false from rfl) rfl) ?_
                    refine lex.gskip (want_f rfl rfl (show _ = Value.bool false from rfl) rfl) ?_
                    refine lex.gskip (want_f rfl rfl (show _ = Value.bool false from rfl) rfl) ?_
                    refine lex.gskip (want_f rfl rfl (show _ = Value.bool false from rfl) rfl) ?_
                    refine lex.pure (v := .bool false) (pu_pickF (q := false) rfl rfl rfl) ?_
                    refine lex.pure (v := .bool false) (pu_assign rfl) ?_
                    refine lex.nil ?_
                    refine hK145 _ _ ?_
                    obtain rfl := Option.some.inj hb
                    refine Wc.ret ?_
                    refine hKR _ _ ?_
                    refine ⟨_, res1 Try.results9 (show RV _ _ _ (.tmp _) (.bool false) from rfl), _, rfl, rfl, hC.sel [] (by decide)⟩
end Go.Proofs.Ytkeaonceaaafcaa
