/- The walks: part 11. -/
import Derived.Test.YtkeaonceaaafcaaS
import Derived.Test.YtkeaonceaaafcaaG7
import Derived.Test.YtkeaonceaaafcaaG10
set_option linter.unusedVariables false
set_option linter.unusedSimpArgs false
namespace Go.Proofs.Ytkeaonceaaafcaa
open Ev
set_option maxRecDepth 100000 in
set_option maxHeartbeats 4000000 in
theorem ref34_Whole_ok (n : Nat) {w : World} {O0 : List Nat} (hO : ∀ k ∈ O0, k < w.heap.size) {strands_0 : Int} (hstrands_0 : I64 strands_0) {power_1 : Int} (hpower_1 : I64 power_1) {Afactors_2 : Option Addr} {mfactors_2 cfactors_2 : Nat} {factors_2 : List (List Int)} (hfactors_2 : Rep O0 w (.sl (.sl (.int .i64))) [.slice Afactors_2 mfactors_2 cfactors_2] factors_2) {r : (List Int)} (hb : F.ref34_Whole n strands_0 power_1 factors_2 = some r) :
    Calls Try.prog 19 #[.int .i64 strands_0, .int .i64 power_1, .slice Afactors_2 mfactors_2 cfactors_2] w fun e w' => ∃ v, e = .returned v ∧ ∃ (A0 : Option Addr) (m0 c0 : Nat), v = .slice A0 m0 c0 ∧ Cx (fun _ => False) O0 w w' [.own 3 (.int .i64) (.slice A0 m0 c0) r] := by
  unfold F.ref34_Whole at hb
  have hC := Cx.start hO
  replace hC := hC.arg rfl hfactors_2
  clear hO
  obtain ⟨rfl, hlfactors_2, hcfactors_2⟩ := hfactors_2.sl_len
  refine calls_of_Wc Try.func19 rfl (by rw [Try.ntmps19]; exact Nat.le_of_ble_eq_true rfl) fun KR hKR => ?_
  refine Wc.seq fun K2 hK2 => ?_
  refine Wc.region (by decide +kernel) ?_
  refine lex.pure (v := .slice none 0 0) (pu_assign rfl) ?_
  refine lex.nil ?_
  refine hK2 _ _ ?_
  refine Wc.seq fun K3 hK3 => ?_
  refine Wc.region (by decide +kernel) ?_
  refine lex.pure (v := .slice none 0 0) (pu_assign rfl) ?_
  refine lex.nil ?_
  refine hK3 _ _ ?_
  refine Wc.seq fun K4 hK4 => ?_
  refine Wc.region (by decide +kernel) ?_
  refine lex.pure (v := .int .i64 strands_0) (pu_move rfl) ?_
  obtain ⟨y5, h6, hb⟩ := bd hb
  refine lex.cl (⟨_, _, op_call (vs := [.int .i64 strands_0]) Try.call24 rfl rfl rfl, ref34_Half_ok n hC.lt hstrands_0 h6⟩) ?_
  rintro _ w11 ⟨A7, m8, c9, rfl, hK⟩
  replace hC := hC.merge hK
  clear hK
  obtain ⟨rfl, hl12, hc13⟩ := (hC.ow (i := 0) rfl).sl_len
  obtain ⟨y14, h15, hb⟩ := bd hb
  refine lex.cl (⟨_, _, op_call (vs := [.slice A7 y5.length c9]) Try.call33 rfl rfl rfl, ref34_Word_ok n (hC.lentLt [.slice A7 y5.length c9]) ((hC.ow (i := 0) rfl).lend (vs := [.slice A7 y5.length c9]) (by simp)) h15⟩) ?_
  rintro _ w20 ⟨A16, m17, c18, rfl, hK⟩
  replace hC := hC.mergeF hK rfl
  clear hK
  obtain ⟨rfl, hl21, hc22⟩ := (hC.ow (i := 0) rfl).sl_len
  refine lex.pure (v := .slice A16 y14.length c18) (pu_assign rfl) ?_
  refine lex.nil ?_
  refine hK4 _ _ ?_
  refine Wc.seq fun K23 hK23 => ?_
  refine Wc.seq fun K24 hK24 => ?_
  refine Wc.region (by decide +kernel) ?_
  refine lex.pure (v := .int .i64 0) (pu_assign rfl) ?_
  refine lex.nil ?_
  refine hK24 _ _ ?_
  replace hC := hC.nil 3 (.int .i64)
  obtain ⟨o26, hl0, hb⟩ := bd hb
  refine Wc.cut (fun E wv => ∃ (l7_0 : List Int) (v9_0 : Int) (Al7_0 : Option Addr) (ml7_0 cl7_0 : Nat), E 1 = .int .i64 power_1 ∧ E 2 = .slice Afactors_2 factors_2.length cfactors_2 ∧ E 6 = .slice none 0 0 ∧ E 7 = .slice Al7_0 ml7_0 cl7_0 ∧ E 8 = .slice A16 y14.length c18 ∧ I64 v9_0 ∧ Cx (fun _ => False) O0 w wv [.ro (.sl (.sl (.int .i64))) [.slice Afactors_2 factors_2.length cfactors_2] factors_2, .own 3 (.int .i64) (.slice Al7_0 ml7_0 cl7_0) l7_0, .own 3 (.int .i64) (.slice A16 y14.length c18) y14] ∧ (((loopN n (F.ref34_Whole_b1 n y14) (l7_0, power_1)).bind fun o50 => match o50 with     | (l7_1, v10_1) => ((loopN n (F.ref34_Whole_b3 n factors_2) (l7_1, 0)).bind fun o106 => match o106 with     | (l7_3, v12_3) => some l7_3)) : Option ((List Int))) = some r) (fun K27 hK27 => ?_) ?_
  · refine Wc.block ?_
    refine Wc.loop (fun m E wv => ∃ (l7_0 : List Int) (v9_0 : Int) (Al7_0 : Option Addr) (ml7_0 cl7_0 : Nat), E 1 = .int .i64 power_1 ∧ E 2 = .slice Afactors_2 factors_2.length cfactors_2 ∧ E 6 = .slice none 0 0 ∧ E 7 = .slice Al7_0 ml7_0 cl7_0 ∧ E 8 = .slice A16 y14.length c18 ∧ E 9 = .int .i64 v9_0 ∧ I64 v9_0 ∧ Cx (fun _ => False) O0 w wv [.ro (.sl (.sl (.int .i64))) [.slice Afactors_2 factors_2.length cfactors_2] factors_2, .own 3 (.int .i64) (.slice Al7_0 ml7_0 cl7_0) l7_0, .own 3 (.int .i64) (.slice A16 y14.length c18) y14] ∧ loopN m (F.ref34_Whole_b0 n power_1 y14) (l7_0, v9_0) = some o26) n ⟨([] : List Int), 0, none, 0, 0, rfl, rfl, rfl, rfl, rfl, rfl, (show I64 0 from by unfold I64; omega), hC.sel [3, 0, 1] (by decide), hl0⟩ ?_
    have hbK0 := hb
    clear hb hC hl0
    rintro m29 E31 w30 ⟨l7_0, v9_0, Al7_0, ml7_0, cl7_0, e1, e2, e6, e7, e8, e9, hrv9_0, hC, hl0⟩ K28 hK28
    obtain ⟨m29', o32, rfl, hb, hl0⟩ := loopN_some hl0
    unfold F.ref34_Whole_b0 at hb
    obtain ⟨rfl, hll7_0, hcl7_0⟩ := (hC.ow (i := 1) rfl).sl_len
    refine Wc.seq fun K33 hK33 => ?_
    refine Wc.seq fun K34 hK34 => ?_
    refine Wc.region (by decide +kernel) ?_
    refine lex.pure (v := .int .i64 v9_0) (pu_move e9) ?_
    refine lex.pure (v := .int .i64 power_1) (pu_move e1) ?_
    refine lex.pure (v := .bool (decide (v9_0 < power_1))) (pu_lss (k := .i64) (a := v9_0) (b := power_1) rfl rfl) ?_
    refine lex.nil ?_
    refine hK34 _ _ ?_
    refine Wc.cond (t := (decide (v9_0 < power_1))) (rfl) (fun hq35 => ?_) (fun hq35 => ?_)
    · replace hb := (cT hq35).symm.trans hb
      refine Wc.skip ?_
      refine hK33 _ _ ?_
      refine Wc.seq fun K36 hK36 => ?_
      refine Wc.block ?_
      refine Wc.region (by decide +kernel) ?_
      refine lex.pure (v := .slice Al7_0 l7_0.length cl7_0) (pu_move e7) ?_
      refine lex.pure (v := .slice A16 y14.length c18) (pu_move e8) ?_
      obtain ⟨u37, h38, hb⟩ := bd hb
      refine lex.op (hC.app (i := 1) (s := (.int .i64)) (xs := l7_0) (ys := y14) (m := y14.length) rfl Try.underlying22 Try.underlying22 Try.type3 rfl rfl rfl (hC.srco (i := 2) rfl) rfl rfl (by have := lim_some h38; simp at this ⊢ <;> omega) (by decide)) ?_
      rintro _ w43 ⟨A39, c40, rfl, hl41, hc42, hC, hF, hN⟩
      clear hF hN
      refine lex.pure (v := .slice A39 ((l7_0 ++ y14).length) c40) (pu_assign rfl) ?_
      refine lex.nil ?_
      refine hK36 _ _ ?_
      refine Wc.region (by decide +kernel) ?_
      refine lex.pure (v := .int .i64 v9_0) (pu_move e9) ?_
      obtain ⟨z44, h45, hb⟩ := bd hb
      refine lex.pure (v := .int .i64 z44) (pu_addc (a := v9_0) (b := 1) rfl rfl h45) ?_
      refine lex.pure (v := .int .i64 z44) (pu_assign rfl) ?_
      refine lex.nil ?_
      obtain rfl := Option.some.inj hb
      exact hK28 m29' _ _ (Nat.lt_succ_self _) ⟨(l7_0 ++ y14), z44, A39, (l7_0 ++ y14).length, c40, e1, e2, e6, rfl, e8, rfl, (chk_rng h45), hC.sel [0, 1, 2] (by decide), lN hl0⟩
    · replace hb := (cF hq35).symm.trans hb
      refine Wc.exit rfl ?_
      obtain rfl := Option.some.inj hb
      obtain rfl := (lX hl0).symm
      exact hK27 _ _ ⟨l7_0, v9_0, Al7_0, l7_0.length, cl7_0, e1, e2, e6, e7, e8, hrv9_0, hC.sel [0, 1, 2] (by decide), hbK0⟩
  · clear hb hC hl0
    rintro E47 w46 ⟨l7_0, v9_0, Al7_0, ml7_0, cl7_0, e1, e2, e6, e7, e8, hrv9_0, hC, hb⟩
    obtain ⟨rfl, hll7_0, hcl7_0⟩ := (hC.ow (i := 1) rfl).sl_len
    refine hK23 _ _ ?_
    refine Wc.seq fun K48 hK48 => ?_
    refine Wc.seq fun K49 hK49 => ?_
    refine Wc.region (by decide +kernel) ?_
    refine lex.pure (v := .int .i64 power_1) (pu_move e1) ?_
    refine lex.pure (v := .int .i64 power_1) (pu_assign rfl) ?_
    refine lex.nil ?_
    refine hK49 _ _ ?_
    obtain ⟨o50, hl1, hb⟩ := bd hb
    refine Wc.cut (fun E wv => ∃ (l7_1 : List Int) (v10_1 : Int) (Al7_1 : Option Addr) (ml7_1 cl7_1 : Nat), E 2 = .slice Afactors_2 factors_2.length cfactors_2 ∧ E 6 = .slice none 0 0 ∧ E 7 = .slice Al7_1 ml7_1 cl7_1 ∧ I64 v10_1 ∧ Cx (fun _ => False) O0 w wv [.ro (.sl (.sl (.int .i64))) [.slice Afactors_2 factors_2.length cfactors_2] factors_2, .own 3 (.int .i64) (.slice Al7_1 ml7_1 cl7_1) l7_1] ∧ (((loopN n (F.ref34_Whole_b3 n factors_2) (l7_1, 0)).bind fun o106 => match o106 with     | (l7_3, v12_3) => some l7_3) : Option ((List Int))) = some r) (fun K51 hK51 => ?_) ?_
    · refine Wc.block ?_
      refine Wc.loop (fun m E wv => ∃ (l7_1 : List Int) (v10_1 : Int) (Al7_1 : Option Addr) (ml7_1 cl7_1 : Nat), E 2 = .slice Afactors_2 factors_2.length cfactors_2 ∧ E 6 = .slice none 0 0 ∧ E 7 = .slice Al7_1 ml7_1 cl7_1 ∧ E 8 = .slice A16 y14.length c18 ∧ E 10 = .int .i64 v10_1 ∧ I64 v10_1 ∧ Cx (fun _ => False) O0 w wv [.ro (.sl (.sl (.int .i64))) [.slice Afactors_2 factors_2.length cfactors_2] factors_2, .own 3 (.int .i64) (.slice Al7_1 ml7_1 cl7_1) l7_1, .own 3 (.int .i64) (.slice A16 y14.length c18) y14] ∧ loopN m (F.ref34_Whole_b1 n y14) (l7_1, v10_1) = some o50) n ⟨l7_0, power_1, Al7_0, l7_0.length, cl7_0, e2, e6, e7, e8, rfl, hpower_1, hC.sel [0, 1, 2] (by decide), hl1⟩ ?_
      have hbK1 := hb
      clear hb hC hl1
      rintro m53 E55 w54 ⟨l7_1, v10_1, Al7_1, ml7_1, cl7_1, e2, e6, e7, e8, e10, hrv10_1, hC, hl1⟩ K52 hK52
      obtain ⟨m53', o56, rfl, hb, hl1⟩ := loopN_some hl1
      unfold F.ref34_Whole_b1 at hb
      obtain ⟨rfl, hll7_1, hcl7_1⟩ := (hC.ow (i := 1) rfl).sl_len
      refine Wc.seq fun K57 hK57 => ?_
      refine Wc.seq fun K58 hK58 => ?_
      refine Wc.region (by decide +kernel) ?_
      refine lex.pure (v := .int .i64 v10_1) (pu_move e10) ?_
      refine lex.pure (v := .bool (decide (v10_1 < 0))) (pu_lss (k := .i64) (a := v10_1) (b := 0) rfl rfl) ?_
      refine lex.nil ?_
      refine hK58 _ _ ?_
      refine Wc.cond (t := (decide (v10_1 < 0))) (rfl) (fun hq59 => ?_) (fun hq59 => ?_)
      · replace hb := (cT hq59).symm.trans hb
        refine Wc.skip ?_
        refine hK57 _ _ ?_
        refine Wc.seq fun K60 hK60 => ?_
        refine Wc.block ?_
        refine Wc.seq fun K61 hK61 => ?_
        refine Wc.region (by decide +kernel) ?_
        refine lex.pure (v := .slice A16 y14.length c18) (pu_move e8) ?_
        refine lex.pure (v := .int .i64 (y14.length : Int)) (pu_len (A := A16) (n := y14.length) (m := c18) Try.underlying22 rfl) ?_
        obtain ⟨z62, h63, hb⟩ := bd hb
        refine lex.pure (v := .int .i64 z62) (pu_subc (a := (y14.length : Int)) (b := 1) rfl rfl h63) ?_
        refine lex.pure (v := .int .i64 z62) (pu_assign rfl) ?_
        refine lex.nil ?_
        refine hK61 _ _ ?_
        obtain ⟨o64, hl2, hb⟩ := bd hb
        refine Wc.cut (fun E wv => ∃ (l7_2 : List Int) (v11_2 : Int) (Al7_2 : Option Addr) (ml7_2 cl7_2 : Nat), E 2 = .slice Afactors_2 factors_2.length cfactors_2 ∧ E 6 = .slice none 0 0 ∧ E 7 = .slice Al7_2 ml7_2 cl7_2 ∧ E 8 = .slice A16 y14.length c18 ∧ E 10 = .int .i64 v10_1 ∧ E 11 = .int .i64 v11_2 ∧ E 26 = .bool (decide (v10_1 < 0)) ∧ I64 v11_2 ∧ Cx (fun _ => False) O0 w wv [.ro (.sl (.sl (.int .i64))) [.slice Afactors_2 factors_2.length cfactors_2] factors_2, .own 3 (.int .i64) (.slice Al7_2 ml7_2 cl7_2) l7_2, .own 3 (.int .i64) (.slice A16 y14.length c18) y14] ∧ ((chk (v10_1 + 1)).bind fun z100 => some (.inl (l7_2, z100)) : Option (((List Int) × Int) ⊕ (((List Int) × Int)))) = some o56) (fun K65 hK65 => ?_) ?_
        · refine Wc.block ?_
          refine Wc.loop (fun m E wv => ∃ (l7_2 : List Int) (v11_2 : Int) (Al7_2 : Option Addr) (ml7_2 cl7_2 : Nat), E 2 = .slice Afactors_2 factors_2.length cfactors_2 ∧ E 6 = .slice none 0 0 ∧ E 7 = .slice Al7_2 ml7_2 cl7_2 ∧ E 8 = .slice A16 y14.length c18 ∧ E 10 = .int .i64 v10_1 ∧ E 11 = .int .i64 v11_2 ∧ E 26 = .bool (decide (v10_1 < 0)) ∧ I64 v11_2 ∧ Cx (fun _ => False) O0 w wv [.ro (.sl (.sl (.int .i64))) [.slice Afactors_2 factors_2.length cfactors_2] factors_2, .own 3 (.int .i64) (.slice Al7_2 ml7_2 cl7_2) l7_2, .own 3 (.int .i64) (.slice A16 y14.length c18) y14] ∧ loopN m (F.ref34_Whole_b2 n y14) (l7_2, v11_2) = some o64) n ⟨l7_1, z62, Al7_1, l7_1.length, cl7_1, e2, e6, e7, e8, e10, rfl, rfl, (chk_rng h63), hC.sel [0, 1, 2] (by decide), hl2⟩ ?_
          have hbK2 := hb
          clear hb hC hl2
          rintro m67 E69 w68 ⟨l7_2, v11_2, Al7_2, ml7_2, cl7_2, e2, e6, e7, e8, e10, e11, e26, hrv11_2, hC, hl2⟩ K66 hK66
          obtain ⟨m67', o70, rfl, hb, hl2⟩ := loopN_some hl2
          unfold F.ref34_Whole_b2 at hb
          obtain ⟨rfl, hll7_2, hcl7_2⟩ := (hC.ow (i := 1) rfl).sl_len
          refine Wc.seq fun K71 hK71 => ?_
          refine Wc.seq fun K72 hK72 => ?_
          refine Wc.region (by decide +kernel) ?_
          refine lex.pure (v := .int .i64 v11_2) (pu_move e11) ?_
          refine lex.pure (v := .bool (decide (0 ≤ v11_2))) (pu_geq (k := .i64) (a := v11_2) (b := 0) rfl rfl) ?_
          refine lex.nil ?_
          refine hK72 _ _ ?_
          refine Wc.cond (t := (decide (0 ≤ v11_2))) (rfl) (fun hq73 => ?_) (fun hq73 => ?_)
          · replace hb := (cT hq73).symm.trans hb
            refine Wc.skip ?_
            refine hK71 _ _ ?_
            refine Wc.seq fun K74 hK74 => ?_
            refine Wc.block ?_
            refine Wc.region (by decide +kernel) ?_
            refine lex.pure (v := .slice Al7_2 l7_2.length cl7_2) (pu_move e7) ?_
            refine lex.pure (v := .slice A16 y14.length c18) (pu_move e8) ?_
            refine lex.pure (v := .int .i64 v11_2) (pu_move e11) ?_
            obtain ⟨x75, h76, hb⟩ := bd hb
            obtain ⟨ad77, cs78, hA, hc79, hr80⟩ := hC.elo (i := 2) rfl (get_some h76).2
            subst hA
            refine lex.pure (v := .pointer (some (ad77.add (v11_2.toNat * 1)))) (pu_index (a := v11_2) Try.underlying22 Try.sizeOf3 rfl rfl (get_some h76).1) ?_
            obtain ⟨rfl, hr80'⟩ := hr80
            refine lex.val (v := .int .i64 x75) (ld_one Try.isAgg3 rfl (hc79 0 _ rfl)) ?_
            obtain ⟨z81, h82, hb⟩ := bd hb
            refine lex.pure (v := .int .i64 z81) (pu_subc (a := 0) (b := x75) rfl rfl h82) ?_
            refine lex.op (hC.lit (s := (.int .i64)) (vs := [.int .i64 z81]) (xs := [z81]) Try.underlying22 Try.type3 rfl rfl (Nat.le_of_ble_eq_true rfl) rfl rfl (by simp [Value.cells, Sh.n]) rfl (show Elems _ _ (.int .i64) ([.int .i64 z81] ++ ([])) ([z81] : List Int) from Elems.cons (⟨rfl, I64.wr (chk_rng h82)⟩) (Elems.nil _ _ _))) ?_
            rintro _ w87 ⟨A83, c84, rfl, hl85, hc86, hC, hF, hN⟩
            clear hF hN
            obtain ⟨u89, h90, hb⟩ := bd hb
            refine lex.op (hC.app (i := 2) (s := (.int .i64)) (xs := l7_2) (ys := ([z81] : List Int)) (m := ((([z81] : List Int)).length)) rfl Try.underlying22 Try.underlying22 Try.type3 rfl rfl rfl (hC.srco (i := 0) rfl) rfl rfl (by have := lim_some h90; simp at this ⊢ <;> omega) (by decide)) ?_
            rintro _ w95 ⟨A91, c92, rfl, hl93, hc94, hC, hF, hN⟩
            clear hF hN
            refine lex.pure (v := .slice A91 ((l7_2 ++ ([z81] : List Int)).length) c92) (pu_assign rfl) ?_
            refine lex.nil ?_
            refine hK74 _ _ ?_
            refine Wc.region (by decide +kernel) ?_
            refine lex.pure (v := .int .i64 v11_2) (pu_move e11) ?_
            obtain ⟨z96, h97, hb⟩ := bd hb
            refine lex.pure (v := .int .i64 z96) (pu_subc (a := v11_2) (b := 1) rfl rfl h97) ?_
            refine lex.pure (v := .int .i64 z96) (pu_assign rfl) ?_
            refine lex.nil ?_
            obtain rfl := Option.some.inj hb
            exact hK66 m67' _ _ (Nat.lt_succ_self _) ⟨(l7_2 ++ ([z81] : List Int)), z96, A91, (l7_2 ++ ([z81] : List Int)).length, c92, e2, e6, rfl, e8, e10, rfl, e26, (chk_rng h97), hC.sel [1, 2, 3] (by decide), lN hl2⟩
          · replace hb := (cF hq73).symm.trans hb
            refine Wc.exit rfl ?_
            obtain rfl := Option.some.inj hb
            obtain rfl := (lX hl2).symm
            exact hK65 _ _ ⟨l7_2, v11_2, Al7_2, l7_2.length, cl7_2, e2, e6, e7, e8, e10, e11, e26, hrv11_2, hC.sel [0, 1, 2] (by decide), hbK2⟩
        · clear hb hC hl2
          rintro E99 w98 ⟨l7_2, v11_2, Al7_2, ml7_2, cl7_2, e2, e6, e7, e8, e10, e11, e26, hrv11_2, hC, hb⟩
          obtain ⟨rfl, hll7_2, hcl7_2⟩ := (hC.ow (i := 1) rfl).sl_len
          refine hK60 _ _ ?_
          refine Wc.region (by decide +kernel) ?_
          refine lex.pure (v := .int .i64 v10_1) (pu_move e10) ?_
          obtain ⟨z100, h101, hb⟩ := bd hb
          refine lex.pure (v := .int .i64 z100) (pu_addc (a := v10_1) (b := 1) rfl rfl h101) ?_
          refine lex.pure (v := .int .i64 z100) (pu_assign rfl) ?_
          refine lex.nil ?_
          obtain rfl := Option.some.inj hb
          exact hK52 m53' _ _ (Nat.lt_succ_self _) ⟨l7_2, z100, Al7_2, l7_2.length, cl7_2, e2, e6, e7, e8, rfl, (chk_rng h101), hC.sel [0, 1, 2] (by decide), lN hl1⟩
      · replace hb := (cF hq59).symm.trans hb
        refine Wc.exit rfl ?_
        obtain rfl := Option.some.inj hb
        obtain rfl := (lX hl1).symm
        exact hK51 _ _ ⟨l7_1, v10_1, Al7_1, l7_1.length, cl7_1, e2, e6, e7, hrv10_1, hC.sel [0, 1] (by decide), hbK1⟩
    · clear hb hC hl1
      rintro E103 w102 ⟨l7_1, v10_1, Al7_1, ml7_1, cl7_1, e2, e6, e7, hrv10_1, hC, hb⟩
      obtain ⟨rfl, hll7_1, hcl7_1⟩ := (hC.ow (i := 1) rfl).sl_len
      refine hK48 _ _ ?_
      refine Wc.seq fun K104 hK104 => ?_
      refine Wc.seq fun K105 hK105 => ?_
      refine Wc.region (by decide +kernel) ?_
      refine lex.pure (v := .int .i64 0) (pu_assign rfl) ?_
      refine lex.nil ?_
      refine hK105 _ _ ?_
      obtain ⟨o106, hl3, hb⟩ := bd hb
      refine Wc.cut (fun E wv => ∃ (l7_3 : List Int) (v12_3 : Int) (Al7_3 : Option Addr) (ml7_3 cl7_3 : Nat), E 6 = .slice none 0 0 ∧ E 7 = .slice Al7_3 ml7_3 cl7_3 ∧ I64 v12_3 ∧ Cx (fun _ => False) O0 w wv [.own 3 (.int .i64) (.slice Al7_3 ml7_3 cl7_3) l7_3] ∧ (some l7_3 : Option ((List Int))) = some r) (fun K107 hK107 => ?_) ?_
      · refine Wc.block ?_
        refine Wc.loop (fun m E wv => ∃ (l7_3 : List Int) (v12_3 : Int) (Al7_3 : Option Addr) (ml7_3 cl7_3 : Nat), E 2 = .slice Afactors_2 factors_2.length cfactors_2 ∧ E 6 = .slice none 0 0 ∧ E 7 = .slice Al7_3 ml7_3 cl7_3 ∧ E 12 = .int .i64 v12_3 ∧ I64 v12_3 ∧ Cx (fun _ => False) O0 w wv [.ro (.sl (.sl (.int .i64))) [.slice Afactors_2 factors_2.length cfactors_2] factors_2, .own 3 (.int .i64) (.slice Al7_3 ml7_3 cl7_3) l7_3] ∧ loopN m (F.ref34_Whole_b3 n factors_2) (l7_3, v12_3) = some o106) n ⟨l7_1, 0, Al7_1, l7_1.length, cl7_1, e2, e6, e7, rfl, (show I64 0 from by unfold I64; omega), hC.sel [0, 1] (by decide), hl3⟩ ?_
        have hbK3 := hb
        clear hb hC hl3
        rintro m109 E111 w110 ⟨l7_3, v12_3, Al7_3, ml7_3, cl7_3, e2, e6, e7, e12, hrv12_3, hC, hl3⟩ K108 hK108
        obtain ⟨m109', o112, rfl, hb, hl3⟩ := loopN_some hl3
        unfold F.ref34_Whole_b3 at hb
        obtain ⟨rfl, hll7_3, hcl7_3⟩ := (hC.ow (i := 1) rfl).sl_len
        refine Wc.seq fun K113 hK113 => ?_
        refine Wc.seq fun K114 hK114 => ?_
        refine Wc.region (by decide +kernel) ?_
        refine lex.pure (v := .int .i64 v12_3) (pu_move e12) ?_
        refine lex.pure (v := .slice Afactors_2 factors_2.length cfactors_2) (pu_move e2) ?_
        refine lex.pure (v := .int .i64 (factors_2.length : Int)) (pu_len (A := Afactors_2) (n := factors_2.length) (m := cfactors_2) Try.underlying35 rfl) ?_
        refine lex.pure (v := .bool (decide (v12_3 < (factors_2.length : Int)))) (pu_lss (k := .i64) (a := v12_3) (b := (factors_2.length : Int)) rfl rfl) ?_
        refine lex.nil ?_
        refine hK114 _ _ ?_
        refine Wc.cond (t := (decide (v12_3 < (factors_2.length : Int)))) (rfl) (fun hq115 => ?_) (fun hq115 => ?_)
        · replace hb := (cT hq115).symm.trans hb
          refine Wc.skip ?_
          refine hK113 _ _ ?_
          refine Wc.seq fun K116 hK116 => ?_
          refine Wc.block ?_
          refine Wc.region (by decide +kernel) ?_
          refine lex.pure (v := .slice Al7_3 l7_3.length cl7_3) (pu_move e7) ?_
          refine lex.pure (v := .slice Afactors_2 factors_2.length cfactors_2) (pu_move e2) ?_
          refine lex.pure (v := .int .i64 v12_3) (pu_move e12) ?_
          obtain ⟨x117, h118, hb⟩ := bd hb
          obtain ⟨ad119, cs120, hA, hc121, hr122⟩ := hC.elr (i := 0) rfl (get_some h118).2
          subst hA
          refine lex.pure (v := .pointer (some (ad119.add (v12_3.toNat * 1)))) (pu_index (a := v12_3) Try.underlying35 Try.sizeOf22 rfl rfl (get_some h118).1) ?_
          have hR := hr122
          obtain ⟨A123, c124, rfl, hl125, hc126, _⟩ := hr122
          replace hC := hC.ro hR
          clear hR
          refine lex.val (v := .slice A123 x117.length c124) (ld_one Try.isAgg22 rfl (hc121 0 _ rfl)) ?_
          obtain ⟨y128, h129, hb⟩ := bd hb
          refine lex.cl (⟨_, _, op_call (vs := [.slice A123 x117.length c124]) Try.call33 rfl rfl rfl, ref34_Word_ok n hC.lt (hC.rd (i := 0) rfl) h129⟩) ?_
          rintro _ w134 ⟨A130, m131, c132, rfl, hK⟩
          replace hC := hC.merge hK
          clear hK
          obtain ⟨rfl, hl135, hc136⟩ := (hC.ow (i := 0) rfl).sl_len
          obtain ⟨u137, h138, hb⟩ := bd hb
          refine lex.op (hC.app (i := 3) (s := (.int .i64)) (xs := l7_3) (ys := y128) (m := y128.length) rfl Try.underlying22 Try.underlying22 Try.type3 rfl rfl rfl (hC.srco (i := 0) rfl) rfl rfl (by have := lim_some h138; simp at this ⊢ <;> omega) (by decide)) ?_
          rintro _ w143 ⟨A139, c140, rfl, hl141, hc142, hC, hF, hN⟩
          clear hF hN
          refine lex.pure (v := .slice A139 ((l7_3 ++ y128).length) c140) (pu_assign rfl) ?_
          refine lex.nil ?_
          refine hK116 _ _ ?_
          refine Wc.region (by decide +kernel) ?_
          refine lex.pure (v := .int .i64 v12_3) (pu_move e12) ?_
          obtain ⟨z144, h145, hb⟩ := bd hb
          refine lex.pure (v := .int .i64 z144) (pu_addc (a := v12_3) (b := 1) rfl rfl h145) ?_
          refine lex.pure (v := .int .i64 z144) (pu_assign rfl) ?_
          refine lex.nil ?_
          obtain rfl := Option.some.inj hb
          exact hK108 m109' _ _ (Nat.lt_succ_self _) ⟨(l7_3 ++ y128), z144, A139, (l7_3 ++ y128).length, c140, e2, e6, rfl, rfl, (chk_rng h145), hC.sel [2, 3] (by decide), lN hl3⟩
        · replace hb := (cF hq115).symm.trans hb
          refine Wc.exit rfl ?_
          obtain rfl := Option.some.inj hb
          obtain rfl := (lX hl3).symm
          exact hK107 _ _ ⟨l7_3, v12_3, Al7_3, l7_3.length, cl7_3, e6, e7, hrv12_3, hC.sel [1] (by decide), hbK3⟩
      · clear hb hC hl3
        rintro E147 w146 ⟨l7_3, v12_3, Al7_3, ml7_3, cl7_3, e6, e7, hrv12_3, hC, hb⟩
        obtain ⟨rfl, hll7_3, hcl7_3⟩ := (hC.ow (i := 0) rfl).sl_len
        refine hK104 _ _ ?_
        refine Wc.seq fun K148 hK148 => ?_
        refine Wc.region (by decide +kernel) ?_
        refine lex.pure (v := .slice Al7_3 l7_3.length cl7_3) (pu_move e7) ?_
        refine lex.pure (v := .slice Al7_3 l7_3.length cl7_3) (pu_assign rfl) ?_
        refine lex.nil ?_
        refine hK148 _ _ ?_
        obtain rfl := Option.some.inj hb
        refine Wc.ret ?_
        refine hKR _ _ ?_
        refine ⟨_, res1 Try.results19 (show RV _ _ _ (.tmp _) (.slice Al7_3 l7_3.length cl7_3) from rfl), _, rfl, Al7_3, l7_3.length, cl7_3, rfl, hC.sel [0] (by decide)⟩
end Go.Proofs.Ytkeaonceaaafcaa
