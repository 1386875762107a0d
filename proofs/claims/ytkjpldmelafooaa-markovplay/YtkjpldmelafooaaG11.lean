/- The walks: part 11. -/
import Derived.Test.YtkjpldmelafooaaS
import Derived.Test.YtkjpldmelafooaaG0
import Derived.Test.YtkjpldmelafooaaG3
import Derived.Test.YtkjpldmelafooaaG10
set_option linter.unusedVariables false
set_option linter.unusedSimpArgs false
namespace Go.Proofs.Ytkjpldmelafooaa
open Ev
set_option maxRecDepth 100000 in
set_option maxHeartbeats 4000000 in
theorem law36_MarkovPlay_ok (n : Nat) {w : World} {O0 : List Nat} (hO : ∀ k ∈ O0, k < w.heap.size) {strands_0 : Int} (hstrands_0 : I64 strands_0) {Aword_1 : Option Addr} {mword_1 cword_1 : Nat} {word_1 : List Int} (hword_1 : Rep O0 w (.sl (.int .i64)) [.slice Aword_1 mword_1 cword_1] word_1) {Al_2 : Option Addr} {ml_2 cl_2 : Nat} {l_2 : List (Int × (Int × Int))} (hl_2 : Rep O0 w (.sl (.pr (.int .i64) (.pr (.int .i64) (.int .i64)))) [.slice Al_2 ml_2 cl_2] l_2) {r : Bool} (hb : F.law36_MarkovPlay n strands_0 word_1 l_2 = some r) :
    Calls Try.prog 6 #[.int .i64 strands_0, .slice Aword_1 mword_1 cword_1, .slice Al_2 ml_2 cl_2] w fun e w' => ∃ v, e = .returned v ∧ v = .bool r ∧ Cx (fun _ => False) O0 w w' [] := by
  unfold F.law36_MarkovPlay at hb
  have hC := Cx.start hO
  replace hC := hC.arg rfl hword_1
  replace hC := hC.arg rfl hl_2
  clear hO
  obtain ⟨rfl, hlword_1, hcword_1⟩ := hword_1.sl_len
  obtain ⟨rfl, hll_2, hcl_2⟩ := hl_2.sl_len
  refine calls_of_Wc Try.func6 rfl (by rw [Try.ntmps6]; exact Nat.le_of_ble_eq_true rfl) fun KR hKR => ?_
  refine Wc.seq fun K3 hK3 => ?_
  refine Wc.region (by decide +kernel) ?_
  refine lex.pure (v := .bool false) (pu_assign rfl) ?_
  refine lex.nil ?_
  refine hK3 _ _ ?_
  refine Wc.seq fun K4 hK4 => ?_
  refine Wc.seq fun K5 hK5 => ?_
  refine Wc.region (by decide +kernel) ?_
  obtain ⟨y6, h7, hb⟩ := bd hb
  refine lex.cl (⟨_, _, op_call (vs := []) Try.call11 rfl rfl rfl, law36_awake_ok n hC.lt  h7⟩) ?_
  rintro _ w8 ⟨rfl, hK⟩
  replace hC := hC.merge hK
  clear hK
  refine lex.pure (v := .bool (!y6)) (pu_not (q := y6) rfl) ?_
  refine lex.nil ?_
  refine hK5 _ _ ?_
  refine Wc.cond (t := (!y6)) (rfl) (fun hq9 => ?_) (fun hq9 => ?_)
  · replace hb := (cT hq9).symm.trans hb
    refine Wc.seq fun K10 hK10 => ?_
    refine Wc.region (by decide +kernel) ?_
    refine lex.pure (v := .bool false) (pu_assign rfl) ?_
    refine lex.nil ?_
    refine hK10 _ _ ?_
    obtain rfl := Option.some.inj hb
    refine Wc.ret ?_
    refine hKR _ _ ?_
    refine ⟨_, res1 Try.results6 (show RV _ _ _ (.tmp _) (.bool false) from rfl), _, rfl, rfl, hC.sel [] (by decide)⟩
  · replace hb := (cF hq9).symm.trans hb
    refine Wc.skip ?_
    refine hK4 _ _ ?_
    refine Wc.seq fun K11 hK11 => ?_
    refine Wc.seq fun K12 hK12 => ?_
    refine Wc.region (by decide +kernel) ?_
    refine lex.pure (v := .slice Aword_1 word_1.length cword_1) (pu_move rfl) ?_
    refine lex.pure (v := .int .i64 (word_1.length : Int)) (pu_len (A := Aword_1) (n := word_1.length) (m := cword_1) Try.underlying22 rfl) ?_
    refine lex.pure (v := .bool (decide (210 < (word_1.length : Int)))) (pu_gtr (k := .i64) (a := (word_1.length : Int)) (b := 210) rfl rfl) ?_
    refine lex.pure (v := .bool (decide (210 < (word_1.length : Int)))) (pu_move rfl) ?_
    rcases bS (decide (210 < (word_1.length : Int))) with hq13 | hq13
    · replace hb := (cT hq13).symm.trans hb
      refine lex.gskip (want_f rfl rfl (show _ = Value.bool (decide (210 < (word_1.length : Int))) from rfl) hq13) ?_
      refine lex.gskip (want_f rfl rfl (show _ = Value.bool (decide (210 < (word_1.length : Int))) from rfl) hq13) ?_
      refine lex.gskip (want_f rfl rfl (show _ = Value.bool (decide (210 < (word_1.length : Int))) from rfl) hq13) ?_
      refine lex.pure (v := .bool true) (pu_pickT (q := (decide (210 < (word_1.length : Int)))) rfl hq13 rfl) ?_
      refine lex.nil ?_
      refine hK12 _ _ ?_
      refine Wc.cond_true (rfl) ?_
      refine Wc.seq fun K14 hK14 => ?_
      refine Wc.region (by decide +kernel) ?_
      refine lex.pure (v := .bool true) (pu_assign rfl) ?_
      refine lex.nil ?_
      refine hK14 _ _ ?_
      obtain rfl := Option.some.inj hb
      refine Wc.ret ?_
      refine hKR _ _ ?_
      refine ⟨_, res1 Try.results6 (show RV _ _ _ (.tmp _) (.bool true) from rfl), _, rfl, rfl, hC.sel [] (by decide)⟩
    · replace hb := (cF hq13).symm.trans hb
      refine lex.gpure (want_t rfl rfl (show _ = Value.bool (decide (210 < (word_1.length : Int))) from rfl) hq13) (v := .slice Al_2 l_2.length cl_2) (pu_move rfl) ?_
      refine lex.gpure (want_t rfl rfl (show _ = Value.bool (decide (210 < (word_1.length : Int))) from rfl) hq13) (v := .int .i64 (l_2.length : Int)) (pu_len (A := Al_2) (n := l_2.length) (m := cl_2) Try.underlying43 rfl) ?_
      refine lex.gpure (want_t rfl rfl (show _ = Value.bool (decide (210 < (word_1.length : Int))) from rfl) hq13) (v := .bool (decide (12 < (l_2.length : Int)))) (pu_gtr (k := .i64) (a := (l_2.length : Int)) (b := 12) rfl rfl) ?_
      refine lex.pure (v := .bool (decide (12 < (l_2.length : Int)))) (pu_pickF (q := (decide (210 < (word_1.length : Int)))) rfl hq13 rfl) ?_
      refine lex.nil ?_
      refine hK12 _ _ ?_
      refine Wc.cond (t := (decide (12 < (l_2.length : Int)))) (rfl) (fun hq15 => ?_) (fun hq15 => ?_)
      · replace hb := (cT hq15).symm.trans hb
        refine Wc.seq fun K16 hK16 => ?_
        refine Wc.region (by decide +kernel) ?_
        refine lex.pure (v := .bool true) (pu_assign rfl) ?_
        refine lex.nil ?_
        refine hK16 _ _ ?_
        obtain rfl := Option.some.inj hb
        refine Wc.ret ?_
        refine hKR _ _ ?_
        refine ⟨_, res1 Try.results6 (show RV _ _ _ (.tmp _) (.bool true) from rfl), _, rfl, rfl, hC.sel [] (by decide)⟩
      · replace hb := (cF hq15).symm.trans hb
        refine Wc.skip ?_
        refine hK11 _ _ ?_
        refine Wc.fresh fun E17 hE => ?_
        have e0 : E17 0 = .int .i64 strands_0 := (congrFun hE 0).trans rfl
        have e1 : E17 1 = .slice Aword_1 word_1.length cword_1 := (congrFun hE 1).trans rfl
        have e2 : E17 2 = .slice Al_2 l_2.length cl_2 := (congrFun hE 2).trans rfl
        have e6 : E17 6 = .bool false := (congrFun hE 6).trans rfl
        clear hE
        refine Wc.seq fun K18 hK18 => ?_
        refine Wc.region (by decide +kernel) ?_
        refine lex.pure (v := .int .i64 strands_0) (pu_move e0) ?_
        refine lex.pure (v := .slice Aword_1 word_1.length cword_1) (pu_move e1) ?_
        refine lex.pure (v := .agg #[.int .i64 strands_0, .slice Aword_1 word_1.length cword_1]) (pu_builds (places := [(0, 1), (1, 1)]) (pv := [(0, .int .i64 strands_0), (1, .slice Aword_1 word_1.length cword_1)]) Try.type27 Try.underlying27 rfl (mp_cons Try.type3 (mp_cons Try.type22 mp_nil rfl rfl) rfl rfl) rfl (by simp [Instr.fill, Value.cells])) ?_
        refine lex.op (hC.alloc (cs := [.int .i64 0, .slice none 0 0]) Try.zeroValue27 rfl) ?_
        rintro _ w20 ⟨g19, rfl, hC, hF, hG⟩
        clear hG
        refine lex.sk (hC.seta (i := 0) (ds := [.int .i64 strands_0, .slice Aword_1 word_1.length cword_1]) rfl Try.type27 rfl rfl rfl rfl rfl) ?_
        rintro w22 ⟨hC, hF⟩
        refine lex.nil ?_
        refine hK18 _ _ ?_
        refine Wc.seq fun K23 hK23 => ?_
        refine Wc.region (by decide +kernel) ?_
        refine lex.pure (v := .slice none 0 0) (pu_assign rfl) ?_
        refine lex.pure (v := .slice none 0 0) (pu_assign rfl) ?_
        refine lex.nil ?_
        refine hK23 _ _ ?_
        refine Wc.seq fun K24 hK24 => ?_
        refine Wc.seq fun K25 hK25 => ?_
        refine Wc.region (by decide +kernel) ?_
        refine lex.pure (v := .int .i64 0) (pu_assign rfl) ?_
        refine lex.nil ?_
        refine hK25 _ _ ?_
        replace hC := hC.nil 28 (.pr (.int .i64) (.pr (.int .i64) (.int .i64)))
        obtain ⟨o27, hl0, hb⟩ := bd hb
        refine Wc.cut (fun E wv => ∃ (l8_0 : List (Int × (Int × Int))) (v10_0 : Int) (Al8_0 : Option Addr) (ml8_0 cl8_0 : Nat), E 2 = .slice Al_2 l_2.length cl_2 ∧ E 6 = .bool false ∧ E 7 = .pointer (some ⟨g19, 0, none⟩) ∧ E 8 = .slice Al8_0 ml8_0 cl8_0 ∧ E 9 = .slice none 0 0 ∧ I64 v10_0 ∧ Cx (fun _ => False) O0 w wv [.ro (.sl (.pr (.int .i64) (.pr (.int .i64) (.int .i64)))) [.slice Al_2 l_2.length cl_2] l_2, .box g19 27 [.int .i64 strands_0, .slice Aword_1 word_1.length cword_1], .ro (.sl (.int .i64)) [.slice Aword_1 word_1.length cword_1] word_1, .own 28 (.pr (.int .i64) (.pr (.int .i64) (.int .i64))) (.slice Al8_0 ml8_0 cl8_0) l8_0] ∧ ((F.markov_Play n strands_0 word_1 l8_0).bind fun y70 => (F.braid_Valid n strands_0 word_1).bind fun y89 => cond (!y89) (cond (decide (y70.2.2.2 = 1)) (cond (decide (y70.2.2.1 = 0)) (cond (decide (y70.1 = 0)) (some (decide ((y70.2.1.length : Int) = 0))) (some false)) (some false)) (some false)) (((loopN n (F.law36_MarkovPlay_b1 n l_2 l8_0) (([] : List (Int × (Int × Int))), (l_2.length : Int), 0, 0, strands_0, word_1)).bind fun o106 => match o106 with     | (l9_1, v15_1, v16_1, v17_1, bf100_0_1, kf100_1_1) => cond (!(decide (y70.2.2.2 = v16_1))) (some false) (cond (!(decide (y70.2.2.1 = v15_1))) (some false) ((F.law36_equal n y70.1 y70.2.1 bf100_0_1 kf100_1_1).bind fun y401 => cond (!y401) (some false) ((F.markov_Play n y70.1 y70.2.1 l9_1).bind fun y408 => cond (decide (y408.2.2.2 = 0)) (cond (decide (y408.2.2.1 = (l9_1.length : Int))) ((F.law36_equal n y408.1 y408.2.1 strands_0 word_1).bind fun y428 => some y428) (some false)) (some false))))))) = some r) (fun K28 hK28 => ?_) ?_
        · refine Wc.block ?_
          refine Wc.loop (fun m E wv => ∃ (l8_0 : List (Int × (Int × Int))) (v10_0 : Int) (Al8_0 : Option Addr) (ml8_0 cl8_0 : Nat), E 2 = .slice Al_2 l_2.length cl_2 ∧ E 6 = .bool false ∧ E 7 = .pointer (some ⟨g19, 0, none⟩) ∧ E 8 = .slice Al8_0 ml8_0 cl8_0 ∧ E 9 = .slice none 0 0 ∧ E 10 = .int .i64 v10_0 ∧ I64 v10_0 ∧ Cx (fun _ => False) O0 w wv [.ro (.sl (.pr (.int .i64) (.pr (.int .i64) (.int .i64)))) [.slice Al_2 l_2.length cl_2] l_2, .box g19 27 [.int .i64 strands_0, .slice Aword_1 word_1.length cword_1], .ro (.sl (.int .i64)) [.slice Aword_1 word_1.length cword_1] word_1, .own 28 (.pr (.int .i64) (.pr (.int .i64) (.int .i64))) (.slice Al8_0 ml8_0 cl8_0) l8_0] ∧ loopN m (F.law36_MarkovPlay_b0 n l_2) (l8_0, v10_0) = some o27) n ⟨([] : List (Int × (Int × Int))), 0, none, 0, 0, e2, e6, rfl, rfl, rfl, rfl, (show I64 0 from by unfold I64; omega), hC.sel [2, 1, 3, 0] (by decide), hl0⟩ ?_
          have hbK0 := hb
          clear hb hC hl0
          rintro m30 E32 w31 ⟨l8_0, v10_0, Al8_0, ml8_0, cl8_0, e2, e6, e7, e8, e9, e10, hrv10_0, hC, hl0⟩ K29 hK29
          obtain ⟨m30', o33, rfl, hb, hl0⟩ := loopN_some hl0
          unfold F.law36_MarkovPlay_b0 at hb
          obtain ⟨rfl, hll8_0, hcl8_0⟩ := (hC.ow (i := 3) rfl).sl_len
          refine Wc.seq fun K34 hK34 => ?_
          refine Wc.seq fun K35 hK35 => ?_
          refine Wc.region (by decide +kernel) ?_
          refine lex.pure (v := .int .i64 v10_0) (pu_move e10) ?_
          refine lex.pure (v := .slice Al_2 l_2.length cl_2) (pu_move e2) ?_
          refine lex.pure (v := .int .i64 (l_2.length : Int)) (pu_len (A := Al_2) (n := l_2.length) (m := cl_2) Try.underlying43 rfl) ?_
          refine lex.pure (v := .bool (decide (v10_0 < (l_2.length : Int)))) (pu_lss (k := .i64) (a := v10_0) (b := (l_2.length : Int)) rfl rfl) ?_
          refine lex.nil ?_
          refine hK35 _ _ ?_
          refine Wc.cond (t := (decide (v10_0 < (l_2.length : Int)))) (rfl) (fun hq36 => ?_) (fun hq36 => ?_)
          · replace hb := (cT hq36).symm.trans hb
            refine Wc.skip ?_
            refine hK34 _ _ ?_
            refine Wc.seq fun K37 hK37 => ?_
            refine Wc.block ?_
            refine Wc.region (by decide +kernel) ?_
            refine lex.pure (v := .slice Al8_0 l8_0.length cl8_0) (pu_move e8) ?_
            refine lex.pure (v := .slice Al_2 l_2.length cl_2) (pu_move e2) ?_
            refine lex.pure (v := .int .i64 v10_0) (pu_move e10) ?_
            obtain ⟨x38, h39, hb⟩ := bd hb
            obtain ⟨ad40, cs41, hA, hc42, hr43⟩ := hC.elr (i := 0) rfl (get_some h39).2
            subst hA
            refine lex.pure (v := .pointer (some (ad40.add (v10_0.toNat * 3)))) (pu_index (a := v10_0) Try.underlying43 Try.sizeOf24 rfl rfl (get_some h39).1) ?_
            obtain ⟨k44, k45, rfl, hr46, hr47⟩ := hr43
            obtain ⟨rfl, hr46⟩ := hr46
            obtain ⟨k48, k49, rfl, hr50, hr51⟩ := hr47
            obtain ⟨rfl, hr50⟩ := hr50
            obtain ⟨rfl, hr51⟩ := hr51
            refine lex.val (v := .agg #[.int .i64 x38.1, .int .i64 x38.2.1, .int .i64 x38.2.2]) (ld_agg Try.isAgg24 Try.sizeOf24 rfl rfl hc42) ?_
            refine lex.op (hC.lit (s := (.pr (.int .i64) (.pr (.int .i64) (.int .i64)))) (vs := [.agg #[.int .i64 x38.1, .int .i64 x38.2.1, .int .i64 x38.2.2]]) (xs := [(x38.1, x38.2.1, x38.2.2)]) Try.underlying44 Try.type28 rfl rfl (Nat.le_of_ble_eq_true rfl) rfl rfl (by simp [Value.cells, Sh.n]) rfl (show Elems _ _ (.pr (.int .i64) (.pr (.int .i64) (.int .i64))) ([.int .i64 x38.1, .int .i64 x38.2.1, .int .i64 x38.2.2] ++ ([])) ([(x38.1, x38.2.1, x38.2.2)] : List (Int × (Int × Int))) from Elems.cons (⟨[.int .i64 x38.1], [.int .i64 x38.2.1, .int .i64 x38.2.2], rfl, ⟨rfl, I64.wr (wrap_I64 hr46)⟩, ⟨[.int .i64 x38.2.1], [.int .i64 x38.2.2], rfl, ⟨rfl, I64.wr (wrap_I64 hr50)⟩, ⟨rfl, I64.wr (wrap_I64 hr51)⟩⟩⟩) (Elems.nil _ _ _))) ?_
            rintro _ w56 ⟨A52, c53, rfl, hl54, hc55, hC, hF, hN⟩
            clear hF hN
            obtain ⟨u58, h59, hb⟩ := bd hb
            refine lex.op (hC.app (i := 4) (s := (.pr (.int .i64) (.pr (.int .i64) (.int .i64)))) (xs := l8_0) (ys := ([(x38.1, x38.2.1, x38.2.2)] : List (Int × (Int × Int)))) (m := ((([(x38.1, x38.2.1, x38.2.2)] : List (Int × (Int × Int)))).length)) rfl Try.underlying44 Try.underlying44 Try.type28 rfl rfl rfl (hC.srco (i := 0) rfl) rfl rfl (by have := lim_some h59; simp at this ⊢; omega) (by decide)) ?_
            rintro _ w64 ⟨A60, c61, rfl, hl62, hc63, hC, hF, hN⟩
            clear hF hN
            refine lex.pure (v := .slice A60 ((l8_0 ++ ([(x38.1, x38.2.1, x38.2.2)] : List (Int × (Int × Int)))).length) c61) (pu_assign rfl) ?_
            refine lex.nil ?_
            refine hK37 _ _ ?_
            refine Wc.region (by decide +kernel) ?_
            refine lex.pure (v := .int .i64 v10_0) (pu_move e10) ?_
            obtain ⟨z65, h66, hb⟩ := bd hb
            refine lex.pure (v := .int .i64 z65) (pu_addc (a := v10_0) (b := 1) rfl rfl h66) ?_
            refine lex.pure (v := .int .i64 z65) (pu_assign rfl) ?_
            refine lex.nil ?_
            obtain rfl := Option.some.inj hb
            exact hK29 m30' _ _ (Nat.lt_succ_self _) ⟨(l8_0 ++ ([(x38.1, x38.2.1, x38.2.2)] : List (Int × (Int × Int)))), z65, A60, (l8_0 ++ ([(x38.1, x38.2.1, x38.2.2)] : List (Int × (Int × Int)))).length, c61, e2, e6, e7, rfl, e9, rfl, (chk_rng h66), hC.sel [1, 2, 3, 4] (by decide), lN hl0⟩
          · replace hb := (cF hq36).symm.trans hb
            refine Wc.exit rfl ?_
            obtain rfl := Option.some.inj hb
            obtain rfl := lX hl0
            exact hK28 _ _ ⟨l8_0, v10_0, Al8_0, l8_0.length, cl8_0, e2, e6, e7, e8, e9, hrv10_0, hC.sel [0, 1, 2, 3] (by decide), hbK0⟩
        · clear hb hC hl0
          rintro E68 w67 ⟨l8_0, v10_0, Al8_0, ml8_0, cl8_0, e2, e6, e7, e8, e9, hrv10_0, hC, hb⟩
          obtain ⟨rfl, hll8_0, hcl8_0⟩ := (hC.ow (i := 3) rfl).sl_len
          refine hK24 _ _ ?_
          refine Wc.seq fun K69 hK69 => ?_
          refine Wc.region (by decide +kernel) ?_
          refine lex.val (v := .agg #[.int .i64 strands_0, .slice Aword_1 word_1.length cword_1]) (ld_blk (hC.bx (i := 1) rfl) Try.isAgg27 Try.sizeOf27 e7) ?_
          refine lex.pure (v := .slice Al8_0 l8_0.length cl8_0) (pu_move e8) ?_
          replace hC := hC.freeze (i := 3) rfl (hC.own_new (i := 3) rfl)
          obtain ⟨y70, h71, hb⟩ := bd hb
          refine lex.cl (⟨_, _, op_call (vs := [.agg #[.int .i64 strands_0, .slice Aword_1 word_1.length cword_1], .slice Al8_0 l8_0.length cl8_0]) Try.call19 rfl rfl rfl, markov_Play_ok n hC.lt hstrands_0 (hC.rd (i := 2) rfl) (hC.rd (i := 3) rfl) h71⟩) ?_
          rintro _ w79 ⟨A73, m74, c75, rfl, hr72, hr77, hr78, hK⟩
          replace hC := hC.merge hK
          clear hK
          obtain ⟨rfl, hl80, hc81⟩ := (hC.rd (i := 0) rfl).sl_len
          refine lex.pure (v := .tuple #[.agg #[.int .i64 y70.1, .slice A73 y70.2.1.length c75], .int .i64 y70.2.2.1, .int .i64 y70.2.2.2]) (pu_move rfl) ?_
          refine lex.pure (v := .agg #[.int .i64 y70.1, .slice A73 y70.2.1.length c75]) (pu_extract rfl rfl) ?_
          refine lex.pure (v := .int .i64 y70.2.2.1) (pu_extract rfl rfl) ?_
          refine lex.pure (v := .int .i64 y70.2.2.2) (pu_extract rfl rfl) ?_
          refine lex.op (hC.alloc (cs := [.int .i64 0, .slice none 0 0]) Try.zeroValue27 rfl) ?_
          rintro _ w83 ⟨g82, rfl, hC, hF, hG⟩
          clear hG
          refine lex.sk (hC.seta (i := 0) (ds := [.int .i64 y70.1, .slice A73 y70.2.1.length c75]) rfl Try.type27 rfl rfl rfl rfl rfl) ?_
          rintro w85 ⟨hC, hF⟩
          refine lex.pure (v := .int .i64 y70.2.2.1) (pu_assign rfl) ?_
          refine lex.pure (v := .int .i64 y70.2.2.2) (pu_assign rfl) ?_
          refine lex.nil ?_
          refine hK69 _ _ ?_
          refine Wc.fresh fun E86 hE => ?_
          have e2 : E86 2 = .slice Al_2 l_2.length cl_2 := (congrFun hE 2).trans e2
          have e6 : E86 6 = .bool false := (congrFun hE 6).trans e6
          have e7 : E86 7 = .pointer (some ⟨g19, 0, none⟩) := (congrFun hE 7).trans e7
          have e8 : E86 8 = .slice Al8_0 l8_0.length cl8_0 := (congrFun hE 8).trans e8
          have e9 : E86 9 = .slice none 0 0 := (congrFun hE 9).trans e9
          have e11 : E86 11 = .pointer (some ⟨g82, 0, none⟩) := (congrFun hE 11).trans rfl
          have e12 : E86 12 = .int .i64 y70.2.2.1 := (congrFun hE 12).trans rfl
          have e13 : E86 13 = .int .i64 y70.2.2.2 := (congrFun hE 13).trans rfl
          clear hE
          refine Wc.seq fun K87 hK87 => ?_
          refine Wc.seq fun K88 hK88 => ?_
          refine Wc.region (by decide +kernel) ?_
          refine lex.val (v := .agg #[.int .i64 strands_0, .slice Aword_1 word_1.length cword_1]) (ld_blk (hC.bx (i := 3) rfl) Try.isAgg27 Try.sizeOf27 e7) ?_
          obtain ⟨y89, h90, hb⟩ := bd hb
          refine lex.cl (⟨_, _, op_call (vs := [.agg #[.int .i64 strands_0, .slice Aword_1 word_1.length cword_1]]) Try.call15 rfl rfl rfl, braid_Valid_ok n hC.lt hstrands_0 (hC.rd (i := 4) rfl) h90⟩) ?_
          rintro _ w91 ⟨rfl, hK⟩
          replace hC := hC.merge hK
          clear hK
          refine lex.pure (v := .bool (!y89)) (pu_not (q := y89) rfl) ?_
          refine lex.nil ?_
          refine hK88 _ _ ?_
          refine Wc.cond (t := (!y89)) (rfl) (fun hq92 => ?_) (fun hq92 => ?_)
          · replace hb := (cT hq92).symm.trans hb
            refine Wc.seq fun K93 hK93 => ?_
            refine Wc.region (by decide +kernel) ?_
            refine lex.pure (v := .int .i64 y70.2.2.2) (pu_move e13) ?_
            refine lex.pure (v := .bool (decide (y70.2.2.2 = 1))) (pu_eql (k := .i64) (a := y70.2.2.2) (b := 1) rfl rfl) ?_
            refine lex.pure (v := .bool (decide (y70.2.2.2 = 1))) (pu_move rfl) ?_
            rcases bS (decide (y70.2.2.2 = 1)) with hq94 | hq94
            · replace hb := (cT hq94).symm.trans hb
              refine lex.gpure (want_t rfl rfl (show _ = Value.bool (decide (y70.2.2.2 = 1)) from rfl) hq94) (v := .int .i64 y70.2.2.1) (pu_move e12) ?_
              refine lex.gpure (want_t rfl rfl (show _ = Value.bool (decide (y70.2.2.2 = 1)) from rfl) hq94) (v := .bool (decide (y70.2.2.1 = 0))) (pu_eql (k := .i64) (a := y70.2.2.1) (b := 0) rfl rfl) ?_
              refine lex.pure (v := .bool (decide (y70.2.2.1 = 0))) (pu_pickT (q := (decide (y70.2.2.2 = 1))) rfl hq94 rfl) ?_
              refine lex.pure (v := .bool (decide (y70.2.2.1 = 0))) (pu_move rfl) ?_
              rcases bS (decide (y70.2.2.1 = 0)) with hq95 | hq95
              · replace hb := (cT hq95).symm.trans hb
                refine lex.gpure (want_t rfl rfl (show _ = Value.bool (decide (y70.2.2.1 = 0)) from rfl) hq95) (v := .pointer (some ((⟨g82, 0, none⟩ : Addr).add 0))) (pu_field (sz := 1) Try.underlying27 rfl Try.sizeOf3 (by decide) rfl e11) ?_
                refine lex.gval (want_t rfl rfl (show _ = Value.bool (decide (y70.2.2.1 = 0)) from rfl) hq95) (v := .int .i64 y70.1) (ld_fld (hC.bx (i := 0) rfl) Try.isAgg3 rfl rfl) ?_
                refine lex.gpure (want_t rfl rfl (show _ = Value.bool (decide (y70.2.2.1 = 0)) from rfl) hq95) (v := .bool (decide (y70.1 = 0))) (pu_eql (k := .i64) (a := y70.1) (b := 0) rfl rfl) ?_
                refine lex.pure (v := .bool (decide (y70.1 = 0))) (pu_pickT (q := (decide (y70.2.2.1 = 0))) rfl hq95 rfl) ?_
                refine lex.pure (v := .bool (decide (y70.1 = 0))) (pu_move rfl) ?_
                rcases bS (decide (y70.1 = 0)) with hq96 | hq96
                · replace hb := (cT hq96).symm.trans hb
                  refine lex.gpure (want_t rfl rfl (show _ = Value.bool (decide (y70.1 = 0)) from rfl) hq96) (v := .pointer (some ((⟨g82, 0, none⟩ : Addr).add 1))) (pu_field (sz := 1) Try.underlying27 rfl Try.sizeOf22 (by decide) rfl e11) ?_
                  refine lex.gval (want_t rfl rfl (show _ = Value.bool (decide (y70.1 = 0)) from rfl) hq96) (v := .slice A73 y70.2.1.length c75) (ld_fld (hC.bx (i := 0) rfl) Try.isAgg22 rfl rfl) ?_
                  refine lex.gpure (want_t rfl rfl (show _ = Value.bool (decide (y70.1 = 0)) from rfl) hq96) (v := .int .i64 (y70.2.1.length : Int)) (pu_len (A := A73) (n := y70.2.1.length) (m := c75) Try.underlying22 rfl) ?_
                  refine lex.gpure (want_t rfl rfl (show _ = Value.bool (decide (y70.1 = 0)) from rfl) hq96) (v := .bool (decide ((y70.2.1.length : Int) = 0))) (pu_eql (k := .i64) (a := (y70.2.1.length : Int)) (b := 0) rfl rfl) ?_
                  refine lex.pure (v := .bool (decide ((y70.2.1.length : Int) = 0))) (pu_pickT (q := (decide (y70.1 = 0))) rfl hq96 rfl) ?_
                  refine lex.pure (v := .bool (decide ((y70.2.1.length : Int) = 0))) (pu_assign rfl) ?_
                  refine lex.nil ?_
                  refine hK93 _ _ ?_
                  obtain rfl := Option.some.inj hb
                  refine Wc.ret ?_
                  refine hKR _ _ ?_
                  refine ⟨_, res1 Try.results6 (show RV _ _ _ (.tmp _) (.bool (decide ((y70.2.1.length : Int) = 0))) from rfl), _, rfl, rfl, hC.sel [] (by decide)⟩
                · replace hb := (cF hq96).symm.trans hb
                  refine lex.gskip (want_f rfl rfl (show _ = Value.bool (decide (y70.1 = 0)) from rfl) hq96) ?_
                  refine lex.gskip (want_f rfl rfl (show _ = Value.bool (decide (y70.1 = 0)) from rfl) hq96) ?_
                  refine lex.gskip (want_f rfl rfl (show _ = Value.bool (decide (y70.1 = 0)) from rfl) hq96) ?_
                  refine lex.gskip (want_f rfl rfl (show _ = Value.bool (decide (y70.1 = 0)) from rfl) hq96) ?_
                  refine lex.pure (v := .bool false) (pu_pickF (q := (decide (y70.1 = 0))) rfl hq96 rfl) ?_
                  refine lex.pure (v := .bool false) (pu_assign rfl) ?_
                  refine lex.nil ?_
                  refine hK93 _ _ ?_
                  obtain rfl := Option.some.inj hb
                  refine Wc.ret ?_
                  refine hKR _ _ ?_
                  refine ⟨_, res1 Try.results6 (show RV _ _ _ (.tmp _) (.bool false) from rfl), _, rfl, rfl, hC.sel [] (by decide)⟩
              · replace hb := (cF hq95).symm.trans hb
                refine lex.gskip (want_f rfl rfl (show _ = Value.bool (decide (y70.2.2.1 = 0)) from rfl) hq95) ?_
                refine lex.gskip (want_f rfl rfl (show _ = Value.bool (decide (y70.2.2.1 = 0)) from rfl) hq95) ?_
                refine lex.gskip (want_f rfl rfl (show _ = Value.bool (decide (y70.2.2.1 = 0)) from rfl) hq95) ?_
                refine lex.pure (v := .bool false) (pu_pickF (q := (decide (y70.2.2.1 = 0))) rfl hq95 rfl) ?_
                refine lex.pure (v := .bool false) (pu_move rfl) ?_
                refine lex.gskip (want_f rfl rfl (show _ = Value.bool false from rfl) rfl) ?_
                refine lex.gskip (want_f rfl rfl (show _ = Value.bool false from rfl) rfl) ?_
                refine lex.gskip (want_f rfl rfl (show _ = Value.bool false from rfl) rfl) ?_
                refine lex.gskip (want_f rfl rfl (show _ = Value.bool false from rfl) rfl) ?_
                refine lex.pure (v := .bool false) (pu_pickF (q := false) rfl rfl rfl) ?_
                refine lex.pure (v := .bool false) (pu_assign rfl) ?_
                refine lex.nil ?_
                refine hK93 _ _ ?_
                obtain rfl := Option.some.inj hb
                refine Wc.ret ?_
                refine hKR _ _ ?_
                refine ⟨_, res1 Try.results6 (show RV _ _ _ (.tmp _) (.bool false) from rfl), _, rfl, rfl, hC.sel [] (by decide)⟩
            · replace hb := (cF hq94).symm.trans hb
              refine lex.gskip (want_f rfl rfl (show _ = Value.bool (decide (y70.2.2.2 = 1)) from rfl) hq94) ?_
              refine lex.gskip (want_f rfl rfl (show _ = Value.bool (decide (y70.2.2.2 = 1)) from rfl) hq94) ?_
              refine lex.pure (v := .bool false) (pu_pickF (q := (decide (y70.2.2.2 = 1))) rfl hq94 rfl) ?_
              refine lex.pure (v := .bool false) (pu_move rfl) ?_
              refine lex.gskip (want_f rfl rfl (show _ = Value.bool false from rfl) rfl) ?_
              refine lex.gskip (want_f rfl rfl (show _ = Value.bool false from rfl) rfl) ?_
              refine lex.gskip (want_f rfl rfl (show _ = Value.bool false from rfl) rfl) ?_
              refine lex.pure (v := .bool false) (pu_pickF (q := false) rfl rfl rfl) ?_
              refine lex.pure (v := .bool false) (pu_move rfl) ?_
              refine lex.gskip (want_f rfl rfl (show _ = Value.bool false from rfl) rfl) ?_
              refine lex.gskip (want_f rfl rfl (show _ = Value.bool false from rfl) rfl) ?_
              refine lex.gskip (want_f rfl rfl (show _ = Value.bool false from rfl) rfl) ?_
              refine lex.gskip (want_f rfl rfl (show _ = Value.bool false from rfl) rfl) ?_
              refine lex.pure (v := .bool false) (pu_pickF (q := false) rfl rfl rfl) ?_
              refine lex.pure (v := .bool false) (pu_assign rfl) ?_
              refine lex.nil ?_
              refine hK93 _ _ ?_
              obtain rfl := Option.some.inj hb
              refine Wc.ret ?_
              refine hKR _ _ ?_
              refine ⟨_, res1 Try.results6 (show RV _ _ _ (.tmp _) (.bool false) from rfl), _, rfl, rfl, hC.sel [] (by decide)⟩
          · replace hb := (cF hq92).symm.trans hb
            refine Wc.skip ?_
            refine hK87 _ _ ?_
            refine Wc.seq fun K97 hK97 => ?_
            refine Wc.region (by decide +kernel) ?_
            refine lex.val (v := .agg #[.int .i64 strands_0, .slice Aword_1 word_1.length cword_1]) (ld_blk (hC.bx (i := 3) rfl) Try.isAgg27 Try.sizeOf27 e7) ?_
            refine lex.pure (v := .slice Al_2 l_2.length cl_2) (pu_move e2) ?_
            refine lex.pure (v := .int .i64 (l_2.length : Int)) (pu_len (A := Al_2) (n := l_2.length) (m := cl_2) Try.underlying43 rfl) ?_
            refine lex.op (hC.alloc (cs := [.int .i64 0, .slice none 0 0]) Try.zeroValue27 rfl) ?_
            rintro _ w99 ⟨g98, rfl, hC, hF, hG⟩
            clear hG
            refine lex.sk (hC.seta (i := 0) (ds := [.int .i64 strands_0, .slice Aword_1 word_1.length cword_1]) rfl Try.type27 rfl rfl rfl rfl rfl) ?_
            rintro w101 ⟨hC, hF⟩
            refine lex.pure (v := .int .i64 (l_2.length : Int)) (pu_assign rfl) ?_
            refine lex.pure (v := .int .i64 0) (pu_assign rfl) ?_
            refine lex.nil ?_
            refine hK97 _ _ ?_
            refine Wc.seq fun K102 hK102 => ?_
            refine Wc.seq fun K103 hK103 => ?_
            refine Wc.region (by decide +kernel) ?_
            refine lex.pure (v := .int .i64 0) (pu_assign rfl) ?_
            refine lex.nil ?_
            refine hK103 _ _ ?_
            refine Wc.fresh fun E104 hE => ?_
            have e2 : E104 2 = .slice Al_2 l_2.length cl_2 := (congrFun hE 2).trans e2
            have e6 : E104 6 = .bool false := (congrFun hE 6).trans e6
            have e7 : E104 7 = .pointer (some ⟨g19, 0, none⟩) := (congrFun hE 7).trans e7
            have e8 : E104 8 = .slice Al8_0 l8_0.length cl8_0 := (congrFun hE 8).trans e8
            have e9 : E104 9 = .slice none 0 0 := (congrFun hE 9).trans e9
            have e11 : E104 11 = .pointer (some ⟨g82, 0, none⟩) := (congrFun hE 11).trans e11
            have e12 : E104 12 = .int .i64 y70.2.2.1 := (congrFun hE 12).trans e12
            have e13 : E104 13 = .int .i64 y70.2.2.2 := (congrFun hE 13).trans e13
            have e14 : E104 14 = .pointer (some ⟨g98, 0, none⟩) := (congrFun hE 14).trans rfl
            have e15 : E104 15 = .int .i64 (l_2.length : Int) := (congrFun hE 15).trans rfl
            have e16 : E104 16 = .int .i64 0 := (congrFun hE 16).trans rfl
            have e17 : E104 17 = .int .i64 0 := (congrFun hE 17).trans rfl
            clear hE
            replace hC := hC.nil 28 (.pr (.int .i64) (.pr (.int .i64) (.int .i64)))
            obtain ⟨o106, hl1, hb⟩ := bd hb
            refine Wc.cut (fun E wv => ∃ (l9_1 : List (Int × (Int × Int))) (v15_1 : Int) (v16_1 : Int) (v17_1 : Int) (bf100_0_1 : Int) (kf100_1_1 : List Int) (Al9_1 : Option Addr) (ml9_1 cl9_1 : Nat) (Akf100_1_1 : Option Addr) (mkf100_1_1 ckf100_1_1 : Nat), E 6 = .bool false ∧ E 7 = .pointer (some ⟨g19, 0, none⟩) ∧ E 9 = .slice Al9_1 ml9_1 cl9_1 ∧ E 11 = .pointer (some ⟨g82, 0, none⟩) ∧ E 12 = .int .i64 y70.2.2.1 ∧ E 13 = .int .i64 y70.2.2.2 ∧ E 14 = .pointer (some ⟨g98, 0, none⟩) ∧ E 15 = .int .i64 v15_1 ∧ E 16 = .int .i64 v16_1 ∧ I64 v15_1 ∧ I64 v16_1 ∧ I64 v17_1 ∧ I64 bf100_0_1 ∧ Cx (fun _ => False) O0 w wv [.box g19 27 [.int .i64 strands_0, .slice Aword_1 word_1.length cword_1], .ro (.sl (.int .i64)) [.slice Aword_1 word_1.length cword_1] word_1, .own 28 (.pr (.int .i64) (.pr (.int .i64) (.int .i64))) (.slice Al9_1 ml9_1 cl9_1) l9_1, .box g82 27 [.int .i64 y70.1, .slice A73 y70.2.1.length c75], .ro (.sl (.int .i64)) [.slice A73 y70.2.1.length c75] y70.2.1, .box g98 27 [.int .i64 bf100_0_1, .slice Akf100_1_1 mkf100_1_1 ckf100_1_1], .ro (.sl (.int .i64)) [.slice Akf100_1_1 mkf100_1_1 ckf100_1_1] kf100_1_1] ∧ (cond (!(decide (y70.2.2.2 = v16_1))) (some false) (cond (!(decide (y70.2.2.1 = v15_1))) (some false) ((F.law36_equal n y70.1 y70.2.1 bf100_0_1 kf100_1_1).bind fun y401 => cond (!y401) (some false) ((F.markov_Play n y70.1 y70.2.1 l9_1).bind fun y408 => cond (decide (y408.2.2.2 = 0)) (cond (decide (y408.2.2.1 = (l9_1.length : Int))) ((F.law36_equal n y408.1 y408.2.1 strands_0 word_1).bind fun y428 => some y428) (some false)) (some false))))) = some r) (fun K107 hK107 => ?_) ?_
            · refine Wc.block ?_
              replace hC := hC.ro (hC.rd (i := 6) rfl)
              refine Wc.loop (fun m E wv => ∃ (l9_1 : List (Int × (Int × Int))) (v15_1 : Int) (v16_1 : Int) (v17_1 : Int) (bf100_0_1 : Int) (kf100_1_1 : List Int) (Al9_1 : Option Addr) (ml9_1 cl9_1 : Nat) (Akf100_1_1 : Option Addr) (mkf100_1_1 ckf100_1_1 : Nat), E 2 = .slice Al_2 l_2.length cl_2 ∧ E 6 = .bool false ∧ E 7 = .pointer (some ⟨g19, 0, none⟩) ∧ E 8 = .slice Al8_0 l8_0.length cl8_0 ∧ E 9 = .slice Al9_1 ml9_1 cl9_1 ∧ E 11 = .pointer (some ⟨g82, 0, none⟩) ∧ E 12 = .int .i64 y70.2.2.1 ∧ E 13 = .int .i64 y70.2.2.2 ∧ E 14 = .pointer (some ⟨g98, 0, none⟩) ∧ E 15 = .int .i64 v15_1 ∧ E 16 = .int .i64 v16_1 ∧ E 17 = .int .i64 v17_1 ∧ I64 v15_1 ∧ I64 v16_1 ∧ I64 v17_1 ∧ I64 bf100_0_1 ∧ Cx (fun _ => False) O0 w wv [.ro (.sl (.pr (.int .i64) (.pr (.int .i64) (.int .i64)))) [.slice Al_2 l_2.length cl_2] l_2, .box g19 27 [.int .i64 strands_0, .slice Aword_1 word_1.length cword_1], .ro (.sl (.int .i64)) [.slice Aword_1 word_1.length cword_1] word_1, .ro (.sl (.pr (.int .i64) (.pr (.int .i64) (.int .i64)))) [.slice Al8_0 l8_0.length cl8_0] l8_0, .own 28 (.pr (.int .i64) (.pr (.int .i64) (.int .i64))) (.slice Al9_1 ml9_1 cl9_1) l9_1, .box g82 27 [.int .i64 y70.1, .slice A73 y70.2.1.length c75], .ro (.sl (.int .i64)) [.slice A73 y70.2.1.length c75] y70.2.1, .box g98 27 [.int .i64 bf100_0_1, .slice Akf100_1_1 mkf100_1_1 ckf100_1_1], .ro (.sl (.int .i64)) [.slice Akf100_1_1 mkf100_1_1 ckf100_1_1] kf100_1_1] ∧ loopN m (F.law36_MarkovPlay_b1 n l_2 l8_0) (l9_1, v15_1, v16_1, v17_1, bf100_0_1, kf100_1_1) = some o106) n ⟨([] : List (Int × (Int × Int))), (l_2.length : Int), 0, 0, strands_0, word_1, none, 0, 0, Aword_1, word_1.length, cword_1, e2, e6, e7, e8, e9, e11, e12, e13, e14, e15, e16, e17, (I64.len hll_2 hcl_2), (show I64 0 from by unfold I64; omega), (show I64 0 from by unfold I64; omega), hstrands_0, hC.sel [5, 6, 7, 8, 1, 3, 4, 2, 0] (by decide), hl1⟩ ?_
              have hbK1 := hb
              clear hb hC hl1
              rintro m110 E112 w111 ⟨l9_1, v15_1, v16_1, v17_1, bf100_0_1, kf100_1_1, Al9_1, ml9_1, cl9_1, Akf100_1_1, mkf100_1_1, ckf100_1_1, e2, e6, e7, e8, e9, e11, e12, e13, e14, e15, e16, e17, hrv15_1, hrv16_1, hrv17_1, hrbf100_0_1, hC, hl1⟩ K108 hK108
              obtain ⟨m110', o113, rfl, hb, hl1⟩ := loopN_some hl1
              unfold F.law36_MarkovPlay_b1 at hb
              obtain ⟨rfl, hll9_1, hcl9_1⟩ := (hC.ow (i := 4) rfl).sl_len
              obtain ⟨rfl, hlkf100_1_1, hckf100_1_1⟩ := (hC.rd (i := 8) rfl).sl_len
              refine Wc.seq fun K114 hK114 => ?_
              refine Wc.seq fun K115 hK115 => ?_
              refine Wc.region (by decide +kernel) ?_
              refine lex.pure (v := .int .i64 v17_1) (pu_move e17) ?_
              refine lex.pure (v := .slice Al_2 l_2.length cl_2) (pu_move e2) ?_
              refine lex.pure (v := .int .i64 (l_2.length : Int)) (pu_len (A := Al_2) (n := l_2.length) (m := cl_2) Try.underlying43 rfl) ?_
              refine lex.pure (v := .bool (decide (v17_1 < (l_2.length : Int)))) (pu_lss (k := .i64) (a := v17_1) (b := (l_2.length : Int)) rfl rfl) ?_
              refine lex.pure (v := .bool (decide (v17_1 < (l_2.length : Int)))) (pu_move rfl) ?_
              rcases bS (decide (v17_1 < (l_2.length : Int))) with hq116 | hq116
              · replace hb := (cT hq116).symm.trans hb
                refine lex.gpure (want_t rfl rfl (show _ = Value.bool (decide (v17_1 < (l_2.length : Int))) from rfl) hq116) (v := .int .i64 v16_1) (pu_move e16) ?_
                refine lex.gpure (want_t rfl rfl (show _ = Value.bool (decide (v17_1 < (l_2.length : Int))) from rfl) hq116) (v := .bool (decide (v16_1 = 0))) (pu_eql (k := .i64) (a := v16_1) (b := 0) rfl rfl) ?_
                refine lex.pure (v := .bool (decide (v16_1 = 0))) (pu_pickT (q := (decide (v17_1 < (l_2.length : Int)))) rfl hq116 rfl) ?_
                refine lex.nil ?_
                refine hK115 _ _ ?_
                refine Wc.cond (t := (decide (v16_1 = 0))) (rfl) (fun hq117 => ?_) (fun hq117 => ?_)
                · replace hb := (cT hq117).symm.trans hb
                  refine Wc.skip ?_
                  refine hK114 _ _ ?_
                  refine Wc.seq fun K118 hK118 => ?_
                  refine Wc.block ?_
                  refine Wc.seq fun K119 hK119 => ?_
                  refine Wc.regionPlan [91, 95] (frm [91, 95] ([] : List Fact) ([] : List Fact)) (chainP [0, 1, 2, 3, 4] (.alt (chainP [5] (chainP [6, 7, 8, 9] (.alt (chainP [10] (chainP [11, 12, 13, 14] .done)) (chainP [11] (chainP [10, 12, 13, 14] .done))))) (.alt (chainP [10] (.alt (chainP [5] (chainP [6, 7, 8, 9, 11, 12, 13, 14] .done)) (chainP [11] (chainP [5, 6, 7, 8, 9, 12, 13, 14] .done)))) (chainP [11] (.alt (chainP [5] (chainP [6, 7, 8, 9, 10, 12, 13, 14] .done)) (chainP [10] (chainP [5, 6, 7, 8, 9, 12, 13, 14] .done))))))) (fun _ => rfl) mixed (by decide +kernel) (by decide +kernel) fun w121 hw120 => ?_
                  replace hC := hC.step (Fr.of_drew hw120)
                  have hM := Fr.refl (fun k => k ∈ blocks ([] : List Fact)) w121
                  clear hw120
                  have hS := hC
                  have hD : Fr (fun k => k ∈ blocks (([] : List Fact) ++ ([] : List Fact))) w121 w121 := hM.wide
                  refine mixPE_chain ?_
                  refine mixE.steady hD (v := .agg #[.int .i64 bf100_0_1, .slice Akf100_1_1 kf100_1_1.length ckf100_1_1]) (fun _ hF => ld_blk (hS.bx2 (i := 7) rfl [] (by decide) hF) Try.isAgg27 Try.sizeOf27 e14) ?_
                  refine mixE.pure (v := .slice Al8_0 l8_0.length cl8_0) (pu_move e8) ?_
                  refine mixE.pure (v := .int .i64 v17_1) (pu_move e17) ?_
                  obtain ⟨x122, h123, hb⟩ := bd hb
                  obtain ⟨ad124, cs125, hA, ho128, hc126, hr127⟩ := hS.elr2 (i := 3) rfl (get_some h123).2 []
                  subst hA
                  refine mixE.pure (v := .pointer (some (ad124.add (v17_1.toNat * 3)))) (pu_index (a := v17_1) Try.underlying44 Try.sizeOf28 rfl rfl (get_some h123).1) ?_
                  obtain ⟨k129, k130, rfl, hr131, hr132⟩ := hr127
                  obtain ⟨rfl, hr131⟩ := hr131
                  obtain ⟨k133, k134, rfl, hr135, hr136⟩ := hr132
                  obtain ⟨rfl, hr135⟩ := hr135
                  obtain ⟨rfl, hr136⟩ := hr136
                  refine mixE.steady hD (v := .agg #[.int .i64 x122.1, .int .i64 x122.2.1, .int .i64 x122.2.2]) (fun _ hF => ld_agg Try.isAgg28 Try.sizeOf28 rfl rfl (fun j u hu => hF.cell (hc126 j u hu) (off2 ho128))) ?_
                  refine mixE.nil ?_
                  refine mixPE_alt ?_ ?_
                  ·
                    skip
                    refine mixPE_chain ?_
                    obtain ⟨y137, h138, hb⟩ := bd hb
                    refine mixE.cl hM (⟨_, _, op_call (vs := [.agg #[.int .i64 bf100_0_1, .slice Akf100_1_1 kf100_1_1.length ckf100_1_1], .agg #[.int .i64 x122.1, .int .i64 x122.2.1, .int .i64 x122.2.2]]) Try.call12 rfl rfl rfl, markov_Apply_ok n hC.lt hrbf100_0_1 (hC.rd (i := 8) rfl) (wrap_I64 hr131) (wrap_I64 hr135) (wrap_I64 hr136) h138⟩) ?_
                    rintro _ w148 ⟨A140, m141, c142, rfl, hr139, hr144, hr145, hr146, hr147, hK⟩
                    replace hM := hM.none hK.fr
                    replace hD := hM.wide (H := ([] : List Fact))
                    refine ⟨hM, ?_⟩
                    replace hC := hC.merge hK
                    clear hK
                    obtain ⟨rfl, hl149, hc150⟩ := (hC.rd (i := 0) rfl).sl_len
                    refine mixE.nil ?_
                    refine mixPE_chain ?_
                    refine mixE.pure (v := .tuple #[.agg #[.int .i64 y137.1, .slice A140 y137.2.1.length c142], .agg #[.int .i64 y137.2.2.1, .int .i64 y137.2.2.2.1, .int .i64 y137.2.2.2.2.1], .int .i64 y137.2.2.2.2.2]) (pu_move rfl) ?_
                    refine mixE.pure (v := .agg #[.int .i64 y137.1, .slice A140 y137.2.1.length c142]) (pu_extract rfl rfl) ?_
                    refine mixE.pure (v := .agg #[.int .i64 y137.2.2.1, .int .i64 y137.2.2.2.1, .int .i64 y137.2.2.2.2.1]) (pu_extract rfl rfl) ?_
                    refine mixE.pure (v := .int .i64 y137.2.2.2.2.2) (pu_extract rfl rfl) ?_
                    refine mixE.nil ?_
                    refine mixPE_alt ?_ ?_
                    ·
                      skip
                      refine mixPE_chain ?_
                      refine mixE.op hM (hC.alloc (cs := [.int .i64 0, .slice none 0 0]) Try.zeroValue27 rfl) ?_
                      rintro _ w152 ⟨g151, rfl, hC, hF, hG⟩
                      have hUf153 : g151 < w121.heap.size → g151 ∈ blocks (([] : List Fact) ++ ([] : List Fact)) := fun h => absurd (Nat.lt_of_lt_of_le h (Nat.le_trans hM.size hG)) (Nat.lt_irrefl _)
                      clear hG
                      replace hM := hM.none hF
                      replace hD := hM.wide (H := ([] : List Fact))
                      refine ⟨hM, ?_⟩
                      refine mixE.nil ?_
                      refine mixPE_chain ?_
                      refine mixE.op hM (hC.alloc (cs := [.int .i64 0, .int .i64 0, .int .i64 0]) Try.zeroValue28 rfl) ?_
                      rintro _ w155 ⟨g154, rfl, hC, hF, hG⟩
                      have hUf156 : g154 < w121.heap.size → g154 ∈ blocks (([] : List Fact) ++ ([] : List Fact)) := fun h => absurd (Nat.lt_of_lt_of_le h (Nat.le_trans hM.size hG)) (Nat.lt_irrefl _)
                      clear hG
                      replace hM := hM.none hF
                      replace hD := hM.wide (H := ([] : List Fact))
                      refine ⟨hM, ?_⟩
                      refine mixE.sk hD (hC.seta (i := 1) (ds := [.int .i64 y137.1, .slice A140 y137.2.1.length c142]) rfl Try.type27 rfl rfl rfl rfl rfl) ?_
                      rintro w157 ⟨hC, hF⟩
                      replace hD := hD.besideG hUf153 hF
                      clear hF
                      refine ⟨hD, ?_⟩
                      refine mixE.sk hD (hC.seta (i := 0) (ds := [.int .i64 y137.2.2.1, .int .i64 y137.2.2.2.1, .int .i64 y137.2.2.2.2.1]) rfl Try.type28 rfl rfl rfl rfl rfl) ?_
                      rintro w158 ⟨hC, hF⟩
                      replace hD := hD.besideG hUf156 hF
                      clear hF
                      refine ⟨hD, ?_⟩
                      refine mixE.pure (v := .int .i64 y137.2.2.2.2.2) (pu_assign rfl) ?_
                      refine mixE.nil ?_
                      clear hS hM
                      clear hD
                      refine hK119 _ _ ?_
                      refine Wc.fresh fun E159 hE => ?_
                      have e2 : E159 2 = .slice Al_2 l_2.length cl_2 := (congrFun hE 2).trans e2
                      have e6 : E159 6 = .bool false := (congrFun hE 6).trans e6
                      have e7 : E159 7 = .pointer (some ⟨g19, 0, none⟩) := (congrFun hE 7).trans e7
                      have e8 : E159 8 = .slice (some ad124) l8_0.length cl8_0 := (congrFun hE 8).trans e8
                      have e9 : E159 9 = .slice Al9_1 l9_1.length cl9_1 := (congrFun hE 9).trans e9
                      have e11 : E159 11 = .pointer (some ⟨g82, 0, none⟩) := (congrFun hE 11).trans e11
                      have e12 : E159 12 = .int .i64 y70.2.2.1 := (congrFun hE 12).trans e12
                      have e13 : E159 13 = .int .i64 y70.2.2.2 := (congrFun hE 13).trans e13
                      have e14 : E159 14 = .pointer (some ⟨g98, 0, none⟩) := (congrFun hE 14).trans e14
                      have e15 : E159 15 = .int .i64 v15_1 := (congrFun hE 15).trans e15
                      have e16 : E159 16 = .int .i64 v16_1 := (congrFun hE 16).trans e16
                      have e17 : E159 17 = .int .i64 v17_1 := (congrFun hE 17).trans e17
                      have e18 : E159 18 = .pointer (some ⟨g151, 0, none⟩) := (congrFun hE 18).trans rfl
                      have e19 : E159 19 = .pointer (some ⟨g154, 0, none⟩) := (congrFun hE 19).trans rfl
                      have e20 : E159 20 = .int .i64 y137.2.2.2.2.2 := (congrFun hE 20).trans rfl
                      have e87 : E159 87 = .bool (decide (v16_1 = 0)) := (congrFun hE 87).trans rfl
                      clear hE
                      refine Wc.seq fun K160 hK160 => ?_
                      refine Wc.seq fun K161 hK161 => ?_
                      refine Wc.region (by decide +kernel) ?_
                      refine lex.pure (v := .int .i64 y137.2.2.2.2.2) (pu_move e20) ?_
                      refine lex.pure (v := .bool (!(decide (y137.2.2.2.2.2 = 0)))) (pu_neq (k := .i64) (a := y137.2.2.2.2.2) (b := 0) rfl rfl) ?_
                      refine lex.nil ?_
                      refine hK161 _ _ ?_
                      refine Wc.cond (t := (!(decide (y137.2.2.2.2.2 = 0)))) (rfl) (fun hq162 => ?_) (fun hq162 => ?_)
                      · replace hb := (cT hq162).symm.trans hb
                        refine Wc.seq fun K163 hK163 => ?_
                        refine Wc.region (by decide +kernel) ?_
                        refine lex.pure (v := .int .i64 v17_1) (pu_move e17) ?_
                        refine lex.pure (v := .int .i64 y137.2.2.2.2.2) (pu_move e20) ?_
                        refine lex.pure (v := .int .i64 v17_1) (pu_assign rfl) ?_
                        refine lex.pure (v := .int .i64 y137.2.2.2.2.2) (pu_assign rfl) ?_
                        refine lex.nil ?_
                        refine hK163 _ _ ?_
                        refine Wc.exit rfl ?_
                        refine hK118 _ _ ?_
                        refine Wc.region (by decide +kernel) ?_
                        refine lex.pure (v := .int .i64 v17_1) (pu_move e17) ?_
                        obtain ⟨z164, h165, hb⟩ := bd hb
                        refine lex.pure (v := .int .i64 z164) (pu_addc (a := v17_1) (b := 1) rfl rfl h165) ?_
                        refine lex.pure (v := .int .i64 z164) (pu_assign rfl) ?_
                        refine lex.nil ?_
                        obtain rfl := Option.some.inj hb
                        exact hK108 m110' _ _ (Nat.lt_succ_self _) ⟨l9_1, v17_1, y137.2.2.2.2.2, z164, bf100_0_1, kf100_1_1, Al9_1, l9_1.length, cl9_1, Akf100_1_1, kf100_1_1.length, ckf100_1_1, e2, e6, e7, e8, e9, e11, e12, e13, e14, rfl, rfl, rfl, hrv17_1, hr147, (chk_rng h165), hrbf100_0_1, hC.sel [3, 4, 5, 6, 7, 8, 9, 10, 11] (by decide), lN hl1⟩
                      · replace hb := (cF hq162).symm.trans hb
                        refine Wc.skip ?_
                        refine hK160 _ _ ?_
                        refine Wc.seq fun K166 hK166 => ?_
                        refine Wc.region (by decide +kernel) ?_
                        refine lex.val (v := .agg #[.int .i64 y137.1, .slice A140 y137.2.1.length c142]) (ld_blk (hC.bx (i := 1) rfl) Try.isAgg27 Try.sizeOf27 e18) ?_
                        refine lex.sk (hC.seta (i := 10) (ds := [.int .i64 y137.1, .slice A140 y137.2.1.length c142]) rfl Try.type27 rfl rfl rfl e14 rfl) ?_
                        rintro w167 ⟨hC, hF⟩
                        refine lex.nil ?_
                        refine hK166 _ _ ?_
                        refine Wc.region (by decide +kernel) ?_
                        refine lex.val (v := .agg #[.int .i64 y137.2.2.1, .int .i64 y137.2.2.2.1, .int .i64 y137.2.2.2.2.1]) (ld_blk (hC.bx (i := 0) rfl) Try.isAgg28 Try.sizeOf28 e19) ?_
                        refine lex.op (hC.lit (s := (.pr (.int .i64) (.pr (.int .i64) (.int .i64)))) (vs := [.agg #[.int .i64 y137.2.2.1, .int .i64 y137.2.2.2.1, .int .i64 y137.2.2.2.2.1]]) (xs := [(y137.2.2.1, y137.2.2.2.1, y137.2.2.2.2.1)]) Try.underlying44 Try.type28 rfl rfl (Nat.le_of_ble_eq_true rfl) rfl rfl (by simp [Value.cells, Sh.n]) rfl (show Elems _ _ (.pr (.int .i64) (.pr (.int .i64) (.int .i64))) ([.int .i64 y137.2.2.1, .int .i64 y137.2.2.2.1, .int .i64 y137.2.2.2.2.1] ++ ([])) ([(y137.2.2.1, y137.2.2.2.1, y137.2.2.2.2.1)] : List (Int × (Int × Int))) from Elems.cons (⟨[.int .i64 y137.2.2.1], [.int .i64 y137.2.2.2.1, .int .i64 y137.2.2.2.2.1], rfl, ⟨rfl, I64.wr hr144⟩, ⟨[.int .i64 y137.2.2.2.1], [.int .i64 y137.2.2.2.2.1], rfl, ⟨rfl, I64.wr hr145⟩, ⟨rfl, I64.wr hr146⟩⟩⟩) (Elems.nil _ _ _))) ?_
                        rintro _ w172 ⟨A168, c169, rfl, hl170, hc171, hC, hF, hN⟩
                        clear hF hN
                        refine lex.pure (v := .slice Al9_1 l9_1.length cl9_1) (pu_move e9) ?_
                        obtain ⟨u174, h175, hb⟩ := bd hb
                        refine lex.op (hC.app (i := 0) (s := (.pr (.int .i64) (.pr (.int .i64) (.int .i64)))) (xs := ([(y137.2.2.1, y137.2.2.2.1, y137.2.2.2.2.1)] : List (Int × (Int × Int)))) (ys := l9_1) (m := l9_1.length) rfl Try.underlying44 Try.underlying44 Try.type28 rfl rfl rfl (hC.srco (i := 8) rfl) rfl rfl (by have := lim_some h175; simp at this ⊢; omega) (by decide)) ?_
                        rintro _ w180 ⟨A176, c177, rfl, hl178, hc179, hC, hF, hN⟩
                        clear hF hN
                        refine lex.pure (v := .slice A176 ((([(y137.2.2.1, y137.2.2.2.1, y137.2.2.2.2.1)] : List (Int × (Int × Int))) ++ l9_1).length) c177) (pu_assign rfl) ?_
                        refine lex.nil ?_
                        refine hK118 _ _ ?_
                        refine Wc.region (by decide +kernel) ?_
                        refine lex.pure (v := .int .i64 v17_1) (pu_move e17) ?_
                        obtain ⟨z181, h182, hb⟩ := bd hb
                        refine lex.pure (v := .int .i64 z181) (pu_addc (a := v17_1) (b := 1) rfl rfl h182) ?_
                        refine lex.pure (v := .int .i64 z181) (pu_assign rfl) ?_
                        refine lex.nil ?_
                        obtain rfl := Option.some.inj hb
                        exact hK108 m110' _ _ (Nat.lt_succ_self _) ⟨(([(y137.2.2.1, y137.2.2.2.1, y137.2.2.2.2.1)] : List (Int × (Int × Int))) ++ l9_1), v15_1, v16_1, z181, y137.1, y137.2.1, A176, (([(y137.2.2.1, y137.2.2.2.1, y137.2.2.2.2.1)] : List (Int × (Int × Int))) ++ l9_1).length, c177, A140, y137.2.1.length, c142, e2, e6, e7, e8, rfl, e11, e12, e13, e14, e15, e16, rfl, hrv15_1, hrv16_1, (chk_rng h182), hr139, hC.sel [4, 5, 6, 7, 0, 9, 10, 11, 3] (by decide), lN hl1⟩
                    ·
                      skip
                      refine mixPE_chain ?_
                      refine mixE.op hM (hC.alloc (cs := [.int .i64 0, .int .i64 0, .int .i64 0]) Try.zeroValue28 rfl) ?_
                      rintro _ w184 ⟨g183, rfl, hC, hF, hG⟩
                      have hUf185 : g183 < w121.heap.size → g183 ∈ blocks (([] : List Fact) ++ ([] : List Fact)) := fun h => absurd (Nat.lt_of_lt_of_le h (Nat.le_trans hM.size hG)) (Nat.lt_irrefl _)
                      clear hG
                      replace hM := hM.none hF
                      replace hD := hM.wide (H := ([] : List Fact))
                      refine ⟨hM, ?_⟩
                      refine mixE.nil ?_
                      refine mixPE_chain ?_
                      refine mixE.op hM (hC.alloc (cs := [.int .i64 0, .slice none 0 0]) Try.zeroValue27 rfl) ?_
                      rintro _ w187 ⟨g186, rfl, hC, hF, hG⟩
                      have hUf188 : g186 < w121.heap.size → g186 ∈ blocks (([] : List Fact) ++ ([] : List Fact)) := fun h => absurd (Nat.lt_of_lt_of_le h (Nat.le_trans hM.size hG)) (Nat.lt_irrefl _)
                      clear hG
                      replace hM := hM.none hF
                      replace hD := hM.wide (H := ([] : List Fact))
                      refine ⟨hM, ?_⟩
                      refine mixE.sk hD (hC.seta (i := 0) (ds := [.int .i64 y137.1, .slice A140 y137.2.1.length c142]) rfl Try.type27 rfl rfl rfl rfl rfl) ?_
                      rintro w189 ⟨hC, hF⟩
                      replace hD := hD.besideG hUf188 hF
                      clear hF
                      refine ⟨hD, ?_⟩
                      refine mixE.sk hD (hC.seta (i := 1) (ds := [.int .i64 y137.2.2.1, .int .i64 y137.2.2.2.1, .int .i64 y137.2.2.2.2.1]) rfl Try.type28 rfl rfl rfl rfl rfl) ?_
                      rintro w190 ⟨hC, hF⟩
                      replace hD := hD.besideG hUf185 hF
                      clear hF
                      refine ⟨hD, ?_⟩
                      refine mixE.pure (v := .int .i64 y137.2.2.2.2.2) (pu_assign rfl) ?_
                      refine mixE.nil ?_
                      clear hS hM
                      clear hD
                      refine hK119 _ _ ?_
                      refine Wc.fresh fun E191 hE => ?_
                      have e2 : E191 2 = .slice Al_2 l_2.length cl_2 := (congrFun hE 2).trans e2
                      have e6 : E191 6 = .bool false := (congrFun hE 6).trans e6
                      have e7 : E191 7 = .pointer (some ⟨g19, 0, none⟩) := (congrFun hE 7).trans e7
                      have e8 : E191 8 = .slice (some ad124) l8_0.length cl8_0 := (congrFun hE 8).trans e8
                      have e9 : E191 9 = .slice Al9_1 l9_1.length cl9_1 := (congrFun hE 9).trans e9
                      have e11 : E191 11 = .pointer (some ⟨g82, 0, none⟩) := (congrFun hE 11).trans e11
                      have e12 : E191 12 = .int .i64 y70.2.2.1 := (congrFun hE 12).trans e12
                      have e13 : E191 13 = .int .i64 y70.2.2.2 := (congrFun hE 13).trans e13
                      have e14 : E191 14 = .pointer (some ⟨g98, 0, none⟩) := (congrFun hE 14).trans e14
                      have e15 : E191 15 = .int .i64 v15_1 := (congrFun hE 15).trans e15
                      have e16 : E191 16 = .int .i64 v16_1 := (congrFun hE 16).trans e16
                      have e17 : E191 17 = .int .i64 v17_1 := (congrFun hE 17).trans e17
                      have e18 : E191 18 = .pointer (some ⟨g186, 0, none⟩) := (congrFun hE 18).trans rfl
                      have e19 : E191 19 = .pointer (some ⟨g183, 0, none⟩) := (congrFun hE 19).trans rfl
                      have e20 : E191 20 = .int .i64 y137.2.2.2.2.2 := (congrFun hE 20).trans rfl
                      have e87 : E191 87 = .bool (decide (v16_1 = 0)) := (congrFun hE 87).trans rfl
                      clear hE
                      refine Wc.seq fun K192 hK192 => ?_
                      refine Wc.seq fun K193 hK193 => ?_
                      refine Wc.region (by decide +kernel) ?_
                      refine lex.pure (v := .int .i64 y137.2.2.2.2.2) (pu_move e20) ?_
                      refine lex.pure (v := .bool (!(decide (y137.2.2.2.2.2 = 0)))) (pu_neq (k := .i64) (a := y137.2.2.2.2.2) (b := 0) rfl rfl) ?_
                      refine lex.nil ?_
                      refine hK193 _ _ ?_
                      refine Wc.cond (t := (!(decide (y137.2.2.2.2.2 = 0)))) (rfl) (fun hq194 => ?_) (fun hq194 => ?_)
                      · replace hb := (cT hq194).symm.trans hb
                        refine Wc.seq fun K195 hK195 => ?_
                        refine Wc.region (by decide +kernel) ?_
                        refine lex.pure (v := .int .i64 v17_1) (pu_move e17) ?_
                        refine lex.pure (v := .int .i64 y137.2.2.2.2.2) (pu_move e20) ?_
                        refine lex.pure (v := .int .i64 v17_1) (pu_assign rfl) ?_
                        refine lex.pure (v := .int .i64 y137.2.2.2.2.2) (pu_assign rfl) ?_
                        refine lex.nil ?_
                        refine hK195 _ _ ?_
                        refine Wc.exit rfl ?_
                        refine hK118 _ _ ?_
                        refine Wc.region (by decide +kernel) ?_
                        refine lex.pure (v := .int .i64 v17_1) (pu_move e17) ?_
                        obtain ⟨z196, h197, hb⟩ := bd hb
                        refine lex.pure (v := .int .i64 z196) (pu_addc (a := v17_1) (b := 1) rfl rfl h197) ?_
                        refine lex.pure (v := .int .i64 z196) (pu_assign rfl) ?_
                        refine lex.nil ?_
                        obtain rfl := Option.some.inj hb
                        exact hK108 m110' _ _ (Nat.lt_succ_self _) ⟨l9_1, v17_1, y137.2.2.2.2.2, z196, bf100_0_1, kf100_1_1, Al9_1, l9_1.length, cl9_1, Akf100_1_1, kf100_1_1.length, ckf100_1_1, e2, e6, e7, e8, e9, e11, e12, e13, e14, rfl, rfl, rfl, hrv17_1, hr147, (chk_rng h197), hrbf100_0_1, hC.sel [3, 4, 5, 6, 7, 8, 9, 10, 11] (by decide), lN hl1⟩
                      · replace hb := (cF hq194).symm.trans hb
                        refine Wc.skip ?_
                        refine hK192 _ _ ?_
                        refine Wc.seq fun K198 hK198 => ?_
                        refine Wc.region (by decide +kernel) ?_
                        refine lex.val (v := .agg #[.int .i64 y137.1, .slice A140 y137.2.1.length c142]) (ld_blk (hC.bx (i := 0) rfl) Try.isAgg27 Try.sizeOf27 e18) ?_
                        refine lex.sk (hC.seta (i := 10) (ds := [.int .i64 y137.1, .slice A140 y137.2.1.length c142]) rfl Try.type27 rfl rfl rfl e14 rfl) ?_
                        rintro w199 ⟨hC, hF⟩
                        refine lex.nil ?_
                        refine hK198 _ _ ?_
                        refine Wc.region (by decide +kernel) ?_
                        refine lex.val (v := .agg #[.int .i64 y137.2.2.1, .int .i64 y137.2.2.2.1, .int .i64 y137.2.2.2.2.1]) (ld_blk (hC.bx (i := 1) rfl) Try.isAgg28 Try.sizeOf28 e19) ?_
                        refine lex.op (hC.lit (s := (.pr (.int .i64) (.pr (.int .i64) (.int .i64)))) (vs := [.agg #[.int .i64 y137.2.2.1, .int .i64 y137.2.2.2.1, .int .i64 y137.2.2.2.2.1]]) (xs := [(y137.2.2.1, y137.2.2.2.1, y137.2.2.2.2.1)]) Try.underlying44 Try.type28 rfl rfl (Nat.le_of_ble_eq_true rfl) rfl rfl (by simp [Value.cells, Sh.n]) rfl (show Elems _ _ (.pr (.int .i64) (.pr (.int .i64) (.int .i64))) ([.int .i64 y137.2.2.1, .int .i64 y137.2.2.2.1, .int .i64 y137.2.2.2.2.1] ++ ([])) ([(y137.2.2.1, y137.2.2.2.1, y137.2.2.2.2.1)] : List (Int × (Int × Int))) from Elems.cons (⟨[.int .i64 y137.2.2.1], [.int .i64 y137.2.2.2.1, .int .i64 y137.2.2.2.2.1], rfl, ⟨rfl, I64.wr hr144⟩, ⟨[.int .i64 y137.2.2.2.1], [.int .i64 y137.2.2.2.2.1], rfl, ⟨rfl, I64.wr hr145⟩, ⟨rfl, I64.wr hr146⟩⟩⟩) (Elems.nil _ _ _))) ?_
                        rintro _ w204 ⟨A200, c201, rfl, hl202, hc203, hC, hF, hN⟩
                        clear hF hN
                        refine lex.pure (v := .slice Al9_1 l9_1.length cl9_1) (pu_move e9) ?_
                        obtain ⟨u206, h207, hb⟩ := bd hb
                        refine lex.op (hC.app (i := 0) (s := (.pr (.int .i64) (.pr (.int .i64) (.int .i64)))) (xs := ([(y137.2.2.1, y137.2.2.2.1, y137.2.2.2.2.1)] : List (Int × (Int × Int)))) (ys := l9_1) (m := l9_1.length) rfl Try.underlying44 Try.underlying44 Try.type28 rfl rfl rfl (hC.srco (i := 8) rfl) rfl rfl (by have := lim_some h207; simp at this ⊢; omega) (by decide)) ?_
                        rintro _ w212 ⟨A208, c209, rfl, hl210, hc211, hC, hF, hN⟩
                        clear hF hN
                        refine lex.pure (v := .slice A208 ((([(y137.2.2.1, y137.2.2.2.1, y137.2.2.2.2.1)] : List (Int × (Int × Int))) ++ l9_1).length) c209) (pu_assign rfl) ?_
                        refine lex.nil ?_
                        refine hK118 _ _ ?_
                        refine Wc.region (by decide +kernel) ?_
                        refine lex.pure (v := .int .i64 v17_1) (pu_move e17) ?_
                        obtain ⟨z213, h214, hb⟩ := bd hb
                        refine lex.pure (v := .int .i64 z213) (pu_addc (a := v17_1) (b := 1) rfl rfl h214) ?_
                        refine lex.pure (v := .int .i64 z213) (pu_assign rfl) ?_
                        refine lex.nil ?_
                        obtain rfl := Option.some.inj hb
                        exact hK108 m110' _ _ (Nat.lt_succ_self _) ⟨(([(y137.2.2.1, y137.2.2.2.1, y137.2.2.2.2.1)] : List (Int × (Int × Int))) ++ l9_1), v15_1, v16_1, z213, y137.1, y137.2.1, A208, (([(y137.2.2.1, y137.2.2.2.1, y137.2.2.2.2.1)] : List (Int × (Int × Int))) ++ l9_1).length, c209, A140, y137.2.1.length, c142, e2, e6, e7, e8, rfl, e11, e12, e13, e14, e15, e16, rfl, hrv15_1, hrv16_1, (chk_rng h214), hr139, hC.sel [4, 5, 6, 7, 0, 9, 10, 11, 3] (by decide), lN hl1⟩
                  ·
                    skip
                    refine mixPE_alt ?_ ?_
                    ·
                      skip
                      refine mixPE_chain ?_
                      refine mixE.op hM (hC.alloc (cs := [.int .i64 0, .slice none 0 0]) Try.zeroValue27 rfl) ?_
                      rintro _ w216 ⟨g215, rfl, hC, hF, hG⟩
                      have hUf217 : g215 < w121.heap.size → g215 ∈ blocks (([] : List Fact) ++ ([] : List Fact)) := fun h => absurd (Nat.lt_of_lt_of_le h (Nat.le_trans hM.size hG)) (Nat.lt_irrefl _)
                      clear hG
                      replace hM := hM.none hF
                      replace hD := hM.wide (H := ([] : List Fact))
                      refine ⟨hM, ?_⟩
                      refine mixE.nil ?_
                      refine mixPE_alt ?_ ?_
                      ·
                        skip
                        refine mixPE_chain ?_
                        obtain ⟨y218, h219, hb⟩ := bd hb
                        refine mixE.cl hM (⟨_, _, op_call (vs := [.agg #[.int .i64 bf100_0_1, .slice Akf100_1_1 kf100_1_1.length ckf100_1_1], .agg #[.int .i64 x122.1, .int .i64 x122.2.1, .int .i64 x122.2.2]]) Try.call12 rfl rfl rfl, markov_Apply_ok n hC.lt hrbf100_0_1 (hC.rd (i := 9) rfl) (wrap_I64 hr131) (wrap_I64 hr135) (wrap_I64 hr136) h219⟩) ?_
                        rintro _ w229 ⟨A221, m222, c223, rfl, hr220, hr225, hr226, hr227, hr228, hK⟩
                        replace hM := hM.none hK.fr
                        replace hD := hM.wide (H := ([] : List Fact))
                        refine ⟨hM, ?_⟩
                        replace hC := hC.merge hK
                        clear hK
                        obtain ⟨rfl, hl230, hc231⟩ := (hC.rd (i := 0) rfl).sl_len
                        refine mixE.nil ?_
                        refine mixPE_chain ?_
                        refine mixE.pure (v := .tuple #[.agg #[.int .i64 y218.1, .slice A221 y218.2.1.length c223], .agg #[.int .i64 y218.2.2.1, .int .i64 y218.2.2.2.1, .int .i64 y218.2.2.2.2.1], .int .i64 y218.2.2.2.2.2]) (pu_move rfl) ?_
                        refine mixE.pure (v := .agg #[.int .i64 y218.1, .slice A221 y218.2.1.length c223]) (pu_extract rfl rfl) ?_
                        refine mixE.pure (v := .agg #[.int .i64 y218.2.2.1, .int .i64 y218.2.2.2.1, .int .i64 y218.2.2.2.2.1]) (pu_extract rfl rfl) ?_
                        refine mixE.pure (v := .int .i64 y218.2.2.2.2.2) (pu_extract rfl rfl) ?_
                        refine mixE.op hM (hC.alloc (cs := [.int .i64 0, .int .i64 0, .int .i64 0]) Try.zeroValue28 rfl) ?_
                        rintro _ w233 ⟨g232, rfl, hC, hF, hG⟩
                        have hUf234 : g232 < w121.heap.size → g232 ∈ blocks (([] : List Fact) ++ ([] : List Fact)) := fun h => absurd (Nat.lt_of_lt_of_le h (Nat.le_trans hM.size hG)) (Nat.lt_irrefl _)
                        clear hG
                        replace hM := hM.none hF
                        replace hD := hM.wide (H := ([] : List Fact))
                        refine ⟨hM, ?_⟩
                        refine mixE.sk hD (hC.seta (i := 2) (ds := [.int .i64 y218.1, .slice A221 y218.2.1.length c223]) rfl Try.type27 rfl rfl rfl rfl rfl) ?_
                        rintro w235 ⟨hC, hF⟩
                        replace hD := hD.besideG hUf217 hF
                        clear hF
                        refine ⟨hD, ?_⟩
                        refine mixE.sk hD (hC.seta (i := 0) (ds := [.int .i64 y218.2.2.1, .int .i64 y218.2.2.2.1, .int .i64 y218.2.2.2.2.1]) rfl Try.type28 rfl rfl rfl rfl rfl) ?_
                        rintro w236 ⟨hC, hF⟩
                        replace hD := hD.besideG hUf234 hF
                        clear hF
                        refine ⟨hD, ?_⟩
                        refine mixE.pure (v := .int .i64 y218.2.2.2.2.2) (pu_assign rfl) ?_
                        refine mixE.nil ?_
                        clear hS hM
                        clear hD
                        refine hK119 _ _ ?_
                        refine Wc.fresh fun E237 hE => ?_
                        have e2 : E237 2 = .slice Al_2 l_2.length cl_2 := (congrFun hE 2).trans e2
                        have e6 : E237 6 = .bool false := (congrFun hE 6).trans e6
                        have e7 : E237 7 = .pointer (some ⟨g19, 0, none⟩) := (congrFun hE 7).trans e7
                        have e8 : E237 8 = .slice (some ad124) l8_0.length cl8_0 := (congrFun hE 8).trans e8
                        have e9 : E237 9 = .slice Al9_1 l9_1.length cl9_1 := (congrFun hE 9).trans e9
                        have e11 : E237 11 = .pointer (some ⟨g82, 0, none⟩) := (congrFun hE 11).trans e11
                        have e12 : E237 12 = .int .i64 y70.2.2.1 := (congrFun hE 12).trans e12
                        have e13 : E237 13 = .int .i64 y70.2.2.2 := (congrFun hE 13).trans e13
                        have e14 : E237 14 = .pointer (some ⟨g98, 0, none⟩) := (congrFun hE 14).trans e14
                        have e15 : E237 15 = .int .i64 v15_1 := (congrFun hE 15).trans e15
                        have e16 : E237 16 = .int .i64 v16_1 := (congrFun hE 16).trans e16
                        have e17 : E237 17 = .int .i64 v17_1 := (congrFun hE 17).trans e17
                        have e18 : E237 18 = .pointer (some ⟨g215, 0, none⟩) := (congrFun hE 18).trans rfl
                        have e19 : E237 19 = .pointer (some ⟨g232, 0, none⟩) := (congrFun hE 19).trans rfl
                        have e20 : E237 20 = .int .i64 y218.2.2.2.2.2 := (congrFun hE 20).trans rfl
                        have e87 : E237 87 = .bool (decide (v16_1 = 0)) := (congrFun hE 87).trans rfl
                        clear hE
                        refine Wc.seq fun K238 hK238 => ?_
                        refine Wc.seq fun K239 hK239 => ?_
                        refine Wc.region (by decide +kernel) ?_
                        refine lex.pure (v := .int .i64 y218.2.2.2.2.2) (pu_move e20) ?_
                        refine lex.pure (v := .bool (!(decide (y218.2.2.2.2.2 = 0)))) (pu_neq (k := .i64) (a := y218.2.2.2.2.2) (b := 0) rfl rfl) ?_
                        refine lex.nil ?_
                        refine hK239 _ _ ?_
                        refine Wc.cond (t := (!(decide (y218.2.2.2.2.2 = 0)))) (rfl) (fun hq240 => ?_) (fun hq240 => ?_)
                        · replace hb := (cT hq240).symm.trans hb
                          refine Wc.seq fun K241 hK241 => ?_
                          refine Wc.region (by decide +kernel) ?_
                          refine lex.pure (v := .int .i64 v17_1) (pu_move e17) ?_
                          refine lex.pure (v := .int .i64 y218.2.2.2.2.2) (pu_move e20) ?_
                          refine lex.pure (v := .int .i64 v17_1) (pu_assign rfl) ?_
                          refine lex.pure (v := .int .i64 y218.2.2.2.2.2) (pu_assign rfl) ?_
                          refine lex.nil ?_
                          refine hK241 _ _ ?_
                          refine Wc.exit rfl ?_
                          refine hK118 _ _ ?_
                          refine Wc.region (by decide +kernel) ?_
                          refine lex.pure (v := .int .i64 v17_1) (pu_move e17) ?_
                          obtain ⟨z242, h243, hb⟩ := bd hb
                          refine lex.pure (v := .int .i64 z242) (pu_addc (a := v17_1) (b := 1) rfl rfl h243) ?_
                          refine lex.pure (v := .int .i64 z242) (pu_assign rfl) ?_
                          refine lex.nil ?_
                          obtain rfl := Option.some.inj hb
                          exact hK108 m110' _ _ (Nat.lt_succ_self _) ⟨l9_1, v17_1, y218.2.2.2.2.2, z242, bf100_0_1, kf100_1_1, Al9_1, l9_1.length, cl9_1, Akf100_1_1, kf100_1_1.length, ckf100_1_1, e2, e6, e7, e8, e9, e11, e12, e13, e14, rfl, rfl, rfl, hrv17_1, hr228, (chk_rng h243), hrbf100_0_1, hC.sel [3, 4, 5, 6, 7, 8, 9, 10, 11] (by decide), lN hl1⟩
                        · replace hb := (cF hq240).symm.trans hb
                          refine Wc.skip ?_
                          refine hK238 _ _ ?_
                          refine Wc.seq fun K244 hK244 => ?_
                          refine Wc.region (by decide +kernel) ?_
                          refine lex.val (v := .agg #[.int .i64 y218.1, .slice A221 y218.2.1.length c223]) (ld_blk (hC.bx (i := 2) rfl) Try.isAgg27 Try.sizeOf27 e18) ?_
                          refine lex.sk (hC.seta (i := 10) (ds := [.int .i64 y218.1, .slice A221 y218.2.1.length c223]) rfl Try.type27 rfl rfl rfl e14 rfl) ?_
                          rintro w245 ⟨hC, hF⟩
                          refine lex.nil ?_
                          refine hK244 _ _ ?_
                          refine Wc.region (by decide +kernel) ?_
                          refine lex.val (v := .agg #[.int .i64 y218.2.2.1, .int .i64 y218.2.2.2.1, .int .i64 y218.2.2.2.2.1]) (ld_blk (hC.bx (i := 0) rfl) Try.isAgg28 Try.sizeOf28 e19) ?_
                          refine lex.op (hC.lit (s := (.pr (.int .i64) (.pr (.int .i64) (.int .i64)))) (vs := [.agg #[.int .i64 y218.2.2.1, .int .i64 y218.2.2.2.1, .int .i64 y218.2.2.2.2.1]]) (xs := [(y218.2.2.1, y218.2.2.2.1, y218.2.2.2.2.1)]) Try.underlying44 Try.type28 rfl rfl (Nat.le_of_ble_eq_true rfl) rfl rfl (by simp [Value.cells, Sh.n]) rfl (show Elems _ _ (.pr (.int .i64) (.pr (.int .i64) (.int .i64))) ([.int .i64 y218.2.2.1, .int .i64 y218.2.2.2.1, .int .i64 y218.2.2.2.2.1] ++ ([])) ([(y218.2.2.1, y218.2.2.2.1, y218.2.2.2.2.1)] : List (Int × (Int × Int))) from Elems.cons (⟨[.int .i64 y218.2.2.1], [.int .i64 y218.2.2.2.1, .int .i64 y218.2.2.2.2.1], rfl, ⟨rfl, I64.wr hr225⟩, ⟨[.int .i64 y218.2.2.2.1], [.int .i64 y218.2.2.2.2.1], rfl, ⟨rfl, I64.wr hr226⟩, ⟨rfl, I64.wr hr227⟩⟩⟩) (Elems.nil _ _ _))) ?_
                          rintro _ w250 ⟨A246, c247, rfl, hl248, hc249, hC, hF, hN⟩
                          clear hF hN
                          refine lex.pure (v := .slice Al9_1 l9_1.length cl9_1) (pu_move e9) ?_
                          obtain ⟨u252, h253, hb⟩ := bd hb
                          refine lex.op (hC.app (i := 0) (s := (.pr (.int .i64) (.pr (.int .i64) (.int .i64)))) (xs := ([(y218.2.2.1, y218.2.2.2.1, y218.2.2.2.2.1)] : List (Int × (Int × Int)))) (ys := l9_1) (m := l9_1.length) rfl Try.underlying44 Try.underlying44 Try.type28 rfl rfl rfl (hC.srco (i := 8) rfl) rfl rfl (by have := lim_some h253; simp at this ⊢; omega) (by decide)) ?_
                          rintro _ w258 ⟨A254, c255, rfl, hl256, hc257, hC, hF, hN⟩
                          clear hF hN
                          refine lex.pure (v := .slice A254 ((([(y218.2.2.1, y218.2.2.2.1, y218.2.2.2.2.1)] : List (Int × (Int × Int))) ++ l9_1).length) c255) (pu_assign rfl) ?_
                          refine lex.nil ?_
                          refine hK118 _ _ ?_
                          refine Wc.region (by decide +kernel) ?_
                          refine lex.pure (v := .int .i64 v17_1) (pu_move e17) ?_
                          obtain ⟨z259, h260, hb⟩ := bd hb
                          refine lex.pure (v := .int .i64 z259) (pu_addc (a := v17_1) (b := 1) rfl rfl h260) ?_
                          refine lex.pure (v := .int .i64 z259) (pu_assign rfl) ?_
                          refine lex.nil ?_
                          obtain rfl := Option.some.inj hb
                          exact hK108 m110' _ _ (Nat.lt_succ_self _) ⟨(([(y218.2.2.1, y218.2.2.2.1, y218.2.2.2.2.1)] : List (Int × (Int × Int))) ++ l9_1), v15_1, v16_1, z259, y218.1, y218.2.1, A254, (([(y218.2.2.1, y218.2.2.2.1, y218.2.2.2.2.1)] : List (Int × (Int × Int))) ++ l9_1).length, c255, A221, y218.2.1.length, c223, e2, e6, e7, e8, rfl, e11, e12, e13, e14, e15, e16, rfl, hrv15_1, hrv16_1, (chk_rng h260), hr220, hC.sel [4, 5, 6, 7, 0, 9, 10, 11, 2] (by decide), lN hl1⟩
                      ·
                        skip
                        refine mixPE_chain ?_
                        refine mixE.op hM (hC.alloc (cs := [.int .i64 0, .int .i64 0, .int .i64 0]) Try.zeroValue28 rfl) ?_
                        rintro _ w262 ⟨g261, rfl, hC, hF, hG⟩
                        have hUf263 : g261 < w121.heap.size → g261 ∈ blocks (([] : List Fact) ++ ([] : List Fact)) := fun h => absurd (Nat.lt_of_lt_of_le h (Nat.le_trans hM.size hG)) (Nat.lt_irrefl _)
                        clear hG
                        replace hM := hM.none hF
                        replace hD := hM.wide (H := ([] : List Fact))
                        refine ⟨hM, ?_⟩
                        refine mixE.nil ?_
                        refine mixPE_chain ?_
                        obtain ⟨y264, h265, hb⟩ := bd hb
                        refine mixE.cl hM (⟨_, _, op_call (vs := [.agg #[.int .i64 bf100_0_1, .slice Akf100_1_1 kf100_1_1.length ckf100_1_1], .agg #[.int .i64 x122.1, .int .i64 x122.2.1, .int .i64 x122.2.2]]) Try.call12 rfl rfl rfl, markov_Apply_ok n hC.lt hrbf100_0_1 (hC.rd (i := 10) rfl) (wrap_I64 hr131) (wrap_I64 hr135) (wrap_I64 hr136) h265⟩) ?_
                        rintro _ w275 ⟨A267, m268, c269, rfl, hr266, hr271, hr272, hr273, hr274, hK⟩
                        replace hM := hM.none hK.fr
                        replace hD := hM.wide (H := ([] : List Fact))
                        refine ⟨hM, ?_⟩
                        replace hC := hC.merge hK
                        clear hK
                        obtain ⟨rfl, hl276, hc277⟩ := (hC.rd (i := 0) rfl).sl_len
                        refine mixE.pure (v := .tuple #[.agg #[.int .i64 y264.1, .slice A267 y264.2.1.length c269], .agg #[.int .i64 y264.2.2.1, .int .i64 y264.2.2.2.1, .int .i64 y264.2.2.2.2.1], .int .i64 y264.2.2.2.2.2]) (pu_move rfl) ?_
                        refine mixE.pure (v := .agg #[.int .i64 y264.1, .slice A267 y264.2.1.length c269]) (pu_extract rfl rfl) ?_
                        refine mixE.pure (v := .agg #[.int .i64 y264.2.2.1, .int .i64 y264.2.2.2.1, .int .i64 y264.2.2.2.2.1]) (pu_extract rfl rfl) ?_
                        refine mixE.pure (v := .int .i64 y264.2.2.2.2.2) (pu_extract rfl rfl) ?_
                        refine mixE.sk hD (hC.seta (i := 2) (ds := [.int .i64 y264.1, .slice A267 y264.2.1.length c269]) rfl Try.type27 rfl rfl rfl rfl rfl) ?_
                        rintro w278 ⟨hC, hF⟩
                        replace hD := hD.besideG hUf217 hF
                        clear hF
                        refine ⟨hD, ?_⟩
                        refine mixE.sk hD (hC.seta (i := 1) (ds := [.int .i64 y264.2.2.1, .int .i64 y264.2.2.2.1, .int .i64 y264.2.2.2.2.1]) rfl Try.type28 rfl rfl rfl rfl rfl) ?_
                        rintro w279 ⟨hC, hF⟩
                        replace hD := hD.besideG hUf263 hF
                        clear hF
                        refine ⟨hD, ?_⟩
                        refine mixE.pure (v := .int .i64 y264.2.2.2.2.2) (pu_assign rfl) ?_
                        refine mixE.nil ?_
                        clear hS hM
                        clear hD
                        refine hK119 _ _ ?_
                        refine Wc.fresh fun E280 hE => ?_
                        have e2 : E280 2 = .slice Al_2 l_2.length cl_2 := (congrFun hE 2).trans e2
                        have e6 : E280 6 = .bool false := (congrFun hE 6).trans e6
                        have e7 : E280 7 = .pointer (some ⟨g19, 0, none⟩) := (congrFun hE 7).trans e7
                        have e8 : E280 8 = .slice (some ad124) l8_0.length cl8_0 := (congrFun hE 8).trans e8
                        have e9 : E280 9 = .slice Al9_1 l9_1.length cl9_1 := (congrFun hE 9).trans e9
                        have e11 : E280 11 = .pointer (some ⟨g82, 0, none⟩) := (congrFun hE 11).trans e11
                        have e12 : E280 12 = .int .i64 y70.2.2.1 := (congrFun hE 12).trans e12
                        have e13 : E280 13 = .int .i64 y70.2.2.2 := (congrFun hE 13).trans e13
                        have e14 : E280 14 = .pointer (some ⟨g98, 0, none⟩) := (congrFun hE 14).trans e14
                        have e15 : E280 15 = .int .i64 v15_1 := (congrFun hE 15).trans e15
                        have e16 : E280 16 = .int .i64 v16_1 := (congrFun hE 16).trans e16
                        have e17 : E280 17 = .int .i64 v17_1 := (congrFun hE 17).trans e17
                        have e18 : E280 18 = .pointer (some ⟨g215, 0, none⟩) := (congrFun hE 18).trans rfl
                        have e19 : E280 19 = .pointer (some ⟨g261, 0, none⟩) := (congrFun hE 19).trans rfl
                        have e20 : E280 20 = .int .i64 y264.2.2.2.2.2 := (congrFun hE 20).trans rfl
                        have e87 : E280 87 = .bool (decide (v16_1 = 0)) := (congrFun hE 87).trans rfl
                        clear hE
                        refine Wc.seq fun K281 hK281 => ?_
                        refine Wc.seq fun K282 hK282 => ?_
                        refine Wc.region (by decide +kernel) ?_
                        refine lex.pure (v := .int .i64 y264.2.2.2.2.2) (pu_move e20) ?_
                        refine lex.pure (v := .bool (!(decide (y264.2.2.2.2.2 = 0)))) (pu_neq (k := .i64) (a := y264.2.2.2.2.2) (b := 0) rfl rfl) ?_
                        refine lex.nil ?_
                        refine hK282 _ _ ?_
                        refine Wc.cond (t := (!(decide (y264.2.2.2.2.2 = 0)))) (rfl) (fun hq283 => ?_) (fun hq283 => ?_)
                        · replace hb := (cT hq283).symm.trans hb
                          refine Wc.seq fun K284 hK284 => ?_
                          refine Wc.region (by decide +kernel) ?_
                          refine lex.pure (v := .int .i64 v17_1) (pu_move e17) ?_
                          refine lex.pure (v := .int .i64 y264.2.2.2.2.2) (pu_move e20) ?_
                          refine lex.pure (v := .int .i64 v17_1) (pu_assign rfl) ?_
                          refine lex.pure (v := .int .i64 y264.2.2.2.2.2) (pu_assign rfl) ?_
                          refine lex.nil ?_
                          refine hK284 _ _ ?_
                          refine Wc.exit rfl ?_
                          refine hK118 _ _ ?_
                          refine Wc.region (by decide +kernel) ?_
                          refine lex.pure (v := .int .i64 v17_1) (pu_move e17) ?_
                          obtain ⟨z285, h286, hb⟩ := bd hb
                          refine lex.pure (v := .int .i64 z285) (pu_addc (a := v17_1) (b := 1) rfl rfl h286) ?_
                          refine lex.pure (v := .int .i64 z285) (pu_assign rfl) ?_
                          refine lex.nil ?_
                          obtain rfl := Option.some.inj hb
                          exact hK108 m110' _ _ (Nat.lt_succ_self _) ⟨l9_1, v17_1, y264.2.2.2.2.2, z285, bf100_0_1, kf100_1_1, Al9_1, l9_1.length, cl9_1, Akf100_1_1, kf100_1_1.length, ckf100_1_1, e2, e6, e7, e8, e9, e11, e12, e13, e14, rfl, rfl, rfl, hrv17_1, hr274, (chk_rng h286), hrbf100_0_1, hC.sel [3, 4, 5, 6, 7, 8, 9, 10, 11] (by decide), lN hl1⟩
                        · replace hb := (cF hq283).symm.trans hb
                          refine Wc.skip ?_
                          refine hK281 _ _ ?_
                          refine Wc.seq fun K287 hK287 => ?_
                          refine Wc.region (by decide +kernel) ?_
                          refine lex.val (v := .agg #[.int .i64 y264.1, .slice A267 y264.2.1.length c269]) (ld_blk (hC.bx (i := 2) rfl) Try.isAgg27 Try.sizeOf27 e18) ?_
                          refine lex.sk (hC.seta (i := 10) (ds := [.int .i64 y264.1, .slice A267 y264.2.1.length c269]) rfl Try.type27 rfl rfl rfl e14 rfl) ?_
                          rintro w288 ⟨hC, hF⟩
                          refine lex.nil ?_
                          refine hK287 _ _ ?_
                          refine Wc.region (by decide +kernel) ?_
                          refine lex.val (v := .agg #[.int .i64 y264.2.2.1, .int .i64 y264.2.2.2.1, .int .i64 y264.2.2.2.2.1]) (ld_blk (hC.bx (i := 1) rfl) Try.isAgg28 Try.sizeOf28 e19) ?_
                          refine lex.op (hC.lit (s := (.pr (.int .i64) (.pr (.int .i64) (.int .i64)))) (vs := [.agg #[.int .i64 y264.2.2.1, .int .i64 y264.2.2.2.1, .int .i64 y264.2.2.2.2.1]]) (xs := [(y264.2.2.1, y264.2.2.2.1, y264.2.2.2.2.1)]) Try.underlying44 Try.type28 rfl rfl (Nat.le_of_ble_eq_true rfl) rfl rfl (by simp [Value.cells, Sh.n]) rfl (show Elems _ _ (.pr (.int .i64) (.pr (.int .i64) (.int .i64))) ([.int .i64 y264.2.2.1, .int .i64 y264.2.2.2.1, .int .i64 y264.2.2.2.2.1] ++ ([])) ([(y264.2.2.1, y264.2.2.2.1, y264.2.2.2.2.1)] : List (Int × (Int × Int))) from Elems.cons (⟨[.int .i64 y264.2.2.1], [.int .i64 y264.2.2.2.1, .int .i64 y264.2.2.2.2.1], rfl, ⟨rfl, I64.wr hr271⟩, ⟨[.int .i64 y264.2.2.2.1], [.int .i64 y264.2.2.2.2.1], rfl, ⟨rfl, I64.wr hr272⟩, ⟨rfl, I64.wr hr273⟩⟩⟩) (Elems.nil _ _ _))) ?_
                          rintro _ w293 ⟨A289, c290, rfl, hl291, hc292, hC, hF, hN⟩
                          clear hF hN
                          refine lex.pure (v := .slice Al9_1 l9_1.length cl9_1) (pu_move e9) ?_
                          obtain ⟨u295, h296, hb⟩ := bd hb
                          refine lex.op (hC.app (i := 0) (s := (.pr (.int .i64) (.pr (.int .i64) (.int .i64)))) (xs := ([(y264.2.2.1, y264.2.2.2.1, y264.2.2.2.2.1)] : List (Int × (Int × Int)))) (ys := l9_1) (m := l9_1.length) rfl Try.underlying44 Try.underlying44 Try.type28 rfl rfl rfl (hC.srco (i := 8) rfl) rfl rfl (by have := lim_some h296; simp at this ⊢; omega) (by decide)) ?_
                          rintro _ w301 ⟨A297, c298, rfl, hl299, hc300, hC, hF, hN⟩
                          clear hF hN
                          refine lex.pure (v := .slice A297 ((([(y264.2.2.1, y264.2.2.2.1, y264.2.2.2.2.1)] : List (Int × (Int × Int))) ++ l9_1).length) c298) (pu_assign rfl) ?_
                          refine lex.nil ?_
                          refine hK118 _ _ ?_
                          refine Wc.region (by decide +kernel) ?_
                          refine lex.pure (v := .int .i64 v17_1) (pu_move e17) ?_
                          obtain ⟨z302, h303, hb⟩ := bd hb
                          refine lex.pure (v := .int .i64 z302) (pu_addc (a := v17_1) (b := 1) rfl rfl h303) ?_
                          refine lex.pure (v := .int .i64 z302) (pu_assign rfl) ?_
                          refine lex.nil ?_
                          obtain rfl := Option.some.inj hb
                          exact hK108 m110' _ _ (Nat.lt_succ_self _) ⟨(([(y264.2.2.1, y264.2.2.2.1, y264.2.2.2.2.1)] : List (Int × (Int × Int))) ++ l9_1), v15_1, v16_1, z302, y264.1, y264.2.1, A297, (([(y264.2.2.1, y264.2.2.2.1, y264.2.2.2.2.1)] : List (Int × (Int × Int))) ++ l9_1).length, c298, A267, y264.2.1.length, c269, e2, e6, e7, e8, rfl, e11, e12, e13, e14, e15, e16, rfl, hrv15_1, hrv16_1, (chk_rng h303), hr266, hC.sel [4, 5, 6, 7, 0, 9, 10, 11, 1] (by decide), lN hl1⟩
                    ·
                      skip
                      refine mixPE_chain ?_
                      refine mixE.op hM (hC.alloc (cs := [.int .i64 0, .int .i64 0, .int .i64 0]) Try.zeroValue28 rfl) ?_
                      rintro _ w305 ⟨g304, rfl, hC, hF, hG⟩
                      have hUf306 : g304 < w121.heap.size → g304 ∈ blocks (([] : List Fact) ++ ([] : List Fact)) := fun h => absurd (Nat.lt_of_lt_of_le h (Nat.le_trans hM.size hG)) (Nat.lt_irrefl _)
                      clear hG
                      replace hM := hM.none hF
                      replace hD := hM.wide (H := ([] : List Fact))
                      refine ⟨hM, ?_⟩
                      refine mixE.nil ?_
                      refine mixPE_alt ?_ ?_
                      ·
                        skip
                        refine mixPE_chain ?_
                        obtain ⟨y307, h308, hb⟩ := bd hb
                        refine mixE.cl hM (⟨_, _, op_call (vs := [.agg #[.int .i64 bf100_0_1, .slice Akf100_1_1 kf100_1_1.length ckf100_1_1], .agg #[.int .i64 x122.1, .int .i64 x122.2.1, .int .i64 x122.2.2]]) Try.call12 rfl rfl rfl, markov_Apply_ok n hC.lt hrbf100_0_1 (hC.rd (i := 9) rfl) (wrap_I64 hr131) (wrap_I64 hr135) (wrap_I64 hr136) h308⟩) ?_
                        rintro _ w318 ⟨A310, m311, c312, rfl, hr309, hr314, hr315, hr316, hr317, hK⟩
                        replace hM := hM.none hK.fr
                        replace hD := hM.wide (H := ([] : List Fact))
                        refine ⟨hM, ?_⟩
                        replace hC := hC.merge hK
                        clear hK
                        obtain ⟨rfl, hl319, hc320⟩ := (hC.rd (i := 0) rfl).sl_len
                        refine mixE.nil ?_
                        refine mixPE_chain ?_
                        refine mixE.pure (v := .tuple #[.agg #[.int .i64 y307.1, .slice A310 y307.2.1.length c312], .agg #[.int .i64 y307.2.2.1, .int .i64 y307.2.2.2.1, .int .i64 y307.2.2.2.2.1], .int .i64 y307.2.2.2.2.2]) (pu_move rfl) ?_
                        refine mixE.pure (v := .agg #[.int .i64 y307.1, .slice A310 y307.2.1.length c312]) (pu_extract rfl rfl) ?_
                        refine mixE.pure (v := .agg #[.int .i64 y307.2.2.1, .int .i64 y307.2.2.2.1, .int .i64 y307.2.2.2.2.1]) (pu_extract rfl rfl) ?_
                        refine mixE.pure (v := .int .i64 y307.2.2.2.2.2) (pu_extract rfl rfl) ?_
                        refine mixE.op hM (hC.alloc (cs := [.int .i64 0, .slice none 0 0]) Try.zeroValue27 rfl) ?_
                        rintro _ w322 ⟨g321, rfl, hC, hF, hG⟩
                        have hUf323 : g321 < w121.heap.size → g321 ∈ blocks (([] : List Fact) ++ ([] : List Fact)) := fun h => absurd (Nat.lt_of_lt_of_le h (Nat.le_trans hM.size hG)) (Nat.lt_irrefl _)
                        clear hG
                        replace hM := hM.none hF
                        replace hD := hM.wide (H := ([] : List Fact))
                        refine ⟨hM, ?_⟩
                        refine mixE.sk hD (hC.seta (i := 0) (ds := [.int .i64 y307.1, .slice A310 y307.2.1.length c312]) rfl Try.type27 rfl rfl rfl rfl rfl) ?_
                        rintro w324 ⟨hC, hF⟩
                        replace hD := hD.besideG hUf323 hF
                        clear hF
                        refine ⟨hD, ?_⟩
                        refine mixE.sk hD (hC.seta (i := 2) (ds := [.int .i64 y307.2.2.1, .int .i64 y307.2.2.2.1, .int .i64 y307.2.2.2.2.1]) rfl Try.type28 rfl rfl rfl rfl rfl) ?_
                        rintro w325 ⟨hC, hF⟩
                        replace hD := hD.besideG hUf306 hF
                        clear hF
                        refine ⟨hD, ?_⟩
                        refine mixE.pure (v := .int .i64 y307.2.2.2.2.2) (pu_assign rfl) ?_
                        refine mixE.nil ?_
                        clear hS hM
                        clear hD
                        refine hK119 _ _ ?_
                        refine Wc.fresh fun E326 hE => ?_
                        have e2 : E326 2 = .slice Al_2 l_2.length cl_2 := (congrFun hE 2).trans e2
                        have e6 : E326 6 = .bool false := (congrFun hE 6).trans e6
                        have e7 : E326 7 = .pointer (some ⟨g19, 0, none⟩) := (congrFun hE 7).trans e7
                        have e8 : E326 8 = .slice (some ad124) l8_0.length cl8_0 := (congrFun hE 8).trans e8
                        have e9 : E326 9 = .slice Al9_1 l9_1.length cl9_1 := (congrFun hE 9).trans e9
                        have e11 : E326 11 = .pointer (some ⟨g82, 0, none⟩) := (congrFun hE 11).trans e11
                        have e12 : E326 12 = .int .i64 y70.2.2.1 := (congrFun hE 12).trans e12
                        have e13 : E326 13 = .int .i64 y70.2.2.2 := (congrFun hE 13).trans e13
                        have e14 : E326 14 = .pointer (some ⟨g98, 0, none⟩) := (congrFun hE 14).trans e14
                        have e15 : E326 15 = .int .i64 v15_1 := (congrFun hE 15).trans e15
                        have e16 : E326 16 = .int .i64 v16_1 := (congrFun hE 16).trans e16
                        have e17 : E326 17 = .int .i64 v17_1 := (congrFun hE 17).trans e17
                        have e18 : E326 18 = .pointer (some ⟨g321, 0, none⟩) := (congrFun hE 18).trans rfl
                        have e19 : E326 19 = .pointer (some ⟨g304, 0, none⟩) := (congrFun hE 19).trans rfl
                        have e20 : E326 20 = .int .i64 y307.2.2.2.2.2 := (congrFun hE 20).trans rfl
                        have e87 : E326 87 = .bool (decide (v16_1 = 0)) := (congrFun hE 87).trans rfl
                        clear hE
                        refine Wc.seq fun K327 hK327 => ?_
                        refine Wc.seq fun K328 hK328 => ?_
                        refine Wc.region (by decide +kernel) ?_
                        refine lex.pure (v := .int .i64 y307.2.2.2.2.2) (pu_move e20) ?_
                        refine lex.pure (v := .bool (!(decide (y307.2.2.2.2.2 = 0)))) (pu_neq (k := .i64) (a := y307.2.2.2.2.2) (b := 0) rfl rfl) ?_
                        refine lex.nil ?_
                        refine hK328 _ _ ?_
                        refine Wc.cond (t := (!(decide (y307.2.2.2.2.2 = 0)))) (rfl) (fun hq329 => ?_) (fun hq329 => ?_)
                        · replace hb := (cT hq329).symm.trans hb
                          refine Wc.seq fun K330 hK330 => ?_
                          refine Wc.region (by decide +kernel) ?_
                          refine lex.pure (v := .int .i64 v17_1) (pu_move e17) ?_
                          refine lex.pure (v := .int .i64 y307.2.2.2.2.2) (pu_move e20) ?_
                          refine lex.pure (v := .int .i64 v17_1) (pu_assign rfl) ?_
                          refine lex.pure (v := .int .i64 y307.2.2.2.2.2) (pu_assign rfl) ?_
                          refine lex.nil ?_
                          refine hK330 _ _ ?_
                          refine Wc.exit rfl ?_
                          refine hK118 _ _ ?_
                          refine Wc.region (by decide +kernel) ?_
                          refine lex.pure (v := .int .i64 v17_1) (pu_move e17) ?_
                          obtain ⟨z331, h332, hb⟩ := bd hb
                          refine lex.pure (v := .int .i64 z331) (pu_addc (a := v17_1) (b := 1) rfl rfl h332) ?_
                          refine lex.pure (v := .int .i64 z331) (pu_assign rfl) ?_
                          refine lex.nil ?_
                          obtain rfl := Option.some.inj hb
                          exact hK108 m110' _ _ (Nat.lt_succ_self _) ⟨l9_1, v17_1, y307.2.2.2.2.2, z331, bf100_0_1, kf100_1_1, Al9_1, l9_1.length, cl9_1, Akf100_1_1, kf100_1_1.length, ckf100_1_1, e2, e6, e7, e8, e9, e11, e12, e13, e14, rfl, rfl, rfl, hrv17_1, hr317, (chk_rng h332), hrbf100_0_1, hC.sel [3, 4, 5, 6, 7, 8, 9, 10, 11] (by decide), lN hl1⟩
                        · replace hb := (cF hq329).symm.trans hb
                          refine Wc.skip ?_
                          refine hK327 _ _ ?_
                          refine Wc.seq fun K333 hK333 => ?_
                          refine Wc.region (by decide +kernel) ?_
                          refine lex.val (v := .agg #[.int .i64 y307.1, .slice A310 y307.2.1.length c312]) (ld_blk (hC.bx (i := 0) rfl) Try.isAgg27 Try.sizeOf27 e18) ?_
                          refine lex.sk (hC.seta (i := 10) (ds := [.int .i64 y307.1, .slice A310 y307.2.1.length c312]) rfl Try.type27 rfl rfl rfl e14 rfl) ?_
                          rintro w334 ⟨hC, hF⟩
                          refine lex.nil ?_
                          refine hK333 _ _ ?_
                          refine Wc.region (by decide +kernel) ?_
                          refine lex.val (v := .agg #[.int .i64 y307.2.2.1, .int .i64 y307.2.2.2.1, .int .i64 y307.2.2.2.2.1]) (ld_blk (hC.bx (i := 2) rfl) Try.isAgg28 Try.sizeOf28 e19) ?_
                          refine lex.op (hC.lit (s := (.pr (.int .i64) (.pr (.int .i64) (.int .i64)))) (vs := [.agg #[.int .i64 y307.2.2.1, .int .i64 y307.2.2.2.1, .int .i64 y307.2.2.2.2.1]]) (xs := [(y307.2.2.1, y307.2.2.2.1, y307.2.2.2.2.1)]) Try.underlying44 Try.type28 rfl rfl (Nat.le_of_ble_eq_true rfl) rfl rfl (by simp [Value.cells, Sh.n]) rfl (show Elems _ _ (.pr (.int .i64) (.pr (.int .i64) (.int .i64))) ([.int .i64 y307.2.2.1, .int .i64 y307.2.2.2.1, .int .i64 y307.2.2.2.2.1] ++ ([])) ([(y307.2.2.1, y307.2.2.2.1, y307.2.2.2.2.1)] : List (Int × (Int × Int))) from Elems.cons (⟨[.int .i64 y307.2.2.1], [.int .i64 y307.2.2.2.1, .int .i64 y307.2.2.2.2.1], rfl, ⟨rfl, I64.wr hr314⟩, ⟨[.int .i64 y307.2.2.2.1], [.int .i64 y307.2.2.2.2.1], rfl, ⟨rfl, I64.wr hr315⟩, ⟨rfl, I64.wr hr316⟩⟩⟩) (Elems.nil _ _ _))) ?_
                          rintro _ w339 ⟨A335, c336, rfl, hl337, hc338, hC, hF, hN⟩
                          clear hF hN
                          refine lex.pure (v := .slice Al9_1 l9_1.length cl9_1) (pu_move e9) ?_
                          obtain ⟨u341, h342, hb⟩ := bd hb
                          refine lex.op (hC.app (i := 0) (s := (.pr (.int .i64) (.pr (.int .i64) (.int .i64)))) (xs := ([(y307.2.2.1, y307.2.2.2.1, y307.2.2.2.2.1)] : List (Int × (Int × Int)))) (ys := l9_1) (m := l9_1.length) rfl Try.underlying44 Try.underlying44 Try.type28 rfl rfl rfl (hC.srco (i := 8) rfl) rfl rfl (by have := lim_some h342; simp at this ⊢; omega) (by decide)) ?_
                          rintro _ w347 ⟨A343, c344, rfl, hl345, hc346, hC, hF, hN⟩
                          clear hF hN
                          refine lex.pure (v := .slice A343 ((([(y307.2.2.1, y307.2.2.2.1, y307.2.2.2.2.1)] : List (Int × (Int × Int))) ++ l9_1).length) c344) (pu_assign rfl) ?_
                          refine lex.nil ?_
                          refine hK118 _ _ ?_
                          refine Wc.region (by decide +kernel) ?_
                          refine lex.pure (v := .int .i64 v17_1) (pu_move e17) ?_
                          obtain ⟨z348, h349, hb⟩ := bd hb
                          refine lex.pure (v := .int .i64 z348) (pu_addc (a := v17_1) (b := 1) rfl rfl h349) ?_
                          refine lex.pure (v := .int .i64 z348) (pu_assign rfl) ?_
                          refine lex.nil ?_
                          obtain rfl := Option.some.inj hb
                          exact hK108 m110' _ _ (Nat.lt_succ_self _) ⟨(([(y307.2.2.1, y307.2.2.2.1, y307.2.2.2.2.1)] : List (Int × (Int × Int))) ++ l9_1), v15_1, v16_1, z348, y307.1, y307.2.1, A343, (([(y307.2.2.1, y307.2.2.2.1, y307.2.2.2.2.1)] : List (Int × (Int × Int))) ++ l9_1).length, c344, A310, y307.2.1.length, c312, e2, e6, e7, e8, rfl, e11, e12, e13, e14, e15, e16, rfl, hrv15_1, hrv16_1, (chk_rng h349), hr309, hC.sel [4, 5, 6, 7, 0, 9, 10, 11, 2] (by decide), lN hl1⟩
                      ·
                        skip
                        refine mixPE_chain ?_
                        refine mixE.op hM (hC.alloc (cs := [.int .i64 0, .slice none 0 0]) Try.zeroValue27 rfl) ?_
                        rintro _ w351 ⟨g350, rfl, hC, hF, hG⟩
                        have hUf352 : g350 < w121.heap.size → g350 ∈ blocks (([] : List Fact) ++ ([] : List Fact)) := fun h => absurd (Nat.lt_of_lt_of_le h (Nat.le_trans hM.size hG)) (Nat.lt_irrefl _)
                        clear hG
                        replace hM := hM.none hF
                        replace hD := hM.wide (H := ([] : List Fact))
                        refine ⟨hM, ?_⟩
                        refine mixE.nil ?_
                        refine mixPE_chain ?_
                        obtain ⟨y353, h354, hb⟩ := bd hb
                        refine mixE.cl hM (⟨_, _, op_call (vs := [.agg #[.int .i64 bf100_0_1, .slice Akf100_1_1 kf100_1_1.length ckf100_1_1], .agg #[.int .i64 x122.1, .int .i64 x122.2.1, .int .i64 x122.2.2]]) Try.call12 rfl rfl rfl, markov_Apply_ok n hC.lt hrbf100_0_1 (hC.rd (i := 10) rfl) (wrap_I64 hr131) (wrap_I64 hr135) (wrap_I64 hr136) h354⟩) ?_
                        rintro _ w364 ⟨A356, m357, c358, rfl, hr355, hr360, hr361, hr362, hr363, hK⟩
                        replace hM := hM.none hK.fr
                        replace hD := hM.wide (H := ([] : List Fact))
                        refine ⟨hM, ?_⟩
                        replace hC := hC.merge hK
                        clear hK
                        obtain ⟨rfl, hl365, hc366⟩ := (hC.rd (i := 0) rfl).sl_len
                        refine mixE.pure (v := .tuple #[.agg #[.int .i64 y353.1, .slice A356 y353.2.1.length c358], .agg #[.int .i64 y353.2.2.1, .int .i64 y353.2.2.2.1, .int .i64 y353.2.2.2.2.1], .int .i64 y353.2.2.2.2.2]) (pu_move rfl) ?_
                        refine mixE.pure (v := .agg #[.int .i64 y353.1, .slice A356 y353.2.1.length c358]) (pu_extract rfl rfl) ?_
                        refine mixE.pure (v := .agg #[.int .i64 y353.2.2.1, .int .i64 y353.2.2.2.1, .int .i64 y353.2.2.2.2.1]) (pu_extract rfl rfl) ?_
                        refine mixE.pure (v := .int .i64 y353.2.2.2.2.2) (pu_extract rfl rfl) ?_
                        refine mixE.sk hD (hC.seta (i := 1) (ds := [.int .i64 y353.1, .slice A356 y353.2.1.length c358]) rfl Try.type27 rfl rfl rfl rfl rfl) ?_
                        rintro w367 ⟨hC, hF⟩
                        replace hD := hD.besideG hUf352 hF
                        clear hF
                        refine ⟨hD, ?_⟩
                        refine mixE.sk hD (hC.seta (i := 2) (ds := [.int .i64 y353.2.2.1, .int .i64 y353.2.2.2.1, .int .i64 y353.2.2.2.2.1]) rfl Try.type28 rfl rfl rfl rfl rfl) ?_
                        rintro w368 ⟨hC, hF⟩
                        replace hD := hD.besideG hUf306 hF
                        clear hF
                        refine ⟨hD, ?_⟩
                        refine mixE.pure (v := .int .i64 y353.2.2.2.2.2) (pu_assign rfl) ?_
                        refine mixE.nil ?_
                        clear hS hM
                        clear hD
                        refine hK119 _ _ ?_
                        refine Wc.fresh fun E369 hE => ?_
                        have e2 : E369 2 = .slice Al_2 l_2.length cl_2 := (congrFun hE 2).trans e2
                        have e6 : E369 6 = .bool false := (congrFun hE 6).trans e6
                        have e7 : E369 7 = .pointer (some ⟨g19, 0, none⟩) := (congrFun hE 7).trans e7
                        have e8 : E369 8 = .slice (some ad124) l8_0.length cl8_0 := (congrFun hE 8).trans e8
                        have e9 : E369 9 = .slice Al9_1 l9_1.length cl9_1 := (congrFun hE 9).trans e9
                        have e11 : E369 11 = .pointer (some ⟨g82, 0, none⟩) := (congrFun hE 11).trans e11
                        have e12 : E369 12 = .int .i64 y70.2.2.1 := (congrFun hE 12).trans e12
                        have e13 : E369 13 = .int .i64 y70.2.2.2 := (congrFun hE 13).trans e13
                        have e14 : E369 14 = .pointer (some ⟨g98, 0, none⟩) := (congrFun hE 14).trans e14
                        have e15 : E369 15 = .int .i64 v15_1 := (congrFun hE 15).trans e15
                        have e16 : E369 16 = .int .i64 v16_1 := (congrFun hE 16).trans e16
                        have e17 : E369 17 = .int .i64 v17_1 := (congrFun hE 17).trans e17
                        have e18 : E369 18 = .pointer (some ⟨g350, 0, none⟩) := (congrFun hE 18).trans rfl
                        have e19 : E369 19 = .pointer (some ⟨g304, 0, none⟩) := (congrFun hE 19).trans rfl
                        have e20 : E369 20 = .int .i64 y353.2.2.2.2.2 := (congrFun hE 20).trans rfl
                        have e87 : E369 87 = .bool (decide (v16_1 = 0)) := (congrFun hE 87).trans rfl
                        clear hE
                        refine Wc.seq fun K370 hK370 => ?_
                        refine Wc.seq fun K371 hK371 => ?_
                        refine Wc.region (by decide +kernel) ?_
                        refine lex.pure (v := .int .i64 y353.2.2.2.2.2) (pu_move e20) ?_
                        refine lex.pure (v := .bool (!(decide (y353.2.2.2.2.2 = 0)))) (pu_neq (k := .i64) (a := y353.2.2.2.2.2) (b := 0) rfl rfl) ?_
                        refine lex.nil ?_
                        refine hK371 _ _ ?_
                        refine Wc.cond (t := (!(decide (y353.2.2.2.2.2 = 0)))) (rfl) (fun hq372 => ?_) (fun hq372 => ?_)
                        · replace hb := (cT hq372).symm.trans hb
                          refine Wc.seq fun K373 hK373 => ?_
                          refine Wc.region (by decide +kernel) ?_
                          refine lex.pure (v := .int .i64 v17_1) (pu_move e17) ?_
                          refine lex.pure (v := .int .i64 y353.2.2.2.2.2) (pu_move e20) ?_
                          refine lex.pure (v := .int .i64 v17_1) (pu_assign rfl) ?_
                          refine lex.pure (v := .int .i64 y353.2.2.2.2.2) (pu_assign rfl) ?_
                          refine lex.nil ?_
                          refine hK373 _ _ ?_
                          refine Wc.exit rfl ?_
                          refine hK118 _ _ ?_
                          refine Wc.region (by decide +kernel) ?_
                          refine lex.pure (v := .int .i64 v17_1) (pu_move e17) ?_
                          obtain ⟨z374, h375, hb⟩ := bd hb
                          refine lex.pure (v := .int .i64 z374) (pu_addc (a := v17_1) (b := 1) rfl rfl h375) ?_
                          refine lex.pure (v := .int .i64 z374) (pu_assign rfl) ?_
                          refine lex.nil ?_
                          obtain rfl := Option.some.inj hb
                          exact hK108 m110' _ _ (Nat.lt_succ_self _) ⟨l9_1, v17_1, y353.2.2.2.2.2, z374, bf100_0_1, kf100_1_1, Al9_1, l9_1.length, cl9_1, Akf100_1_1, kf100_1_1.length, ckf100_1_1, e2, e6, e7, e8, e9, e11, e12, e13, e14, rfl, rfl, rfl, hrv17_1, hr363, (chk_rng h375), hrbf100_0_1, hC.sel [3, 4, 5, 6, 7, 8, 9, 10, 11] (by decide), lN hl1⟩
                        · replace hb := (cF hq372).symm.trans hb
                          refine Wc.skip ?_
                          refine hK370 _ _ ?_
                          refine Wc.seq fun K376 hK376 => ?_
                          refine Wc.region (by decide +kernel) ?_
                          refine lex.val (v := .agg #[.int .i64 y353.1, .slice A356 y353.2.1.length c358]) (ld_blk (hC.bx (i := 1) rfl) Try.isAgg27 Try.sizeOf27 e18) ?_
                          refine lex.sk (hC.seta (i := 10) (ds := [.int .i64 y353.1, .slice A356 y353.2.1.length c358]) rfl Try.type27 rfl rfl rfl e14 rfl) ?_
                          rintro w377 ⟨hC, hF⟩
                          refine lex.nil ?_
                          refine hK376 _ _ ?_
                          refine Wc.region (by decide +kernel) ?_
                          refine lex.val (v := .agg #[.int .i64 y353.2.2.1, .int .i64 y353.2.2.2.1, .int .i64 y353.2.2.2.2.1]) (ld_blk (hC.bx (i := 2) rfl) Try.isAgg28 Try.sizeOf28 e19) ?_
                          refine lex.op (hC.lit (s := (.pr (.int .i64) (.pr (.int .i64) (.int .i64)))) (vs := [.agg #[.int .i64 y353.2.2.1, .int .i64 y353.2.2.2.1, .int .i64 y353.2.2.2.2.1]]) (xs := [(y353.2.2.1, y353.2.2.2.1, y353.2.2.2.2.1)]) Try.underlying44 Try.type28 rfl rfl (Nat.le_of_ble_eq_true rfl) rfl rfl (by simp [Value.cells, Sh.n]) rfl (show Elems _ _ (.pr (.int .i64) (.pr (.int .i64) (.int .i64))) ([.int .i64 y353.2.2.1, .int .i64 y353.2.2.2.1, .int .i64 y353.2.2.2.2.1] ++ ([])) ([(y353.2.2.1, y353.2.2.2.1, y353.2.2.2.2.1)] : List (Int × (Int × Int))) from Elems.cons (⟨[.int .i64 y353.2.2.1], [.int .i64 y353.2.2.2.1, .int .i64 y353.2.2.2.2.1], rfl, ⟨rfl, I64.wr hr360⟩, ⟨[.int .i64 y353.2.2.2.1], [.int .i64 y353.2.2.2.2.1], rfl, ⟨rfl, I64.wr hr361⟩, ⟨rfl, I64.wr hr362⟩⟩⟩) (Elems.nil _ _ _))) ?_
                          rintro _ w382 ⟨A378, c379, rfl, hl380, hc381, hC, hF, hN⟩
                          clear hF hN
                          refine lex.pure (v := .slice Al9_1 l9_1.length cl9_1) (pu_move e9) ?_
                          obtain ⟨u384, h385, hb⟩ := bd hb
                          refine lex.op (hC.app (i := 0) (s := (.pr (.int .i64) (.pr (.int .i64) (.int .i64)))) (xs := ([(y353.2.2.1, y353.2.2.2.1, y353.2.2.2.2.1)] : List (Int × (Int × Int)))) (ys := l9_1) (m := l9_1.length) rfl Try.underlying44 Try.underlying44 Try.type28 rfl rfl rfl (hC.srco (i := 8) rfl) rfl rfl (by have := lim_some h385; simp at this ⊢; omega) (by decide)) ?_
                          rintro _ w390 ⟨A386, c387, rfl, hl388, hc389, hC, hF, hN⟩
                          clear hF hN
                          refine lex.pure (v := .slice A386 ((([(y353.2.2.1, y353.2.2.2.1, y353.2.2.2.2.1)] : List (Int × (Int × Int))) ++ l9_1).length) c387) (pu_assign rfl) ?_
                          refine lex.nil ?_
                          refine hK118 _ _ ?_
                          refine Wc.region (by decide +kernel) ?_
                          refine lex.pure (v := .int .i64 v17_1) (pu_move e17) ?_
                          obtain ⟨z391, h392, hb⟩ := bd hb
                          refine lex.pure (v := .int .i64 z391) (pu_addc (a := v17_1) (b := 1) rfl rfl h392) ?_
                          refine lex.pure (v := .int .i64 z391) (pu_assign rfl) ?_
                          refine lex.nil ?_
                          obtain rfl := Option.some.inj hb
                          exact hK108 m110' _ _ (Nat.lt_succ_self _) ⟨(([(y353.2.2.1, y353.2.2.2.1, y353.2.2.2.2.1)] : List (Int × (Int × Int))) ++ l9_1), v15_1, v16_1, z391, y353.1, y353.2.1, A386, (([(y353.2.2.1, y353.2.2.2.1, y353.2.2.2.2.1)] : List (Int × (Int × Int))) ++ l9_1).length, c387, A356, y353.2.1.length, c358, e2, e6, e7, e8, rfl, e11, e12, e13, e14, e15, e16, rfl, hrv15_1, hrv16_1, (chk_rng h392), hr355, hC.sel [4, 5, 6, 7, 0, 9, 10, 11, 1] (by decide), lN hl1⟩
                · replace hb := (cF hq117).symm.trans hb
                  refine Wc.exit rfl ?_
                  obtain rfl := Option.some.inj hb
                  obtain rfl := lX hl1
                  exact hK107 _ _ ⟨l9_1, v15_1, v16_1, v17_1, bf100_0_1, kf100_1_1, Al9_1, l9_1.length, cl9_1, Akf100_1_1, kf100_1_1.length, ckf100_1_1, e6, e7, e9, e11, e12, e13, e14, e15, e16, hrv15_1, hrv16_1, hrv17_1, hrbf100_0_1, hC.sel [1, 2, 4, 5, 6, 7, 8] (by decide), hbK1⟩
              · replace hb := (cF hq116).symm.trans hb
                refine lex.gskip (want_f rfl rfl (show _ = Value.bool (decide (v17_1 < (l_2.length : Int))) from rfl) hq116) ?_
                refine lex.gskip (want_f rfl rfl (show _ = Value.bool (decide (v17_1 < (l_2.length : Int))) from rfl) hq116) ?_
                refine lex.pure (v := .bool false) (pu_pickF (q := (decide (v17_1 < (l_2.length : Int)))) rfl hq116 rfl) ?_
                refine lex.nil ?_
                refine hK115 _ _ ?_
                refine Wc.cond_false (rfl) ?_
                refine Wc.exit rfl ?_
                obtain rfl := Option.some.inj hb
                obtain rfl := lX hl1
                exact hK107 _ _ ⟨l9_1, v15_1, v16_1, v17_1, bf100_0_1, kf100_1_1, Al9_1, l9_1.length, cl9_1, Akf100_1_1, kf100_1_1.length, ckf100_1_1, e6, e7, e9, e11, e12, e13, e14, e15, e16, hrv15_1, hrv16_1, hrv17_1, hrbf100_0_1, hC.sel [1, 2, 4, 5, 6, 7, 8] (by decide), hbK1⟩
            · clear hb hC hl1
              rintro E394 w393 ⟨l9_1, v15_1, v16_1, v17_1, bf100_0_1, kf100_1_1, Al9_1, ml9_1, cl9_1, Akf100_1_1, mkf100_1_1, ckf100_1_1, e6, e7, e9, e11, e12, e13, e14, e15, e16, hrv15_1, hrv16_1, hrv17_1, hrbf100_0_1, hC, hb⟩
              obtain ⟨rfl, hll9_1, hcl9_1⟩ := (hC.ow (i := 2) rfl).sl_len
              obtain ⟨rfl, hlkf100_1_1, hckf100_1_1⟩ := (hC.rd (i := 6) rfl).sl_len
              refine hK102 _ _ ?_
              refine Wc.seq fun K395 hK395 => ?_
              refine Wc.seq fun K396 hK396 => ?_
              refine Wc.region (by decide +kernel) ?_
              refine lex.pure (v := .int .i64 y70.2.2.2) (pu_move e13) ?_
              refine lex.pure (v := .int .i64 v16_1) (pu_move e16) ?_
              refine lex.pure (v := .bool (!(decide (y70.2.2.2 = v16_1)))) (pu_neq (k := .i64) (a := y70.2.2.2) (b := v16_1) rfl rfl) ?_
              refine lex.pure (v := .bool (!(decide (y70.2.2.2 = v16_1)))) (pu_move rfl) ?_
              rcases bS (!(decide (y70.2.2.2 = v16_1))) with hq397 | hq397
              · replace hb := (cT hq397).symm.trans hb
                refine lex.gskip (want_f rfl rfl (show _ = Value.bool (!(decide (y70.2.2.2 = v16_1))) from rfl) hq397) ?_
                refine lex.gskip (want_f rfl rfl (show _ = Value.bool (!(decide (y70.2.2.2 = v16_1))) from rfl) hq397) ?_
                refine lex.gskip (want_f rfl rfl (show _ = Value.bool (!(decide (y70.2.2.2 = v16_1))) from rfl) hq397) ?_
                refine lex.pure (v := .bool true) (pu_pickT (q := (!(decide (y70.2.2.2 = v16_1)))) rfl hq397 rfl) ?_
                refine lex.pure (v := .bool true) (pu_move rfl) ?_
                refine lex.gskip (want_f rfl rfl (show _ = Value.bool true from rfl) rfl) ?_
                refine lex.gskip (want_f rfl rfl (show _ = Value.bool true from rfl) rfl) ?_
                refine lex.gskip (want_f rfl rfl (show _ = Value.bool true from rfl) rfl) ?_
                refine lex.gskip (want_f rfl rfl (show _ = Value.bool true from rfl) rfl) ?_
                refine lex.pure (v := .bool true) (pu_pickT (q := true) rfl rfl rfl) ?_
                refine lex.nil ?_
                refine hK396 _ _ ?_
                refine Wc.cond_true (rfl) ?_
                refine Wc.seq fun K398 hK398 => ?_
                refine Wc.region (by decide +kernel) ?_
                refine lex.pure (v := .bool false) (pu_assign rfl) ?_
                refine lex.nil ?_
                refine hK398 _ _ ?_
                obtain rfl := Option.some.inj hb
                refine Wc.ret ?_
                refine hKR _ _ ?_
                refine ⟨_, res1 Try.results6 (show RV _ _ _ (.tmp _) (.bool false) from rfl), _, rfl, rfl, hC.sel [] (by decide)⟩
              · replace hb := (cF hq397).symm.trans hb
                refine lex.gpure (want_t rfl rfl (show _ = Value.bool (!(decide (y70.2.2.2 = v16_1))) from rfl) hq397) (v := .int .i64 y70.2.2.1) (pu_move e12) ?_
                refine lex.gpure (want_t rfl rfl (show _ = Value.bool (!(decide (y70.2.2.2 = v16_1))) from rfl) hq397) (v := .int .i64 v15_1) (pu_move e15) ?_
                refine lex.gpure (want_t rfl rfl (show _ = Value.bool (!(decide (y70.2.2.2 = v16_1))) from rfl) hq397) (v := .bool (!(decide (y70.2.2.1 = v15_1)))) (pu_neq (k := .i64) (a := y70.2.2.1) (b := v15_1) rfl rfl) ?_
                refine lex.pure (v := .bool (!(decide (y70.2.2.1 = v15_1)))) (pu_pickF (q := (!(decide (y70.2.2.2 = v16_1)))) rfl hq397 rfl) ?_
                refine lex.pure (v := .bool (!(decide (y70.2.2.1 = v15_1)))) (pu_move rfl) ?_
                rcases bS (!(decide (y70.2.2.1 = v15_1))) with hq399 | hq399
                · replace hb := (cT hq399).symm.trans hb
                  refine lex.gskip (want_f rfl rfl (show _ = Value.bool (!(decide (y70.2.2.1 = v15_1))) from rfl) hq399) ?_
                  refine lex.gskip (want_f rfl rfl (show _ = Value.bool (!(decide (y70.2.2.1 = v15_1))) from rfl) hq399) ?_
                  refine lex.gskip (want_f rfl rfl (show _ = Value.bool (!(decide (y70.2.2.1 = v15_1))) from rfl) hq399) ?_
                  refine lex.gskip (want_f rfl rfl (show _ = Value.bool (!(decide (y70.2.2.1 = v15_1))) from rfl) hq399) ?_
                  refine lex.pure (v := .bool true) (pu_pickT (q := (!(decide (y70.2.2.1 = v15_1)))) rfl hq399 rfl) ?_
                  refine lex.nil ?_
                  refine hK396 _ _ ?_
                  refine Wc.cond_true (rfl) ?_
                  refine Wc.seq fun K400 hK400 => ?_
                  refine Wc.region (by decide +kernel) ?_
                  refine lex.pure (v := .bool false) (pu_assign rfl) ?_
                  refine lex.nil ?_
                  refine hK400 _ _ ?_
                  obtain rfl := Option.some.inj hb
                  refine Wc.ret ?_
                  refine hKR _ _ ?_
                  refine ⟨_, res1 Try.results6 (show RV _ _ _ (.tmp _) (.bool false) from rfl), _, rfl, rfl, hC.sel [] (by decide)⟩
                · replace hb := (cF hq399).symm.trans hb
                  refine lex.gval (want_t rfl rfl (show _ = Value.bool (!(decide (y70.2.2.1 = v15_1))) from rfl) hq399) (v := .agg #[.int .i64 y70.1, .slice A73 y70.2.1.length c75]) (ld_blk (hC.bx (i := 3) rfl) Try.isAgg27 Try.sizeOf27 e11) ?_
                  refine lex.gval (want_t rfl rfl (show _ = Value.bool (!(decide (y70.2.2.1 = v15_1))) from rfl) hq399) (v := .agg #[.int .i64 bf100_0_1, .slice Akf100_1_1 kf100_1_1.length ckf100_1_1]) (ld_blk (hC.bx (i := 5) rfl) Try.isAgg27 Try.sizeOf27 e14) ?_
                  obtain ⟨y401, h402, hb⟩ := bd hb
                  refine lex.gcl (want_t rfl rfl (show _ = Value.bool (!(decide (y70.2.2.1 = v15_1))) from rfl) hq399) (⟨_, _, op_call (vs := [.agg #[.int .i64 y70.1, .slice A73 y70.2.1.length c75], .agg #[.int .i64 bf100_0_1, .slice Akf100_1_1 kf100_1_1.length ckf100_1_1]]) Try.call16 rfl rfl rfl, law36_equal_ok n hC.lt hr72 (hC.rd (i := 4) rfl) hrbf100_0_1 (hC.rd (i := 6) rfl) h402⟩) ?_
                  rintro _ w403 ⟨rfl, hK⟩
                  replace hC := hC.merge hK
                  clear hK
                  refine lex.gpure (want_t rfl rfl (show _ = Value.bool (!(decide (y70.2.2.1 = v15_1))) from rfl) hq399) (v := .bool (!y401)) (pu_not (q := y401) rfl) ?_
                  refine lex.pure (v := .bool (!y401)) (pu_pickF (q := (!(decide (y70.2.2.1 = v15_1)))) rfl hq399 rfl) ?_
                  refine lex.nil ?_
                  refine hK396 _ _ ?_
                  refine Wc.cond (t := (!y401)) (rfl) (fun hq404 => ?_) (fun hq404 => ?_)
                  · replace hb := (cT hq404).symm.trans hb
                    refine Wc.seq fun K405 hK405 => ?_
                    refine Wc.region (by decide +kernel) ?_
                    refine lex.pure (v := .bool false) (pu_assign rfl) ?_
                    refine lex.nil ?_
                    refine hK405 _ _ ?_
                    obtain rfl := Option.some.inj hb
                    refine Wc.ret ?_
                    refine hKR _ _ ?_
                    refine ⟨_, res1 Try.results6 (show RV _ _ _ (.tmp _) (.bool false) from rfl), _, rfl, rfl, hC.sel [] (by decide)⟩
                  · replace hb := (cF hq404).symm.trans hb
                    refine Wc.skip ?_
                    refine hK395 _ _ ?_
                    refine Wc.fresh fun E406 hE => ?_
                    have e6 : E406 6 = .bool false := (congrFun hE 6).trans e6
                    have e7 : E406 7 = .pointer (some ⟨g19, 0, none⟩) := (congrFun hE 7).trans e7
                    have e9 : E406 9 = .slice Al9_1 l9_1.length cl9_1 := (congrFun hE 9).trans e9
                    have e11 : E406 11 = .pointer (some ⟨g82, 0, none⟩) := (congrFun hE 11).trans e11
                    clear hE
                    refine Wc.seq fun K407 hK407 => ?_
                    refine Wc.region (by decide +kernel) ?_
                    refine lex.val (v := .agg #[.int .i64 y70.1, .slice A73 y70.2.1.length c75]) (ld_blk (hC.bx (i := 3) rfl) Try.isAgg27 Try.sizeOf27 e11) ?_
                    refine lex.pure (v := .slice Al9_1 l9_1.length cl9_1) (pu_move e9) ?_
                    replace hC := hC.freeze (i := 2) rfl (hC.own_new (i := 2) rfl)
                    obtain ⟨y408, h409, hb⟩ := bd hb
                    refine lex.cl (⟨_, _, op_call (vs := [.agg #[.int .i64 y70.1, .slice A73 y70.2.1.length c75], .slice Al9_1 l9_1.length cl9_1]) Try.call19 rfl rfl rfl, markov_Play_ok n hC.lt hr72 (hC.rd (i := 4) rfl) (hC.rd (i := 2) rfl) h409⟩) ?_
                    rintro _ w417 ⟨A411, m412, c413, rfl, hr410, hr415, hr416, hK⟩
                    replace hC := hC.merge hK
                    clear hK
                    obtain ⟨rfl, hl418, hc419⟩ := (hC.rd (i := 0) rfl).sl_len
                    refine lex.pure (v := .tuple #[.agg #[.int .i64 y408.1, .slice A411 y408.2.1.length c413], .int .i64 y408.2.2.1, .int .i64 y408.2.2.2]) (pu_move rfl) ?_
                    refine lex.pure (v := .agg #[.int .i64 y408.1, .slice A411 y408.2.1.length c413]) (pu_extract rfl rfl) ?_
                    refine lex.pure (v := .int .i64 y408.2.2.1) (pu_extract rfl rfl) ?_
                    refine lex.pure (v := .int .i64 y408.2.2.2) (pu_extract rfl rfl) ?_
                    refine lex.op (hC.alloc (cs := [.int .i64 0, .slice none 0 0]) Try.zeroValue27 rfl) ?_
                    rintro _ w421 ⟨g420, rfl, hC, hF, hG⟩
                    clear hG
                    refine lex.sk (hC.seta (i := 0) (ds := [.int .i64 y408.1, .slice A411 y408.2.1.length c413]) rfl Try.type27 rfl rfl rfl rfl rfl) ?_
                    rintro w423 ⟨hC, hF⟩
                    refine lex.pure (v := .int .i64 y408.2.2.1) (pu_assign rfl) ?_
                    refine lex.pure (v := .int .i64 y408.2.2.2) (pu_assign rfl) ?_
                    refine lex.nil ?_
                    refine hK407 _ _ ?_
                    refine Wc.fresh fun E424 hE => ?_
                    have e6 : E424 6 = .bool false := (congrFun hE 6).trans e6
                    have e7 : E424 7 = .pointer (some ⟨g19, 0, none⟩) := (congrFun hE 7).trans e7
                    have e9 : E424 9 = .slice Al9_1 l9_1.length cl9_1 := (congrFun hE 9).trans e9
                    have e21 : E424 21 = .pointer (some ⟨g420, 0, none⟩) := (congrFun hE 21).trans rfl
                    have e22 : E424 22 = .int .i64 y408.2.2.1 := (congrFun hE 22).trans rfl
                    have e23 : E424 23 = .int .i64 y408.2.2.2 := (congrFun hE 23).trans rfl
                    clear hE
                    refine Wc.seq fun K425 hK425 => ?_
                    refine Wc.region (by decide +kernel) ?_
                    refine lex.pure (v := .int .i64 y408.2.2.2) (pu_move e23) ?_
                    refine lex.pure (v := .bool (decide (y408.2.2.2 = 0))) (pu_eql (k := .i64) (a := y408.2.2.2) (b := 0) rfl rfl) ?_
                    refine lex.pure (v := .bool (decide (y408.2.2.2 = 0))) (pu_move rfl) ?_
                    rcases bS (decide (y408.2.2.2 = 0)) with hq426 | hq426
                    · replace hb := (cT hq426).symm.trans hb
                      refine lex.gpure (want_t rfl rfl (show _ = Value.bool (decide (y408.2.2.2 = 0)) from rfl) hq426) (v := .int .i64 y408.2.2.1) (pu_move e22) ?_
                      refine lex.gpure (want_t rfl rfl (show _ = Value.bool (decide (y408.2.2.2 = 0)) from rfl) hq426) (v := .slice Al9_1 l9_1.length cl9_1) (pu_move e9) ?_
                      refine lex.gpure (want_t rfl rfl (show _ = Value.bool (decide (y408.2.2.2 = 0)) from rfl) hq426) (v := .int .i64 (l9_1.length : Int)) (pu_len (A := Al9_1) (n := l9_1.length) (m := cl9_1) Try.underlying44 rfl) ?_
                      refine lex.gpure (want_t rfl rfl (show _ = Value.bool (decide (y408.2.2.2 = 0)) from rfl) hq426) (v := .bool (decide (y408.2.2.1 = (l9_1.length : Int)))) (pu_eql (k := .i64) (a := y408.2.2.1) (b := (l9_1.length : Int)) rfl rfl) ?_
                      refine lex.pure (v := .bool (decide (y408.2.2.1 = (l9_1.length : Int)))) (pu_pickT (q := (decide (y408.2.2.2 = 0))) rfl hq426 rfl) ?_
                      refine lex.pure (v := .bool (decide (y408.2.2.1 = (l9_1.length : Int)))) (pu_move rfl) ?_
                      rcases bS (decide (y408.2.2.1 = (l9_1.length : Int))) with hq427 | hq427
                      · replace hb := (cT hq427).symm.trans hb
                        refine lex.gval (want_t rfl rfl (show _ = Value.bool (decide (y408.2.2.1 = (l9_1.length : Int))) from rfl) hq427) (v := .agg #[.int .i64 y408.1, .slice A411 y408.2.1.length c413]) (ld_blk (hC.bx (i := 0) rfl) Try.isAgg27 Try.sizeOf27 e21) ?_
                        refine lex.gval (want_t rfl rfl (show _ = Value.bool (decide (y408.2.2.1 = (l9_1.length : Int))) from rfl) hq427) (v := .agg #[.int .i64 strands_0, .slice Aword_1 word_1.length cword_1]) (ld_blk (hC.bx (i := 2) rfl) Try.isAgg27 Try.sizeOf27 e7) ?_
                        obtain ⟨y428, h429, hb⟩ := bd hb
                        refine lex.gcl (want_t rfl rfl (show _ = Value.bool (decide (y408.2.2.1 = (l9_1.length : Int))) from rfl) hq427) (⟨_, _, op_call (vs := [.agg #[.int .i64 y408.1, .slice A411 y408.2.1.length c413], .agg #[.int .i64 strands_0, .slice Aword_1 word_1.length cword_1]]) Try.call16 rfl rfl rfl, law36_equal_ok n hC.lt hr410 (hC.rd (i := 1) rfl) hstrands_0 (hC.rd (i := 3) rfl) h429⟩) ?_
                        rintro _ w430 ⟨rfl, hK⟩
                        replace hC := hC.merge hK
                        clear hK
                        refine lex.pure (v := .bool y428) (pu_pickT (q := (decide (y408.2.2.1 = (l9_1.length : Int)))) rfl hq427 rfl) ?_
                        refine lex.pure (v := .bool y428) (pu_assign rfl) ?_
                        refine lex.nil ?_
                        refine hK425 _ _ ?_
                        obtain rfl := Option.some.inj hb
                        refine Wc.ret ?_
                        refine hKR _ _ ?_
                        refine ⟨_, res1 Try.results6 (show RV _ _ _ (.tmp _) (.bool y428) from rfl), _, rfl, rfl, hC.sel [] (by decide)⟩
                      · replace hb := (cF hq427).symm.trans hb
                        refine lex.gskip (want_f rfl rfl (show _ = Value.bool (decide (y408.2.2.1 = (l9_1.length : Int))) from rfl) hq427) ?_
                        refine lex.gskip (want_f rfl rfl (show _ = Value.bool (decide (y408.2.2.1 = (l9_1.length : Int))) from rfl) hq427) ?_
                        refine lex.gskip (want_f rfl rfl (show _ = Value.bool (decide (y408.2.2.1 = (l9_1.length : Int))) from rfl) hq427) ?_
                        refine lex.pure (v := .bool false) (pu_pickF (q := (decide (y408.2.2.1 = (l9_1.length : Int)))) rfl hq427 rfl) ?_
                        refine lex.pure (v := .bool false) (pu_assign rfl) ?_
                        refine lex.nil ?_
                        refine hK425 _ _ ?_
                        obtain rfl := Option.some.inj hb
                        refine Wc.ret ?_
                        refine hKR _ _ ?_
                        refine ⟨_, res1 Try.results6 (show RV _ _ _ (.tmp _) (.bool false) from rfl), _, rfl, rfl, hC.sel [] (by decide)⟩
                    · replace hb := (cF hq426).symm.trans hb
                      refine lex.gskip (want_f rfl rfl (show _ = Value.bool (decide (y408.2.2.2 = 0)) from rfl) hq426) ?_
                      refine lex.gskip (want_f rfl rfl (show _ = Value.bool (decide (y408.2.2.2 = 0)) from rfl) hq426) ?_
                      refine lex.gskip (want_f rfl rfl (show _ = Value.bool (decide (y408.2.2.2 = 0)) from rfl) hq426) ?_
                      refine lex.gskip (want_f rfl rfl (show _ = Value.bool (decide (y408.2.2.2 = 0)) from rfl) hq426) ?_
                      refine lex.pure (v := .bool false) (pu_pickF (q := (decide (y408.2.2.2 = 0))) rfl hq426 rfl) ?_
                      refine lex.pure (v := .bool false) (pu_move rfl) ?_
                      refine lex.gskip (want_f rfl rfl (show _ = Value.bool false from rfl) rfl) ?_
                      refine lex.gskip (want_f rfl rfl (show _ = Value.bool false from rfl) rfl) ?_
                      refine lex.gskip (want_f rfl rfl (show _ = Value.bool false from rfl) rfl) ?_
                      refine lex.pure (v := .bool false) (pu_pickF (q := false) rfl rfl rfl) ?_
                      refine lex.pure (v := .bool false) (pu_assign rfl) ?_
                      refine lex.nil ?_
                      refine hK425 _ _ ?_
                      obtain rfl := Option.some.inj hb
                      refine Wc.ret ?_
                      refine hKR _ _ ?_
                      refine ⟨_, res1 Try.results6 (show RV _ _ _ (.tmp _) (.bool false) from rfl), _, rfl, rfl, hC.sel [] (by decide)⟩
end Go.Proofs.Ytkjpldmelafooaa
