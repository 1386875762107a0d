/- The walks: part 4. -/
import Derived.Test.YtkeaonceaaafcaaS
import Derived.Test.YtkeaonceaaafcaaG3
set_option linter.unusedVariables false
set_option linter.unusedSimpArgs false
namespace Go.Proofs.Ytkeaonceaaafcaa
open Ev
set_option maxRecDepth 100000 in
set_option maxHeartbeats 4000000 in
theorem law34_awake_ok (n : Nat) {w : World} {O0 : List Nat} (hO : ∀ k ∈ O0, k < w.heap.size)  {r : Bool} (hb : F.law34_awake n = some r) :
    Calls Try.prog 12 #[] w fun e w' => ∃ v, e = .returned v ∧ v = .bool r ∧ Cx (fun _ => False) O0 w w' [] := by
  unfold F.law34_awake at hb
  have hC := Cx.start hO
  clear hO
  refine calls_of_Wc Try.func12 rfl (by rw [Try.ntmps12]; exact Nat.le_of_ble_eq_true rfl) fun KR hKR => ?_
  refine Wc.seq fun K1 hK1 => ?_
  refine Wc.region (by decide +kernel) ?_
  refine lex.pure (v := .bool false) (pu_assign rfl) ?_
  refine lex.nil ?_
  refine hK1 _ _ ?_
  refine Wc.seq fun K2 hK2 => ?_
  refine Wc.region (by decide +kernel) ?_
  refine lex.op (hC.lit (s := (.int .i64)) (vs := [.int .i64 1, .int .i64 2, .int .i64 1]) (xs := [1, 2, 1]) Try.underlying22 Try.type3 rfl rfl (Nat.le_of_ble_eq_true rfl) rfl rfl (by simp [Value.cells, Sh.n]) rfl (show Elems _ _ (.int .i64) ([.int .i64 1] ++ ([.int .i64 2] ++ ([.int .i64 1] ++ ([])))) ([1, 2, 1] : List Int) from Elems.cons (⟨rfl, I64.wr (show I64 1 from by unfold I64; omega)⟩) (Elems.cons (⟨rfl, I64.wr (show I64 2 from by unfold I64; omega)⟩) (Elems.cons (⟨rfl, I64.wr (show I64 1 from by unfold I64; omega)⟩) (Elems.nil _ _ _))))) ?_
  rintro _ w7 ⟨A3, c4, rfl, hl5, hc6, hC, hF, hN⟩
  clear hF hN
  refine lex.pure (v := .agg #[.int .i64 3, .slice A3 ((([1, 2, 1] : List Int)).length) c4]) (pu_builds (places := [(0, 1), (1, 1)]) (pv := [(0, .int .i64 3), (1, .slice A3 ((([1, 2, 1] : List Int)).length) c4)]) Try.type24 Try.underlying24 rfl (mp_cons Try.type3 (mp_cons Try.type22 mp_nil rfl rfl) rfl rfl) rfl (by simp [Instr.fill, Value.cells])) ?_
  replace hC := hC.freeze (i := 0) rfl (hC.own_new (i := 0) rfl)
  obtain ⟨y9, h10, hb⟩ := bd hb
  refine lex.cl (⟨_, _, op_call (vs := [.agg #[.int .i64 3, .slice A3 ((([1, 2, 1] : List Int)).length) c4]]) Try.call13 rfl rfl rfl, garside_Form_ok n hC.lt (show I64 3 from by unfold I64; omega) (hC.rd (i := 0) rfl) h10⟩) ?_
  rintro _ w18 ⟨A13, m14, c15, rfl, hr11, hr12, hr17, hK⟩
  replace hC := hC.merge hK
  clear hK
  obtain ⟨rfl, hl19, hc20⟩ := (hC.rd (i := 0) rfl).sl_len
  refine lex.pure (v := .tuple #[.agg #[.int .i64 y9.1, .int .i64 y9.2.1, .slice A13 y9.2.2.1.length c15], .int .i64 y9.2.2.2]) (pu_move rfl) ?_
  refine lex.pure (v := .agg #[.int .i64 y9.1, .int .i64 y9.2.1, .slice A13 y9.2.2.1.length c15]) (pu_extract rfl rfl) ?_
  refine lex.pure (v := .int .i64 y9.2.2.2) (pu_extract rfl rfl) ?_
  refine lex.op (hC.alloc (cs := [.int .i64 0, .int .i64 0, .slice none 0 0]) Try.zeroValue28 rfl) ?_
  rintro _ w22 ⟨g21, rfl, hC, hF, hG⟩
  clear hG
  refine lex.sk (hC.seta (i := 0) (ds := [.int .i64 y9.1, .int .i64 y9.2.1, .slice A13 y9.2.2.1.length c15]) rfl Try.type28 rfl rfl rfl rfl rfl) ?_
  rintro w24 ⟨hC, hF⟩
  refine lex.pure (v := .int .i64 y9.2.2.2) (pu_assign rfl) ?_
  refine lex.nil ?_
  refine hK2 _ _ ?_
  refine Wc.seq fun K25 hK25 => ?_
  refine Wc.region (by decide +kernel) ?_
  refine lex.op (hC.lit (s := (.int .i64)) (vs := [.int .i64 2, .int .i64 1, .int .i64 2]) (xs := [2, 1, 2]) Try.underlying22 Try.type3 rfl rfl (Nat.le_of_ble_eq_true rfl) rfl rfl (by simp [Value.cells, Sh.n]) rfl (show Elems _ _ (.int .i64) ([.int .i64 2] ++ ([.int .i64 1] ++ ([.int .i64 2] ++ ([])))) ([2, 1, 2] : List Int) from Elems.cons (⟨rfl, I64.wr (show I64 2 from by unfold I64; omega)⟩) (Elems.cons (⟨rfl, I64.wr (show I64 1 from by unfold I64; omega)⟩) (Elems.cons (⟨rfl, I64.wr (show I64 2 from by unfold I64; omega)⟩) (Elems.nil _ _ _))))) ?_
  rintro _ w30 ⟨A26, c27, rfl, hl28, hc29, hC, hF, hN⟩
  clear hF hN
  refine lex.pure (v := .agg #[.int .i64 3, .slice A26 ((([2, 1, 2] : List Int)).length) c27]) (pu_builds (places := [(0, 1), (1, 1)]) (pv := [(0, .int .i64 3), (1, .slice A26 ((([2, 1, 2] : List Int)).length) c27)]) Try.type24 Try.underlying24 rfl (mp_cons Try.type3 (mp_cons Try.type22 mp_nil rfl rfl) rfl rfl) rfl (by simp [Instr.fill, Value.cells])) ?_
  replace hC := hC.freeze (i := 0) rfl (hC.own_new (i := 0) rfl)
  obtain ⟨y32, h33, hb⟩ := bd hb
  refine lex.cl (⟨_, _, op_call (vs := [.agg #[.int .i64 3, .slice A26 ((([2, 1, 2] : List Int)).length) c27]]) Try.call13 rfl rfl rfl, garside_Form_ok n hC.lt (show I64 3 from by unfold I64; omega) (hC.rd (i := 0) rfl) h33⟩) ?_
  rintro _ w41 ⟨A36, m37, c38, rfl, hr34, hr35, hr40, hK⟩
  replace hC := hC.merge hK
  clear hK
  obtain ⟨rfl, hl42, hc43⟩ := (hC.rd (i := 0) rfl).sl_len
  refine lex.pure (v := .tuple #[.agg #[.int .i64 y32.1, .int .i64 y32.2.1, .slice A36 y32.2.2.1.length c38], .int .i64 y32.2.2.2]) (pu_move rfl) ?_
  refine lex.pure (v := .agg #[.int .i64 y32.1, .int .i64 y32.2.1, .slice A36 y32.2.2.1.length c38]) (pu_extract rfl rfl) ?_
  refine lex.pure (v := .int .i64 y32.2.2.2) (pu_extract rfl rfl) ?_
  refine lex.op (hC.alloc (cs := [.int .i64 0, .int .i64 0, .slice none 0 0]) Try.zeroValue28 rfl) ?_
  rintro _ w45 ⟨g44, rfl, hC, hF, hG⟩
  clear hG
  refine lex.sk (hC.seta (i := 0) (ds := [.int .i64 y32.1, .int .i64 y32.2.1, .slice A36 y32.2.2.1.length c38]) rfl Try.type28 rfl rfl rfl rfl rfl) ?_
  rintro w47 ⟨hC, hF⟩
  refine lex.pure (v := .int .i64 y32.2.2.2) (pu_assign rfl) ?_
  refine lex.nil ?_
  refine hK25 _ _ ?_
  refine Wc.fresh fun E48 hE => ?_
  have e0 : E48 0 = .bool false := (congrFun hE 0).trans rfl
  have e1 : E48 1 = .pointer (some ⟨g21, 0, none⟩) := (congrFun hE 1).trans rfl
  have e2 : E48 2 = .int .i64 y9.2.2.2 := (congrFun hE 2).trans rfl
  have e3 : E48 3 = .pointer (some ⟨g44, 0, none⟩) := (congrFun hE 3).trans rfl
  have e4 : E48 4 = .int .i64 y32.2.2.2 := (congrFun hE 4).trans rfl
  clear hE
  refine Wc.seq fun K49 hK49 => ?_
  refine Wc.region (by decide +kernel) ?_
  refine lex.pure (v := .int .i64 y9.2.2.2) (pu_move e2) ?_
  refine lex.pure (v := .bool (decide (y9.2.2.2 = 0))) (pu_eql (k := .i64) (a := y9.2.2.2) (b := 0) rfl rfl) ?_
  refine lex.pure (v := .bool (decide (y9.2.2.2 = 0))) (pu_move rfl) ?_
  rcases bS (decide (y9.2.2.2 = 0)) with hq50 | hq50
  · replace hb := (cT hq50).symm.trans hb
    refine lex.gpure (want_t rfl rfl (show _ = Value.bool (decide (y9.2.2.2 = 0)) from rfl) hq50) (v := .int .i64 y32.2.2.2) (pu_move e4) ?_
    refine lex.gpure (want_t rfl rfl (show _ = Value.bool (decide (y9.2.2.2 = 0)) from rfl) hq50) (v := .bool (decide (y32.2.2.2 = 0))) (pu_eql (k := .i64) (a := y32.2.2.2) (b := 0) rfl rfl) ?_
    refine lex.pure (v := .bool (decide (y32.2.2.2 = 0))) (pu_pickT (q := (decide (y9.2.2.2 = 0))) rfl hq50 rfl) ?_
    refine lex.pure (v := .bool (decide (y32.2.2.2 = 0))) (pu_move rfl) ?_
    rcases bS (decide (y32.2.2.2 = 0)) with hq51 | hq51
    · replace hb := (cT hq51).symm.trans hb
      refine lex.gpure (want_t rfl rfl (show _ = Value.bool (decide (y32.2.2.2 = 0)) from rfl) hq51) (v := .pointer (some ((⟨g21, 0, none⟩ : Addr).add 1))) (pu_field (sz := 1) Try.underlying28 rfl Try.sizeOf3 (by decide) rfl e1) ?_
      refine lex.gval (want_t rfl rfl (show _ = Value.bool (decide (y32.2.2.2 = 0)) from rfl) hq51) (v := .int .i64 y9.2.1) (ld_fld (hC.bx (i := 3) rfl) Try.isAgg3 rfl rfl) ?_
      refine lex.gpure (want_t rfl rfl (show _ = Value.bool (decide (y32.2.2.2 = 0)) from rfl) hq51) (v := .bool (decide (y9.2.1 = 1))) (pu_eql (k := .i64) (a := y9.2.1) (b := 1) rfl rfl) ?_
      refine lex.pure (v := .bool (decide (y9.2.1 = 1))) (pu_pickT (q := (decide (y32.2.2.2 = 0))) rfl hq51 rfl) ?_
      refine lex.pure (v := .bool (decide (y9.2.1 = 1))) (pu_move rfl) ?_
      rcases bS (decide (y9.2.1 = 1)) with hq52 | hq52
      · replace hb := (cT hq52).symm.trans hb
        refine lex.gpure (want_t rfl rfl (show _ = Value.bool (decide (y9.2.1 = 1)) from rfl) hq52) (v := .pointer (some ((⟨g44, 0, none⟩ : Addr).add 1))) (pu_field (sz := 1) Try.underlying28 rfl Try.sizeOf3 (by decide) rfl e3) ?_
        refine lex.gval (want_t rfl rfl (show _ = Value.bool (decide (y9.2.1 = 1)) from rfl) hq52) (v := .int .i64 y32.2.1) (ld_fld (hC.bx (i := 0) rfl) Try.isAgg3 rfl rfl) ?_
        refine lex.gpure (want_t rfl rfl (show _ = Value.bool (decide (y9.2.1 = 1)) from rfl) hq52) (v := .bool (decide (y32.2.1 = 1))) (pu_eql (k := .i64) (a := y32.2.1) (b := 1) rfl rfl) ?_
        refine lex.pure (v := .bool (decide (y32.2.1 = 1))) (pu_pickT (q := (decide (y9.2.1 = 1))) rfl hq52 rfl) ?_
        refine lex.pure (v := .bool (decide (y32.2.1 = 1))) (pu_move rfl) ?_
        rcases bS (decide (y32.2.1 = 1)) with hq53 | hq53
        · replace hb := (cT hq53).symm.trans hb
          refine lex.gpure (want_t rfl rfl (show _ = Value.bool (decide (y32.2.1 = 1)) from rfl) hq53) (v := .pointer (some ((⟨g21, 0, none⟩ : Addr).add 2))) (pu_field (sz := 1) Try.underlying28 rfl Try.sizeOf26 (by decide) rfl e1) ?_
          refine lex.gval (want_t rfl rfl (show _ = Value.bool (decide (y32.2.1 = 1)) from rfl) hq53) (v := .slice A13 y9.2.2.1.length c15) (ld_fld (hC.bx (i := 3) rfl) Try.isAgg26 rfl rfl) ?_
          refine lex.gpure (want_t rfl rfl (show _ = Value.bool (decide (y32.2.1 = 1)) from rfl) hq53) (v := .int .i64 (y9.2.2.1.length : Int)) (pu_len (A := A13) (n := y9.2.2.1.length) (m := c15) Try.underlying26 rfl) ?_
          refine lex.gpure (want_t rfl rfl (show _ = Value.bool (decide (y32.2.1 = 1)) from rfl) hq53) (v := .bool (decide ((y9.2.2.1.length : Int) = 0))) (pu_eql (k := .i64) (a := (y9.2.2.1.length : Int)) (b := 0) rfl rfl) ?_
          refine lex.pure (v := .bool (decide ((y9.2.2.1.length : Int) = 0))) (pu_pickT (q := (decide (y32.2.1 = 1))) rfl hq53 rfl) ?_
          refine lex.pure (v := .bool (decide ((y9.2.2.1.length : Int) = 0))) (pu_move rfl) ?_
          rcases bS (decide ((y9.2.2.1.length : Int) = 0)) with hq54 | hq54
          · replace hb := (cT hq54).symm.trans hb
            refine lex.gpure (want_t rfl rfl (show _ = Value.bool (decide ((y9.2.2.1.length : Int) = 0)) from rfl) hq54) (v := .pointer (some ((⟨g44, 0, none⟩ : Addr).add 2))) (pu_field (sz := 1) Try.underlying28 rfl Try.sizeOf26 (by decide) rfl e3) ?_
            refine lex.gval (want_t rfl rfl (show _ = Value.bool (decide ((y9.2.2.1.length : Int) = 0)) from rfl) hq54) (v := .slice A36 y32.2.2.1.length c38) (ld_fld (hC.bx (i := 0) rfl) Try.isAgg26 rfl rfl) ?_
            refine lex.gpure (want_t rfl rfl (show _ = Value.bool (decide ((y9.2.2.1.length : Int) = 0)) from rfl) hq54) (v := .int .i64 (y32.2.2.1.length : Int)) (pu_len (A := A36) (n := y32.2.2.1.length) (m := c38) Try.underlying26 rfl) ?_
            refine lex.gpure (want_t rfl rfl (show _ = Value.bool (decide ((y9.2.2.1.length : Int) = 0)) from rfl) hq54) (v := .bool (decide ((y32.2.2.1.length : Int) = 0))) (pu_eql (k := .i64) (a := (y32.2.2.1.length : Int)) (b := 0) rfl rfl) ?_
            refine lex.pure (v := .bool (decide ((y32.2.2.1.length : Int) = 0))) (pu_pickT (q := (decide ((y9.2.2.1.length : Int) = 0))) rfl hq54 rfl) ?_
            refine lex.pure (v := .bool (decide ((y32.2.2.1.length : Int) = 0))) (pu_move rfl) ?_
            rcases bS (decide ((y32.2.2.1.length : Int) = 0)) with hq55 | hq55
            · replace hb := (cT hq55).symm.trans hb
              refine lex.gpure (want_t rfl rfl (show _ = Value.bool (decide ((y32.2.2.1.length : Int) = 0)) from rfl) hq55) (v := .pointer (some ((⟨g21, 0, none⟩ : Addr).add 0))) (pu_field (sz := 1) Try.underlying28 rfl Try.sizeOf3 (by decide) rfl e1) ?_
              refine lex.gval (want_t rfl rfl (show _ = Value.bool (decide ((y32.2.2.1.length : Int) = 0)) from rfl) hq55) (v := .int .i64 y9.1) (ld_fld (hC.bx (i := 3) rfl) Try.isAgg3 rfl rfl) ?_
              refine lex.gpure (want_t rfl rfl (show _ = Value.bool (decide ((y32.2.2.1.length : Int) = 0)) from rfl) hq55) (v := .bool (decide (y9.1 = 3))) (pu_eql (k := .i64) (a := y9.1) (b := 3) rfl rfl) ?_
              refine lex.pure (v := .bool (decide (y9.1 = 3))) (pu_pickT (q := (decide ((y32.2.2.1.length : Int) = 0))) rfl hq55 rfl) ?_
              refine lex.pure (v := .bool (decide (y9.1 = 3))) (pu_assign rfl) ?_
              refine lex.nil ?_
              refine hK49 _ _ ?_
              obtain rfl := Option.some.inj hb
              refine Wc.ret ?_
              refine hKR _ _ ?_
              refine ⟨_, res1 Try.results12 (show RV _ _ _ (.tmp _) (.bool (decide (y9.1 = 3))) from rfl), _, rfl, rfl, hC.sel [] (by decide)⟩
            · replace hb := (cF hq55).symm.trans hb
              refine lex.gskip (want_f rfl rfl (show _ = Value.bool (decide ((y32.2.2.1.length : Int) = 0)) from rfl) hq55) ?_
              refine lex.gskip (want_f rfl rfl (show _ = Value.bool (decide ((y32.2.2.1.length : Int) = 0)) from rfl) hq55) ?_
              refine lex.gskip (want_f rfl rfl (show _ = Value.bool (decide ((y32.2.2.1.length : Int) = 0)) from rfl) hq55) ?_
              refine lex.pure (v := .bool false) (pu_pickF (q := (decide ((y32.2.2.1.length : Int) = 0))) rfl hq55 rfl) ?_
              refine lex.pure (v := .bool false) (pu_assign rfl) ?_
              refine lex.nil ?_
              refine hK49 _ _ ?_
              obtain rfl := Option.some.inj hb
              refine Wc.ret ?_
              refine hKR _ _ ?_
              refine ⟨_, res1 Try.results12 (show RV _ _ _ (.tmp _) (.bool false) from rfl), _, rfl, rfl, hC.sel [] (by decide)⟩
          · replace hb := (cF hq54).symm.trans hb
            refine lex.gskip (want_f rfl rfl (show _ = Value.bool (decide ((y9.2.2.1.length : Int) = 0)) from rfl) hq54) ?_
            refine lex.gskip (want_f rfl rfl (show _ = Value.bool (decide ((y9.2.2.1.length : Int) = 0)) from rfl) hq54) ?_
            refine lex.gskip (want_f rfl rfl (show _ = Value.bool (decide ((y9.2.2.1.length : Int) = 0)) from rfl) hq54) ?_
            refine lex.gskip (want_f rfl rfl (show _ = Value.bool (decide ((y9.2.2.1.length : Int) = 0)) from rfl) hq54) ?_
            refine lex.pure (v := .bool false) (pu_pickF (q := (decide ((y9.2.2.1.length : Int) = 0))) rfl hq54 rfl) ?_
            refine lex.pure (v := .bool false) (pu_move rfl) ?_
            refine lex.gskip (want_f rfl rfl (show _ = Value.bool false from rfl) rfl) ?_
            refine lex.gskip (want_f rfl rfl (show _ = Value.bool false from rfl) rfl) ?_
            refine lex.gskip (want_f rfl rfl (show _ = Value.bool false from rfl) rfl) ?_
            refine lex.pure (v := .bool false) (pu_pickF (q := false) rfl rfl rfl) ?_
            refine lex.pure (v := .bool false) (pu_assign rfl) ?_
            refine lex.nil ?_
            refine hK49 _ _ ?_
            obtain rfl := Option.some.inj hb
            refine Wc.ret ?_
            refine hKR _ _ ?_
            refine ⟨_, res1 Try.results12 (show RV _ _ _ (.tmp _) (.bool false) from rfl), _, rfl, rfl, hC.sel [] (by decide)⟩
        · replace hb := (cF hq53).symm.trans hb
          refine lex.gskip (want_f rfl rfl (show _ = Value.bool (decide (y32.2.1 = 1)) from rfl) hq53) ?_
          refine lex.gskip (want_f rfl rfl (show _ = Value.bool (decide (y32.2.1 = 1)) from rfl) hq53) ?_
          refine lex.gskip (want_f rfl rfl (show _ = Value.bool (decide (y32.2.1 = 1)) from rfl) hq53) ?_
          refine lex.gskip (want_f rfl rfl (show _ = Value.bool (decide (y32.2.1 = 1)) from rfl) hq53) ?_
          refine lex.pure (v := .bool false) (pu_pickF (q := (decide (y32.2.1 = 1))) rfl hq53 rfl) ?_
          refine lex.pure (v := .bool false) (pu_move rfl) ?_
          refine lex.gskip (want_f rfl rfl (show _ = Value.bool false from rfl) rfl) ?_
          refine lex.gskip (want_f rfl rfl (show _ = Value.bool false from rfl) rfl) ?_
          refine lex.gskip (want_f rfl rfl (show _ = Value.bool false from rfl) rfl) ?_
          refine lex.gskip (want_f rfl rfl (show _ = Value.bool false from rfl) rfl) ?_
          refine lex.pure (v := .bool false) (pu_pickF (q := false) rfl rfl rfl) ?_
          refine lex.pure (v := .bool false) (pu_move rfl) ?_
          refine lex.gskip (want_f rfl rfl (show _ = Value.bool false from rfl) rfl) ?_
          refine lex.gskip (want_f rfl rfl (show _ = Value.bool false from rfl) rfl) ?_
          refine lex.gskip (want_f rfl rfl (show _ = Value.bool false from rfl) rfl) ?_
          refine lex.pure (v := .bool false) (pu_pickF (q := false) rfl rfl rfl) ?_
          refine lex.pure (v := .bool false) (pu_assign rfl) ?_
          refine lex.nil ?_
          refine hK49 _ _ ?_
          obtain rfl := Option.some.inj hb
          refine Wc.ret ?_
          refine hKR _ _ ?_
          refine ⟨_, res1 Try.results12 (show RV _ _ _ (.tmp _) (.bool false) from rfl), _, rfl, rfl, hC.sel [] (by decide)⟩
      · replace hb := (cF hq52).symm.trans hb
        refine lex.gskip (want_f rfl rfl (show _ = Value.bool (decide (y9.2.1 = 1)) from rfl) hq52) ?_
        refine lex.gskip (want_f rfl rfl (show _ = Value.bool (decide (y9.2.1 = 1)) from rfl) hq52) ?_
        refine lex.gskip (want_f rfl rfl (show _ = Value.bool (decide (y9.2.1 = 1)) from rfl) hq52) ?_
        refine lex.pure (v := .bool false) (pu_pickF (q := (decide (y9.2.1 = 1))) rfl hq52 rfl) ?_
        refine lex.pure (v := .bool false) (pu_move rfl) ?_
        refine lex.gskip (want_f rfl rfl (show _ = Value.bool false from rfl) rfl) ?_
        refine lex.gskip (want_f rfl rfl (show _ = Value.bool false from rfl) rfl) ?_
        refine lex.gskip (want_f rfl rfl (show _ = Value.bool false from rfl) rfl) ?_
        refine lex.gskip (want_f rfl rfl (show _ = Value.bool false from rfl) rfl) ?_
        refine lex.pure (v := .bool false) (pu_pickF (q := false) rfl rfl rfl) ?_
        refine lex.pure (v := .bool false) (pu_move rfl) ?_
        refine lex.gskip (want_f rfl rfl (show _ = Value.bool false from rfl) rfl) ?_
        refine lex.gskip (want_f rfl rfl (show _ = Value.bool false from rfl) rfl) ?_
        refine lex.gskip (want_f rfl rfl (show _ = Value.bool false from rfl) rfl) ?_
        refine lex.gskip (want_f rfl rfl (show _ = Value.bool false from rfl) rfl) ?_
        refine lex.pure (v := .bool false) (pu_pickF (q := false) rfl rfl rfl) ?_
        refine lex.pure (v := .bool false) (pu_move rfl) ?_
        refine lex.gskip (want_f rfl rfl (show _ = Value.bool false from rfl) rfl) ?_
        refine lex.gskip (want_f rfl rfl (show _ = Value.bool false from rfl) rfl) ?_
        refine lex.gskip (want_f rfl rfl (show _ = Value.bool false from rfl) rfl) ?_
        refine lex.pure (v := .bool false) (pu_pickF (q := false) rfl rfl rfl) ?_
        refine lex.pure (v := .bool false) (pu_assign rfl) ?_
        refine lex.nil ?_
        refine hK49 _ _ ?_
        obtain rfl := Option.some.inj hb
        refine Wc.ret ?_
        refine hKR _ _ ?_
        refine ⟨_, res1 Try.results12 (show RV _ _ _ (.tmp _) (.bool false) from rfl), _, rfl, rfl, hC.sel [] (by decide)⟩
    · replace hb := (cF hq51).symm.trans hb
      refine lex.gskip (want_f rfl rfl (show _ = Value.bool (decide (y32.2.2.2 = 0)) from rfl) hq51) ?_
      refine lex.gskip (want_f rfl rfl (show _ = Value.bool (decide (y32.2.2.2 = 0)) from rfl) hq51) ?_
      refine lex.gskip (want_f rfl rfl (show _ = Value.bool (decide (y32.2.2.2 = 0)) from rfl) hq51) ?_
      refine lex.pure (v := .bool false) (pu_pickF (q := (decide (y32.2.2.2 = 0))) rfl hq51 rfl) ?_
      refine lex.pure (v := .bool false) (pu_move rfl) ?_
      refine lex.gskip (want_f rfl rfl (show _ = Value.bool false from rfl) rfl) ?_
      refine lex.gskip (want_f rfl rfl (show _ = Value.bool false from rfl) rfl) ?_
      refine lex.gskip (want_f rfl rfl (show _ = Value.bool false from rfl) rfl) ?_
      refine lex.pure (v := .bool false) (pu_pickF (q := false) rfl rfl rfl) ?_
      refine lex.pure (v := .bool false) (pu_move rfl) ?_
      refine lex.gskip (want_f rfl rfl (show _ = Value.bool false from rfl) rfl) ?_
      refine lex.gskip (want_f rfl rfl (show _ = Value.bool false from rfl) rfl) ?_
      refine lex.gskip (want_f rfl rfl (show _ = Value.bool false from rfl) rfl) ?_
      refine lex.gskip (want_f rfl rfl (show _ = Value.bool false from rfl) rfl) ?_
      refine lex.pure (v := .bool false) (pu_pickF (q := false) rfl rfl rfl) ?_
      refine lex.pure (v := .bool false) (pu_move rfl) ?_
      refine lex.gskip (want_f rfl rfl (show _ = Value.bool false from rfl) rfl) ?_
      refine lex.gskip (want_f rfl rfl (show _ = Value.bool false from rfl) rfl) ?_
      refine lex.gskip (want_f rfl rfl (show _ = Value.bool false from rfl) rfl) ?_
      refine lex.gskip (want_f rfl rfl (show _ = Value.bool false from rfl) rfl) ?_
      refine lex.pure (v := .bool false) (pu_pickF (q := false) rfl rfl rfl) ?_
      refine lex.pure (v := .bool false) (pu_move rfl) ?_
      refine lex.gskip (want_f rfl rfl (show _ = Value.bool false from rfl) rfl) ?_
      refine lex.gskip (want_f rfl rfl (show _ = Value.bool false from rfl) rfl) ?_
      refine lex.gskip (want_f rfl rfl (show _ = Value.bool false from rfl) rfl) ?_
      refine lex.pure (v := .bool false) (pu_pickF (q := false) rfl rfl rfl) ?_
      refine lex.pure (v := .bool false) (pu_assign rfl) ?_
      refine lex.nil ?_
      refine hK49 _ _ ?_
      obtain rfl := Option.some.inj hb
      refine Wc.ret ?_
      refine hKR _ _ ?_
      refine ⟨_, res1 Try.results12 (show RV _ _ _ (.tmp _) (.bool false) from rfl), _, rfl, rfl, hC.sel [] (by decide)⟩
  · replace hb := (cF hq50).symm.trans hb
    refine lex.gskip (want_f rfl rfl (show _ = Value.bool (decide (y9.2.2.2 = 0)) from rfl) hq50) ?_
    refine lex.gskip (want_f rfl rfl (show _ = Value.bool (decide (y9.2.2.2 = 0)) from rfl) hq50) ?_
    refine lex.pure (v := .bool false) (pu_pickF (q := (decide (y9.2.2.2 = 0))) rfl hq50 rfl) ?_
    refine lex.pure (v := .bool false) (pu_move rfl) ?_
    refine lex.gskip (want_f rfl rfl (show _ = Value.bool false from rfl) rfl) ?_
    refine lex.gskip (want_f rfl rfl (show _ = Value.bool false from rfl) rfl) ?_
    refine lex.gskip (want_f rfl rfl (show _ = Value.bool false from rfl) rfl) ?_
    refine lex.pure (v := .bool false) (pu_pickF (q := false) rfl rfl rfl) ?_
    refine lex.pure (v := .bool false) (pu_move rfl) ?_
    refine lex.gskip (want_f rfl rfl (show _ = Value.bool false from rfl) rfl) ?_
    refine lex.gskip (want_f rfl rfl (show _ = Value.bool false from rfl) rfl) ?_
    refine lex.gskip (want_f rfl rfl (show _ = Value.bool false from rfl) rfl) ?_
    refine lex.pure (v := .bool false) (pu_pickF (q := false) rfl rfl rfl) ?_
    refine lex.pure (v := .bool false) (pu_move rfl) ?_
    refine lex.gskip (want_f rfl rfl (show _ = Value.bool false from rfl) rfl) ?_
    refine lex.gskip (want_f rfl rfl (show _ = Value.bool false from rfl) rfl) ?_
    refine lex.gskip (want_f rfl rfl (show _ = Value.bool false from rfl) rfl) ?_
    refine lex.gskip (want_f rfl rfl (show _ = Value.bool false from rfl) rfl) ?_
    refine lex.pure (v := .bool false) (pu_pickF (q := false) rfl rfl rfl) ?_
    refine lex.pure (v := .bool false) (pu_move rfl) ?_
    refine lex.gskip (want_f rfl rfl (show _ = Value.bool false from rfl) rfl) ?_
    refine lex.gskip (want_f rfl rfl (show _ = Value.bool false from rfl) rfl) ?_
    refine lex.gskip (want_f rfl rfl (show _ = Value.bool false from rfl) rfl) ?_
    refine lex.gskip (want_f rfl rfl (show _ = Value.bool false from rfl) rfl) ?_
    refine lex.pure (v := .bool false) (pu_pickF (q := false) rfl rfl rfl) ?_
    refine lex.pure (v := .bool false) (pu_move rfl) ?_
    refine lex.gskip (want_f rfl rfl (show _ = Value.bool false from rfl) rfl) ?_
    refine lex.gskip (want_f rfl rfl (show _ = Value.bool false from rfl) rfl) ?_
    refine lex.gskip (want_f rfl rfl (show _ = Value.bool false from rfl) rfl) ?_
    refine lex.pure (v := .bool false) (pu_pickF (q := false) rfl rfl rfl) ?_
    refine lex.pure (v := .bool false) (pu_assign rfl) ?_
    refine lex.nil ?_
    refine hK49 _ _ ?_
    obtain rfl := Option.some.inj hb
    refine Wc.ret ?_
    refine hKR _ _ ?_
    refine ⟨_, res1 Try.results12 (show RV _ _ _ (.tmp _) (.bool false) from rfl), _, rfl, rfl, hC.sel [] (by decide)⟩
end Go.Proofs.Ytkeaonceaaafcaa
