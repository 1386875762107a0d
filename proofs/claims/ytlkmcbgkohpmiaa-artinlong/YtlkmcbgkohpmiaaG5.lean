/- The walks: part 5. -/
import Derived.Test.YtlkmcbgkohpmiaaS
import Derived.Test.YtlkmcbgkohpmiaaG2
import Derived.Test.YtlkmcbgkohpmiaaG3
import Derived.Test.YtlkmcbgkohpmiaaG4
set_option linter.unusedVariables false
set_option linter.unusedSimpArgs false
namespace Go.Proofs.Ytlkmcbgkohpmiaa
open Ev
set_option maxRecDepth 100000 in
set_option maxHeartbeats 4000000 in
theorem law35_awake_ok (n : Nat) {w : World} {O0 : List Nat} (hO : ∀ k ∈ O0, k < w.heap.size)  {r : Bool} (hb : F.law35_awake n = some r) :
    Calls Try.prog 9 #[] w fun e w' => ∃ v, e = .returned v ∧ v = .bool r ∧ Cx (fun _ => False) O0 w w' [] := by
  unfold F.law35_awake at hb
  have hC := Cx.start hO
  clear hO
  refine calls_of_Wc Try.func9 rfl (by rw [Try.ntmps9]; exact Nat.le_of_ble_eq_true rfl) fun KR hKR => ?_
  refine Wc.seq fun K1 hK1 => ?_
  refine Wc.region (by decide +kernel) ?_
  refine lex.pure (v := .bool false) (pu_assign rfl) ?_
  refine lex.nil ?_
  refine hK1 _ _ ?_
  refine Wc.seq fun K2 hK2 => ?_
  refine Wc.region (by decide +kernel) ?_
  refine lex.op (hC.lit (s := (.int .i64)) (vs := [.int .i64 1]) (xs := [1]) Try.underlying22 Try.type3 rfl rfl (Nat.le_of_ble_eq_true rfl) rfl rfl (by simp [Value.cells, Sh.n]) rfl (show Elems _ _ (.int .i64) ([.int .i64 1] ++ ([])) ([1] : List Int) from Elems.cons (⟨rfl, I64.wr (show I64 1 from by unfold I64; omega)⟩) (Elems.nil _ _ _))) ?_
  rintro _ w7 ⟨A3, c4, rfl, hl5, hc6, hC, hF, hN⟩
  clear hF hN
  refine lex.pure (v := .agg #[.int .i64 2, .slice A3 ((([1] : List Int)).length) c4]) (pu_builds (places := [(0, 1), (1, 1)]) (pv := [(0, .int .i64 2), (1, .slice A3 ((([1] : List Int)).length) c4)]) Try.type24 Try.underlying24 rfl (mp_cons Try.type3 (mp_cons Try.type22 mp_nil rfl rfl) rfl rfl) rfl (by simp [Instr.fill, Value.cells])) ?_
  replace hC := hC.freeze (i := 0) rfl (hC.own_new (i := 0) rfl)
  obtain ⟨y9, h10, hb⟩ := bd hb
  refine lex.cl (⟨_, _, op_call (vs := [.agg #[.int .i64 2, .slice A3 ((([1] : List Int)).length) c4]]) Try.call17 rfl rfl rfl, artin_Images_ok n hC.lt (show I64 2 from by unfold I64; omega) (hC.rd (i := 0) rfl) h10⟩) ?_
  rintro _ w16 ⟨A11, m12, c13, rfl, hr15, hK⟩
  replace hC := hC.merge hK
  clear hK
  obtain ⟨rfl, hl17, hc18⟩ := (hC.ow (i := 0) rfl).sl_len
  refine lex.pure (v := .tuple #[.slice A11 y9.1.length c13, .int .i64 y9.2]) (pu_move rfl) ?_
  refine lex.pure (v := .slice A11 y9.1.length c13) (pu_extract rfl rfl) ?_
  refine lex.pure (v := .int .i64 y9.2) (pu_extract rfl rfl) ?_
  refine lex.pure (v := .slice A11 y9.1.length c13) (pu_assign rfl) ?_
  refine lex.pure (v := .int .i64 y9.2) (pu_assign rfl) ?_
  refine lex.nil ?_
  refine hK2 _ _ ?_
  refine Wc.seq fun K19 hK19 => ?_
  refine Wc.region (by decide +kernel) ?_
  refine lex.op (hC.lit (s := (.int .i64)) (vs := [.int .i64 1, .int .i64 1, .int .i64 1]) (xs := [1, 1, 1]) Try.underlying22 Try.type3 rfl rfl (Nat.le_of_ble_eq_true rfl) rfl rfl (by simp [Value.cells, Sh.n]) rfl (show Elems _ _ (.int .i64) ([.int .i64 1] ++ ([.int .i64 1] ++ ([.int .i64 1] ++ ([])))) ([1, 1, 1] : List Int) from Elems.cons (⟨rfl, I64.wr (show I64 1 from by unfold I64; omega)⟩) (Elems.cons (⟨rfl, I64.wr (show I64 1 from by unfold I64; omega)⟩) (Elems.cons (⟨rfl, I64.wr (show I64 1 from by unfold I64; omega)⟩) (Elems.nil _ _ _))))) ?_
  rintro _ w24 ⟨A20, c21, rfl, hl22, hc23, hC, hF, hN⟩
  clear hF hN
  refine lex.pure (v := .agg #[.int .i64 2, .slice A20 ((([1, 1, 1] : List Int)).length) c21]) (pu_builds (places := [(0, 1), (1, 1)]) (pv := [(0, .int .i64 2), (1, .slice A20 ((([1, 1, 1] : List Int)).length) c21)]) Try.type24 Try.underlying24 rfl (mp_cons Try.type3 (mp_cons Try.type22 mp_nil rfl rfl) rfl rfl) rfl (by simp [Instr.fill, Value.cells])) ?_
  replace hC := hC.freeze (i := 0) rfl (hC.own_new (i := 0) rfl)
  obtain ⟨y26, h27, hb⟩ := bd hb
  refine lex.cl (⟨_, _, op_call (vs := [.agg #[.int .i64 2, .slice A20 ((([1, 1, 1] : List Int)).length) c21]]) Try.call21 rfl rfl rfl, artin_Group_ok n hC.lt (show I64 2 from by unfold I64; omega) (hC.rd (i := 0) rfl) h27⟩) ?_
  rintro _ w38 ⟨A29, m30, c31, A33, m34, c35, rfl, hr28, hr37, hK⟩
  replace hC := hC.merge hK
  clear hK
  obtain ⟨rfl, hl39, hc40⟩ := (hC.ow (i := 0) rfl).sl_len
  obtain ⟨rfl, hl41, hc42⟩ := (hC.ow (i := 1) rfl).sl_len
  refine lex.pure (v := .tuple #[.agg #[.int .i64 y26.1, .slice A29 y26.2.1.length c31, .slice A33 y26.2.2.1.length c35], .int .i64 y26.2.2.2]) (pu_move rfl) ?_
  refine lex.pure (v := .agg #[.int .i64 y26.1, .slice A29 y26.2.1.length c31, .slice A33 y26.2.2.1.length c35]) (pu_extract rfl rfl) ?_
  refine lex.pure (v := .int .i64 y26.2.2.2) (pu_extract rfl rfl) ?_
  refine lex.op (hC.alloc (cs := [.int .i64 0, .slice none 0 0, .slice none 0 0]) Try.zeroValue48 rfl) ?_
  rintro _ w44 ⟨g43, rfl, hC, hF, hG⟩
  clear hG
  refine lex.sk (hC.seta (i := 0) (ds := [.int .i64 y26.1, .slice A29 y26.2.1.length c31, .slice A33 y26.2.2.1.length c35]) rfl Try.type48 rfl rfl rfl rfl rfl) ?_
  rintro w46 ⟨hC, hF⟩
  refine lex.pure (v := .int .i64 y26.2.2.2) (pu_assign rfl) ?_
  refine lex.nil ?_
  refine hK19 _ _ ?_
  refine Wc.fresh fun E47 hE => ?_
  have e0 : E47 0 = .bool false := (congrFun hE 0).trans rfl
  have e1 : E47 1 = .slice A11 y9.1.length c13 := (congrFun hE 1).trans rfl
  have e2 : E47 2 = .int .i64 y9.2 := (congrFun hE 2).trans rfl
  have e3 : E47 3 = .pointer (some ⟨g43, 0, none⟩) := (congrFun hE 3).trans rfl
  have e4 : E47 4 = .int .i64 y26.2.2.2 := (congrFun hE 4).trans rfl
  clear hE
  refine Wc.seq fun K48 hK48 => ?_
  refine Wc.region (by decide +kernel) ?_
  refine lex.pure (v := .int .i64 y9.2) (pu_move e2) ?_
  refine lex.pure (v := .bool (decide (y9.2 = 0))) (pu_eql (k := .i64) (a := y9.2) (b := 0) rfl rfl) ?_
  refine lex.pure (v := .bool (decide (y9.2 = 0))) (pu_move rfl) ?_
  rcases bS (decide (y9.2 = 0)) with hq49 | hq49
  · replace hb := (cT hq49).symm.trans hb
    refine lex.gpure (want_t rfl rfl (show _ = Value.bool (decide (y9.2 = 0)) from rfl) hq49) (v := .int .i64 y26.2.2.2) (pu_move e4) ?_
    refine lex.gpure (want_t rfl rfl (show _ = Value.bool (decide (y9.2 = 0)) from rfl) hq49) (v := .bool (decide (y26.2.2.2 = 0))) (pu_eql (k := .i64) (a := y26.2.2.2) (b := 0) rfl rfl) ?_
    refine lex.pure (v := .bool (decide (y26.2.2.2 = 0))) (pu_pickT (q := (decide (y9.2 = 0))) rfl hq49 rfl) ?_
    refine lex.pure (v := .bool (decide (y26.2.2.2 = 0))) (pu_move rfl) ?_
    rcases bS (decide (y26.2.2.2 = 0)) with hq50 | hq50
    · replace hb := (cT hq50).symm.trans hb
      refine lex.gpure (want_t rfl rfl (show _ = Value.bool (decide (y26.2.2.2 = 0)) from rfl) hq50) (v := .slice A11 y9.1.length c13) (pu_move e1) ?_
      refine lex.gpure (want_t rfl rfl (show _ = Value.bool (decide (y26.2.2.2 = 0)) from rfl) hq50) (v := .int .i64 (y9.1.length : Int)) (pu_len (A := A11) (n := y9.1.length) (m := c13) Try.underlying37 rfl) ?_
      refine lex.gpure (want_t rfl rfl (show _ = Value.bool (decide (y26.2.2.2 = 0)) from rfl) hq50) (v := .bool (decide ((y9.1.length : Int) = 2))) (pu_eql (k := .i64) (a := (y9.1.length : Int)) (b := 2) rfl rfl) ?_
      refine lex.pure (v := .bool (decide ((y9.1.length : Int) = 2))) (pu_pickT (q := (decide (y26.2.2.2 = 0))) rfl hq50 rfl) ?_
      refine lex.pure (v := .bool (decide ((y9.1.length : Int) = 2))) (pu_move rfl) ?_
      rcases bS (decide ((y9.1.length : Int) = 2)) with hq51 | hq51
      · replace hb := (cT hq51).symm.trans hb
        refine lex.gpure (want_t rfl rfl (show _ = Value.bool (decide ((y9.1.length : Int) = 2)) from rfl) hq51) (v := .slice A11 y9.1.length c13) (pu_move e1) ?_
        obtain ⟨x52, h53, hb⟩ := bd hb
        obtain ⟨ad54, cs55, hA, hc56, hr57⟩ := hC.elo (i := 4) rfl (get_some h53).2
        subst hA
        refine lex.gpure (want_t rfl rfl (show _ = Value.bool (decide ((y9.1.length : Int) = 2)) from rfl) hq51) (v := .pointer (some (ad54.add ((0 : Int).toNat * 1)))) (pu_index (a := 0) Try.underlying37 Try.sizeOf27 rfl rfl (get_some h53).1) ?_
        have hR := hr57
        obtain ⟨A58, c59, rfl, hl60, hc61, _⟩ := hr57
        replace hC := hC.ro hR
        clear hR
        refine lex.gval (want_t rfl rfl (show _ = Value.bool (decide ((y9.1.length : Int) = 2)) from rfl) hq51) (v := .slice A58 x52.length c59) (ld_one Try.isAgg27 rfl (hc56 0 _ rfl)) ?_
        refine lex.gop (want_t rfl rfl (show _ = Value.bool (decide ((y9.1.length : Int) = 2)) from rfl) hq51) (hC.lit (s := (.int .i64)) (vs := [.int .i64 1, .int .i64 2, .int .i64 (-1)]) (xs := [1, 2, (-1)]) Try.underlying27 Try.type3 rfl rfl (Nat.le_of_ble_eq_true rfl) rfl rfl (by simp [Value.cells, Sh.n]) rfl (show Elems _ _ (.int .i64) ([.int .i64 1] ++ ([.int .i64 2] ++ ([.int .i64 (-1)] ++ ([])))) ([1, 2, (-1)] : List Int) from Elems.cons (⟨rfl, I64.wr (show I64 1 from by unfold I64; omega)⟩) (Elems.cons (⟨rfl, I64.wr (show I64 2 from by unfold I64; omega)⟩) (Elems.cons (⟨rfl, I64.wr (show I64 (-1) from by unfold I64; omega)⟩) (Elems.nil _ _ _))))) ?_
        rintro _ w67 ⟨A63, c64, rfl, hl65, hc66, hC, hF, hN⟩
        clear hF hN
        obtain ⟨y69, h70, hb⟩ := bd hb
        refine lex.gcl (want_t rfl rfl (show _ = Value.bool (decide ((y9.1.length : Int) = 2)) from rfl) hq51) (⟨_, _, op_call (vs := [.slice A58 x52.length c59, .slice A63 ((([1, 2, (-1)] : List Int)).length) c64]) Try.call24 rfl rfl rfl, slices_Equal_Word_int_ok n (hC.lentLt [.slice A63 ((([1, 2, (-1)] : List Int)).length) c64]) ((hC.rd (i := 1) rfl).lent [.slice A63 ((([1, 2, (-1)] : List Int)).length) c64]) ((hC.ow (i := 0) rfl).lend (vs := [.slice A63 ((([1, 2, (-1)] : List Int)).length) c64]) (by simp)) h70⟩) ?_
        rintro _ w71 ⟨rfl, hK⟩
        replace hC := hC.mergeF hK rfl
        clear hK
        refine lex.pure (v := .bool y69) (pu_pickT (q := (decide ((y9.1.length : Int) = 2))) rfl hq51 rfl) ?_
        refine lex.pure (v := .bool y69) (pu_move rfl) ?_
        rcases bS y69 with hq72 | hq72
        · replace hb := (cT hq72).symm.trans hb
          refine lex.gpure (want_t rfl rfl (show _ = Value.bool y69 from rfl) hq72) (v := .slice (some ad54) y9.1.length c13) (pu_move e1) ?_
          obtain ⟨x73, h74, hb⟩ := bd hb
          obtain ⟨ad75, cs76, hA, hc77, hr78⟩ := hC.elo (i := 6) rfl (get_some h74).2
          obtain rfl := Option.some.inj hA
          refine lex.gpure (want_t rfl rfl (show _ = Value.bool y69 from rfl) hq72) (v := .pointer (some (ad54.add ((1 : Int).toNat * 1)))) (pu_index (a := 1) Try.underlying37 Try.sizeOf27 rfl rfl (get_some h74).1) ?_
          have hR := hr78
          obtain ⟨A79, c80, rfl, hl81, hc82, _⟩ := hr78
          replace hC := hC.ro hR
          clear hR
          refine lex.gval (want_t rfl rfl (show _ = Value.bool y69 from rfl) hq72) (v := .slice A79 x73.length c80) (ld_one Try.isAgg27 rfl (hc77 0 _ rfl)) ?_
          refine lex.gop (want_t rfl rfl (show _ = Value.bool y69 from rfl) hq72) (hC.lit (s := (.int .i64)) (vs := [.int .i64 1]) (xs := [1]) Try.underlying27 Try.type3 rfl rfl (Nat.le_of_ble_eq_true rfl) rfl rfl (by simp [Value.cells, Sh.n]) rfl (show Elems _ _ (.int .i64) ([.int .i64 1] ++ ([])) ([1] : List Int) from Elems.cons (⟨rfl, I64.wr (show I64 1 from by unfold I64; omega)⟩) (Elems.nil _ _ _))) ?_
          rintro _ w88 ⟨A84, c85, rfl, hl86, hc87, hC, hF, hN⟩
          clear hF hN
          obtain ⟨y90, h91, hb⟩ := bd hb
          refine lex.gcl (want_t rfl rfl (show _ = Value.bool y69 from rfl) hq72) (⟨_, _, op_call (vs := [.slice A79 x73.length c80, .slice A84 ((([1] : List Int)).length) c85]) Try.call24 rfl rfl rfl, slices_Equal_Word_int_ok n (hC.lentLt [.slice A84 ((([1] : List Int)).length) c85]) ((hC.rd (i := 1) rfl).lent [.slice A84 ((([1] : List Int)).length) c85]) ((hC.ow (i := 0) rfl).lend (vs := [.slice A84 ((([1] : List Int)).length) c85]) (by simp)) h91⟩) ?_
          rintro _ w92 ⟨rfl, hK⟩
          replace hC := hC.mergeF hK rfl
          clear hK
          refine lex.pure (v := .bool y90) (pu_pickT (q := y69) rfl hq72 rfl) ?_
          refine lex.pure (v := .bool y90) (pu_move rfl) ?_
          rcases bS y90 with hq93 | hq93
          · replace hb := (cT hq93).symm.trans hb
            refine lex.gpure (want_t rfl rfl (show _ = Value.bool y90 from rfl) hq93) (v := .pointer (some ((⟨g43, 0, none⟩ : Addr).add 2))) (pu_field (sz := 1) Try.underlying48 rfl Try.sizeOf37 (by decide) rfl e3) ?_
            refine lex.gval (want_t rfl rfl (show _ = Value.bool y90 from rfl) hq93) (v := .slice A33 y26.2.2.1.length c35) (ld_fld (hC.bx (i := 4) rfl) Try.isAgg37 rfl rfl) ?_
            refine lex.gpure (want_t rfl rfl (show _ = Value.bool y90 from rfl) hq93) (v := .int .i64 (y26.2.2.1.length : Int)) (pu_len (A := A33) (n := y26.2.2.1.length) (m := c35) Try.underlying37 rfl) ?_
            refine lex.gpure (want_t rfl rfl (show _ = Value.bool y90 from rfl) hq93) (v := .bool (decide ((y26.2.2.1.length : Int) = 2))) (pu_eql (k := .i64) (a := (y26.2.2.1.length : Int)) (b := 2) rfl rfl) ?_
            refine lex.pure (v := .bool (decide ((y26.2.2.1.length : Int) = 2))) (pu_pickT (q := y90) rfl hq93 rfl) ?_
            refine lex.pure (v := .bool (decide ((y26.2.2.1.length : Int) = 2))) (pu_move rfl) ?_
            rcases bS (decide ((y26.2.2.1.length : Int) = 2)) with hq94 | hq94
            · replace hb := (cT hq94).symm.trans hb
              refine lex.gpure (want_t rfl rfl (show _ = Value.bool (decide ((y26.2.2.1.length : Int) = 2)) from rfl) hq94) (v := .pointer (some ((⟨g43, 0, none⟩ : Addr).add 2))) (pu_field (sz := 1) Try.underlying48 rfl Try.sizeOf37 (by decide) rfl e3) ?_
              refine lex.gval (want_t rfl rfl (show _ = Value.bool (decide ((y26.2.2.1.length : Int) = 2)) from rfl) hq94) (v := .slice A33 y26.2.2.1.length c35) (ld_fld (hC.bx (i := 4) rfl) Try.isAgg37 rfl rfl) ?_
              obtain ⟨x95, h96, hb⟩ := bd hb
              obtain ⟨ad97, cs98, hA, hc99, hr100⟩ := hC.elo (i := 6) rfl (get_some h96).2
              subst hA
              refine lex.gpure (want_t rfl rfl (show _ = Value.bool (decide ((y26.2.2.1.length : Int) = 2)) from rfl) hq94) (v := .pointer (some (ad97.add ((1 : Int).toNat * 1)))) (pu_index (a := 1) Try.underlying37 Try.sizeOf27 rfl rfl (get_some h96).1) ?_
              have hR := hr100
              obtain ⟨A101, c102, rfl, hl103, hc104, _⟩ := hr100
              replace hC := hC.ro hR
              clear hR
              refine lex.gval (want_t rfl rfl (show _ = Value.bool (decide ((y26.2.2.1.length : Int) = 2)) from rfl) hq94) (v := .slice A101 x95.length c102) (ld_one Try.isAgg27 rfl (hc99 0 _ rfl)) ?_
              refine lex.gop (want_t rfl rfl (show _ = Value.bool (decide ((y26.2.2.1.length : Int) = 2)) from rfl) hq94) (hC.lit (s := (.int .i64)) (vs := [.int .i64 1, .int .i64 2, .int .i64 1, .int .i64 (-2), .int .i64 (-1), .int .i64 (-2)]) (xs := [1, 2, 1, (-2), (-1), (-2)]) Try.underlying27 Try.type3 rfl rfl (Nat.le_of_ble_eq_true rfl) rfl rfl (by simp [Value.cells, Sh.n]) rfl (show Elems _ _ (.int .i64) ([.int .i64 1] ++ ([.int .i64 2] ++ ([.int .i64 1] ++ ([.int .i64 (-2)] ++ ([.int .i64 (-1)] ++ ([.int .i64 (-2)] ++ ([]))))))) ([1, 2, 1, (-2), (-1), (-2)] : List Int) from Elems.cons (⟨rfl, I64.wr (show I64 1 from by unfold I64; omega)⟩) (Elems.cons (⟨rfl, I64.wr (show I64 2 from by unfold I64; omega)⟩) (Elems.cons (⟨rfl, I64.wr (show I64 1 from by unfold I64; omega)⟩) (Elems.cons (⟨rfl, I64.wr (show I64 (-2) from by unfold I64; omega)⟩) (Elems.cons (⟨rfl, I64.wr (show I64 (-1) from by unfold I64; omega)⟩) (Elems.cons (⟨rfl, I64.wr (show I64 (-2) from by unfold I64; omega)⟩) (Elems.nil _ _ _)))))))) ?_
              rintro _ w110 ⟨A106, c107, rfl, hl108, hc109, hC, hF, hN⟩
              clear hF hN
              obtain ⟨y112, h113, hb⟩ := bd hb
              refine lex.gcl (want_t rfl rfl (show _ = Value.bool (decide ((y26.2.2.1.length : Int) = 2)) from rfl) hq94) (⟨_, _, op_call (vs := [.slice A101 x95.length c102, .slice A106 ((([1, 2, 1, (-2), (-1), (-2)] : List Int)).length) c107]) Try.call24 rfl rfl rfl, slices_Equal_Word_int_ok n (hC.lentLt [.slice A106 ((([1, 2, 1, (-2), (-1), (-2)] : List Int)).length) c107]) ((hC.rd (i := 1) rfl).lent [.slice A106 ((([1, 2, 1, (-2), (-1), (-2)] : List Int)).length) c107]) ((hC.ow (i := 0) rfl).lend (vs := [.slice A106 ((([1, 2, 1, (-2), (-1), (-2)] : List Int)).length) c107]) (by simp)) h113⟩) ?_
              rintro _ w114 ⟨rfl, hK⟩
              replace hC := hC.mergeF hK rfl
              clear hK
              refine lex.pure (v := .bool y112) (pu_pickT (q := (decide ((y26.2.2.1.length : Int) = 2))) rfl hq94 rfl) ?_
              refine lex.pure (v := .bool y112) (pu_assign rfl) ?_
              refine lex.nil ?_
              refine hK48 _ _ ?_
              obtain rfl := Option.some.inj hb
              refine Wc.ret ?_
              refine hKR _ _ ?_
              refine ⟨_, res1 Try.results9 (show RV _ _ _ (.tmp _) (.bool y112) from rfl), _, rfl, rfl, hC.sel [] (by decide)⟩
            · replace hb := (cF hq94).symm.trans hb
              refine lex.gskip (want_f rfl rfl (show _ = Value.bool (decide ((y26.2.2.1.length : Int) = 2)) from rfl) hq94) ?_
              refine lex.gskip (want_f rfl rfl (show _ = Value.bool (decide ((y26.2.2.1.length : Int) = 2)) from rfl) hq94) ?_
              refine lex.gskip (want_f rfl rfl (show _ = Value.bool (decide ((y26.2.2.1.length : Int) = 2)) from rfl) hq94) ?_
              refine lex.gskip (want_f rfl rfl (show _ = Value.bool (decide ((y26.2.2.1.length : Int) = 2)) from rfl) hq94) ?_
              refine lex.gskip (want_f rfl rfl (show _ = Value.bool (decide ((y26.2.2.1.length : Int) = 2)) from rfl) hq94) ?_
              refine lex.gskip (want_f rfl rfl (show _ = Value.bool (decide ((y26.2.2.1.length : Int) = 2)) from rfl) hq94) ?_
              refine lex.pure (v := .bool false) (pu_pickF (q := (decide ((y26.2.2.1.length : Int) = 2))) rfl hq94 rfl) ?_
              refine lex.pure (v := .bool false) (pu_assign rfl) ?_
              refine lex.nil ?_
              refine hK48 _ _ ?_
              obtain rfl := Option.some.inj hb
              refine Wc.ret ?_
              refine hKR _ _ ?_
              refine ⟨_, res1 Try.results9 (show RV _ _ _ (.tmp _) (.bool false) from rfl), _, rfl, rfl, hC.sel [] (by decide)⟩
          · replace hb := (cF hq93).symm.trans hb
            refine lex.gskip (want_f rfl rfl (show _ = Value.bool y90 from rfl) hq93) ?_
            refine lex.gskip (want_f rfl rfl (show _ = Value.bool y90 from rfl) hq93) ?_
            refine lex.gskip (want_f rfl rfl (show _ = Value.bool y90 from rfl) hq93) ?_
            refine lex.gskip (want_f rfl rfl (show _ = Value.bool y90 from rfl) hq93) ?_
            refine lex.pure (v := .bool false) (pu_pickF (q := y90) rfl hq93 rfl) ?_
            refine lex.pure (v := .bool false) (pu_move rfl) ?_
            refine lex.gskip (want_f rfl rfl (show _ = Value.bool false from rfl) rfl) ?_
            refine lex.gskip (want_f rfl rfl (show _ = Value.bool false from rfl) rfl) ?_
            refine lex.gskip (want_f rfl rfl (show _ = Value.bool false from rfl) rfl) ?_
            refine lex.gskip (want_f rfl rfl (show _ = Value.bool false from rfl) rfl) ?_
            refine lex.gskip (want_f rfl rfl (show _ = Value.bool false from rfl) rfl) ?_
            refine lex.gskip (want_f rfl rfl (show _ = Value.bool false from rfl) rfl) ?_
            refine lex.pure (v := .bool false) (pu_pickF (q := false) rfl rfl rfl) ?_
            refine lex.pure (v := .bool false) (pu_assign rfl) ?_
            refine lex.nil ?_
            refine hK48 _ _ ?_
            obtain rfl := Option.some.inj hb
            refine Wc.ret ?_
            refine hKR _ _ ?_
            refine ⟨_, res1 Try.results9 (show RV _ _ _ (.tmp _) (.bool false) from rfl), _, rfl, rfl, hC.sel [] (by decide)⟩
        · replace hb := (cF hq72).symm.trans hb
          refine lex.gskip (want_f rfl rfl (show _ = Value.bool y69 from rfl) hq72) ?_
          refine lex.gskip (want_f rfl rfl (show _ = Value.bool y69 from rfl) hq72) ?_
          refine lex.gskip (want_f rfl rfl (show _ = Value.bool y69 from rfl) hq72) ?_
          refine lex.gskip (want_f rfl rfl (show _ = Value.bool y69 from rfl) hq72) ?_
          refine lex.gskip (want_f rfl rfl (show _ = Value.bool y69 from rfl) hq72) ?_
          refine lex.pure (v := .bool false) (pu_pickF (q := y69) rfl hq72 rfl) ?_
          refine lex.pure (v := .bool false) (pu_move rfl) ?_
          refine lex.gskip (want_f rfl rfl (show _ = Value.bool false from rfl) rfl) ?_
          refine lex.gskip (want_f rfl rfl (show _ = Value.bool false from rfl) rfl) ?_
          refine lex.gskip (want_f rfl rfl (show _ = Value.bool false from rfl) rfl) ?_
          refine lex.gskip (want_f rfl rfl (show _ = Value.bool false from rfl) rfl) ?_
          refine lex.pure (v := .bool false) (pu_pickF (q := false) rfl rfl rfl) ?_
          refine lex.pure (v := .bool false) (pu_move rfl) ?_
          refine lex.gskip (want_f rfl rfl (show _ = Value.bool false from rfl) rfl) ?_
          refine lex.gskip (want_f rfl rfl (show _ = Value.bool false from rfl) rfl) ?_
          refine lex.gskip (want_f rfl rfl (show _ = Value.bool false from rfl) rfl) ?_
          refine lex.gskip (want_f rfl rfl (show _ = Value.bool false from rfl) rfl) ?_
          refine lex.gskip (want_f rfl rfl (show _ = Value.bool false from rfl) rfl) ?_
          refine lex.gskip (want_f rfl rfl (show _ = Value.bool false from rfl) rfl) ?_
          refine lex.pure (v := .bool false) (pu_pickF (q := false) rfl rfl rfl) ?_
          refine lex.pure (v := .bool false) (pu_assign rfl) ?_
          refine lex.nil ?_
          refine hK48 _ _ ?_
          obtain rfl := Option.some.inj hb
          refine Wc.ret ?_
          refine hKR _ _ ?_
          refine ⟨_, res1 Try.results9 (show RV _ _ _ (.tmp _) (.bool false) from rfl), _, rfl, rfl, hC.sel [] (by decide)⟩
      · replace hb := (cF hq51).symm.trans hb
        refine lex.gskip (want_f rfl rfl (show _ = Value.bool (decide ((y9.1.length : Int) = 2)) from rfl) hq51) ?_
        refine lex.gskip (want_f rfl rfl (show _ = Value.bool (decide ((y9.1.length : Int) = 2)) from rfl) hq51) ?_
        refine lex.gskip (want_f rfl rfl (show _ = Value.bool (decide ((y9.1.length : Int) = 2)) from rfl) hq51) ?_
        refine lex.gskip (want_f rfl rfl (show _ = Value.bool (decide ((y9.1.length : Int) = 2)) from rfl) hq51) ?_
        refine lex.gskip (want_f rfl rfl (show _ = Value.bool (decide ((y9.1.length : Int) = 2)) from rfl) hq51) ?_
        refine lex.pure (v := .bool false) (pu_pickF (q := (decide ((y9.1.length : Int) = 2))) rfl hq51 rfl) ?_
        refine lex.pure (v := .bool false) (pu_move rfl) ?_
        refine lex.gskip (want_f rfl rfl (show _ = Value.bool false from rfl) rfl) ?_
        refine lex.gskip (want_f rfl rfl (show _ = Value.bool false from rfl) rfl) ?_
        refine lex.gskip (want_f rfl rfl (show _ = Value.bool false from rfl) rfl) ?_
        refine lex.gskip (want_f rfl rfl (show _ = Value.bool false from rfl) rfl) ?_
        refine lex.gskip (want_f rfl rfl (show _ = Value.bool false from rfl) rfl) ?_
        refine lex.pure (v := .bool false) (pu_pickF (q := false) rfl rfl rfl) ?_
        refine lex.pure (v := .bool false) (pu_move rfl) ?_
        refine lex.gskip (want_f rfl rfl (show _ = Value.bool false from rfl) rfl) ?_
        refine lex.gskip (want_f rfl rfl (show _ = Value.bool false from rfl) rfl) ?_
        refine lex.gskip (want_f rfl rfl (show _ = Value.bool false from rfl) rfl) ?_
        refine lex.gskip (want_f rfl rfl (show _ = Value.bool false from rfl) rfl) ?_
        refine lex.pure (v := .bool false) (pu_pickF (q := false) rfl rfl rfl) ?_
        refine lex.pure (v := .bool false) (pu_move rfl) ?_
        refine lex.gskip (want_f rfl rfl (show _ = Value.bool false from rfl) rfl) ?_
        refine lex.gskip (want_f rfl rfl (show _ = Value.bool false from rfl) rfl) ?_
        refine lex.gskip (want_f rfl rfl (show _ = Value.bool false from rfl) rfl) ?_
        refine lex.gskip (want_f rfl rfl (show _ = Value.bool false from rfl) rfl) ?_
        refine lex.gskip (want_f rfl rfl (show _ = Value.bool false from rfl) rfl) ?_
        refine lex.gskip (want_f rfl rfl (show _ = Value.bool false from rfl) rfl) ?_
        refine lex.pure (v := .bool false) (pu_pickF (q := false) rfl rfl rfl) ?_
        refine lex.pure (v := .bool false) (pu_assign rfl) ?_
        refine lex.nil ?_
        refine hK48 _ _ ?_
        obtain rfl := Option.some.inj hb
        refine Wc.ret ?_
        refine hKR _ _ ?_
        refine ⟨_, res1 Try.results9 (show RV _ _ _ (.tmp _) (.bool false) from rfl), _, rfl, rfl, hC.sel [] (by decide)⟩
    · replace hb := (cF hq50).symm.trans hb
      refine lex.gskip (want_f rfl rfl (show _ = Value.bool (decide (y26.2.2.2 = 0)) from rfl) hq50) ?_
      refine lex.gskip (want_f rfl rfl (show _ = Value.bool (decide (y26.2.2.2 = 0)) from rfl) hq50) ?_
      refine lex.gskip (want_f rfl rfl (show _ = Value.bool (decide (y26.2.2.2 = 0)) from rfl) hq50) ?_
      refine lex.pure (v := .bool false) (pu_pickF (q := (decide (y26.2.2.2 = 0))) rfl hq50 rfl) ?_
      refine lex.pure (v := .bool false) (pu_move rfl) ?_
      refine lex.gskip (want_f rfl rfl (show _ = Value.bool false from rfl) rfl) ?_
      refine lex.gskip (want_f rfl rfl (show _ = Value.bool false from rfl) rfl) ?_
      refine lex.gskip (want_f rfl rfl (show _ = Value.bool false from rfl) rfl) ?_
      refine lex.gskip (want_f rfl rfl (show _ = Value.bool false from rfl) rfl) ?_
      refine lex.gskip (want_f rfl rfl (show _ = Value.bool false from rfl) rfl) ?_
      refine lex.pure (v := .bool false) (pu_pickF (q := false) rfl rfl rfl) ?_
      refine lex.pure (v := .bool false) (pu_move rfl) ?_
      refine lex.gskip (want_f rfl rfl (show _ = Value.bool false from rfl) rfl) ?_
      refine lex.gskip (want_f rfl rfl (show _ = Value.bool false from rfl) rfl) ?_
      refine lex.gskip (want_f rfl rfl (show _ = Value.bool false from rfl) rfl) ?_
      refine lex.gskip (want_f rfl rfl (show _ = Value.bool false from rfl) rfl) ?_
      refine lex.gskip (want_f rfl rfl (show _ = Value.bool false from rfl) rfl) ?_
      refine lex.pure (v := .bool false) (pu_pickF (q := false) rfl rfl rfl) ?_
      refine lex.pure (v := .bool false) (pu_move rfl) ?_
      refine lex.gskip (want_f rfl rfl (show _ = Value.bool false from rfl) rfl) ?_
      refine lex.gskip (want_f rfl rfl (show _ = Value.bool false from rfl) rfl) ?_
      refine lex.gskip (want_f rfl rfl (show _ = Value.bool false from rfl) rfl) ?_
      refine lex.gskip (want_f rfl rfl (show _ = Value.bool false from rfl) rfl) ?_
      refine lex.pure (v := .bool false) (pu_pickF (q := false) rfl rfl rfl) ?_
      refine lex.pure (v := .bool false) (pu_move rfl) ?_
      refine lex.gskip (want_f rfl rfl (show _ = Value.bool false from rfl) rfl) ?_
      refine lex.gskip (want_f rfl rfl (show _ = Value.bool false from rfl) rfl) ?_
      refine lex.gskip (want_f rfl rfl (show _ = Value.bool false from rfl) rfl) ?_
      refine lex.gskip (want_f rfl rfl (show _ = Value.bool false from rfl) rfl) ?_
      refine lex.gskip (want_f rfl rfl (show _ = Value.bool false from rfl) rfl) ?_
      refine lex.gskip (want_f rfl rfl (show _ = Value.bool false from rfl) rfl) ?_
      refine lex.pure (v := .bool false) (pu_pickF (q := false) rfl rfl rfl) ?_
      refine lex.pure (v := .bool false) (pu_assign rfl) ?_
      refine lex.nil ?_
      refine hK48 _ _ ?_
      obtain rfl := Option.some.inj hb
      refine Wc.ret ?_
      refine hKR _ _ ?_
      refine ⟨_, res1 Try.results9 (show RV _ _ _ (.tmp _) (.bool false) from rfl), _, rfl, rfl, hC.sel [] (by decide)⟩
  · replace hb := (cF hq49).symm.trans hb
    refine lex.gskip (want_f rfl rfl (show _ = Value.bool (decide (y9.2 = 0)) from rfl) hq49) ?_
    refine lex.gskip (want_f rfl rfl (show _ = Value.bool (decide (y9.2 = 0)) from rfl) hq49) ?_
    refine lex.pure (v := .bool false) (pu_pickF (q := (decide (y9.2 = 0))) rfl hq49 rfl) ?_
    refine lex.pure (v := .bool false) (pu_move rfl) ?_
    refine lex.gskip (want_f rfl rfl (show _ = Value.bool false from rfl) rfl) ?_
    refine lex.gskip (want_f rfl rfl (show _ = Value.bool false from rfl) rfl) ?_
    refine lex.gskip (want_f rfl rfl (show _ = Value.bool false from rfl) rfl) ?_
    refine lex.pure (v := .bool false) (pu_pickF (q := false) rfl rfl rfl) ?_
    refine lex.pure (v := .bool false) (pu_move rfl) ?_
    refine lex.gskip (want_f rfl rfl (show _ = Value.bool false from rfl) rfl) ?_
    refine lex.gskip (want_f rfl rfl (show _ = Value.bool false from rfl) rfl) ?_
    refine lex.gskip (want_f rfl rfl (show _ = Value.bool false from rfl) rfl) ?_
    refine lex.gskip (want_f rfl rfl (show _ = Value.bool false from rfl) rfl) ?_
    refine lex.gskip (want_f rfl rfl (show _ = Value.bool false from rfl) rfl) ?_
    refine lex.pure (v := .bool false) (pu_pickF (q := false) rfl rfl rfl) ?_
    refine lex.pure (v := .bool false) (pu_move rfl) ?_
    refine lex.gskip (want_f rfl rfl (show _ = Value.bool false from rfl) rfl) ?_
    refine lex.gskip (want_f rfl rfl (show _ = Value.bool false from rfl) rfl) ?_
    refine lex.gskip (want_f rfl rfl (show _ = Value.bool false from rfl) rfl) ?_
    refine lex.gskip (want_f rfl rfl (show _ = Value.bool false from rfl) rfl) ?_
    refine lex.gskip (want_f rfl rfl (show _ = Value.bool false from rfl) rfl) ?_
    refine lex.pure (v := .bool false) (pu_pickF (q := false) rfl rfl rfl) ?_
    refine lex.pure (v := .bool false) (pu_move rfl) ?_
    refine lex.gskip (want_f rfl rfl (show _ = Value.bool false from rfl) rfl) ?_
    refine lex.gskip (want_f rfl rfl (show _ = Value.bool false from rfl) rfl) ?_
    refine lex.gskip (want_f rfl rfl (show _ = Value.bool false from rfl) rfl) ?_
    refine lex.gskip (want_f rfl rfl (show _ = Value.bool false from rfl) rfl) ?_
    refine lex.pure (v := .bool false) (pu_pickF (q := false) rfl rfl rfl) ?_
    refine lex.pure (v := .bool false) (pu_move rfl) ?_
    refine lex.gskip (want_f rfl rfl (show _ = Value.bool false from rfl) rfl) ?_
    refine lex.gskip (want_f rfl rfl (show _ = Value.bool false from rfl) rfl) ?_
    refine lex.gskip (want_f rfl rfl (show _ = Value.bool false from rfl) rfl) ?_
    refine lex.gskip (want_f rfl rfl (show _ = Value.bool false from rfl) rfl) ?_
    refine lex.gskip (want_f rfl rfl (show _ = Value.bool false from rfl) rfl) ?_
    refine lex.gskip (want_f rfl rfl (show _ = Value.bool false from rfl) rfl) ?_
    refine lex.pure (v := .bool false) (pu_pickF (q := false) rfl rfl rfl) ?_
    refine lex.pure (v := .bool false) (pu_assign rfl) ?_
    refine lex.nil ?_
    refine hK48 _ _ ?_
    obtain rfl := Option.some.inj hb
    refine Wc.ret ?_
    refine hKR _ _ ?_
    refine ⟨_, res1 Try.results9 (show RV _ _ _ (.tmp _) (.bool false) from rfl), _, rfl, rfl, hC.sel [] (by decide)⟩
end Go.Proofs.Ytlkmcbgkohpmiaa
