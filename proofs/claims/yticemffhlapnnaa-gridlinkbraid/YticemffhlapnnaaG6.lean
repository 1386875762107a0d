/- The walks: part 6. -/
import Derived.Test.YticemffhlapnnaaS
import Derived.Test.YticemffhlapnnaaG3
import Derived.Test.YticemffhlapnnaaG4
import Derived.Test.YticemffhlapnnaaG5
set_option linter.unusedVariables false
set_option linter.unusedSimpArgs false
namespace Go.Proofs.Yticemffhlapnnaa
open Ev
set_option maxRecDepth 100000 in
set_option maxHeartbeats 4000000 in
theorem law44_awake_ok (n : Nat) {w : World} {O0 : List Nat} (hO : ∀ k ∈ O0, k < w.heap.size)  {r : Bool} (hb : F.law44_awake n = some r) :
    Calls Try.prog 11 #[] w fun e w' => ∃ v, e = .returned v ∧ v = .bool r ∧ Cx (fun _ => False) O0 w w' [] := by
 unfold F.law44_awake at hb
 have hC := Cx.start hO
 clear hO
 refine calls_of_Wc Try.func11 rfl (by rw [Try.ntmps11]; exact Nat.le_of_ble_eq_true rfl) fun KR hKR => ?_
 refine Wc.seq fun K1 hK1 => ?_
 refine rg ?_
 refine lp (.bool false) (pu_assign rfl) ?_
 refine ln ?_
 refine hK1 _ _ ?_
 refine Wc.seq fun K2 hK2 => ?_
 refine rg ?_
 refine lex.op (hC.lit (s := (.int .i64)) (vs := [.int .i64 0, .int .i64 1, .int .i64 2, .int .i64 3, .int .i64 4]) (xs := [0, 1, 2, 3, 4]) Try.underlying22 Try.type3 rfl rfl (Nat.le_of_ble_eq_true rfl) rfl rfl (by simp [Value.cells, Sh.n]) rfl (show Elems _ _ (.int .i64) ([.int .i64 0] ++ ([.int .i64 1] ++ ([.int .i64 2] ++ ([.int .i64 3] ++ ([.int .i64 4] ++ ([])))))) ([0, 1, 2, 3, 4] : List Int) from Elems.cons (⟨rfl, I64.wr (show I64 0 from by unfold I64; omega)⟩) (Elems.cons (⟨rfl, I64.wr (show I64 1 from by unfold I64; omega)⟩) (Elems.cons (⟨rfl, I64.wr (show I64 2 from by unfold I64; omega)⟩) (Elems.cons (⟨rfl, I64.wr (show I64 3 from by unfold I64; omega)⟩) (Elems.cons (⟨rfl, I64.wr (show I64 4 from by unfold I64; omega)⟩) (Elems.nil _ _ _))))))) ?_
 rintro _ w7 ⟨A3, c4, rfl, hl5, hc6, hC, hF, hN⟩
 clear hF hN
 refine lex.op (hC.lit (s := (.int .i64)) (vs := [.int .i64 2, .int .i64 3, .int .i64 4, .int .i64 0, .int .i64 1]) (xs := [2, 3, 4, 0, 1]) Try.underlying22 Try.type3 rfl rfl (Nat.le_of_ble_eq_true rfl) rfl rfl (by simp [Value.cells, Sh.n]) rfl (show Elems _ _ (.int .i64) ([.int .i64 2] ++ ([.int .i64 3] ++ ([.int .i64 4] ++ ([.int .i64 0] ++ ([.int .i64 1] ++ ([])))))) ([2, 3, 4, 0, 1] : List Int) from Elems.cons (⟨rfl, I64.wr (show I64 2 from by unfold I64; omega)⟩) (Elems.cons (⟨rfl, I64.wr (show I64 3 from by unfold I64; omega)⟩) (Elems.cons (⟨rfl, I64.wr (show I64 4 from by unfold I64; omega)⟩) (Elems.cons (⟨rfl, I64.wr (show I64 0 from by unfold I64; omega)⟩) (Elems.cons (⟨rfl, I64.wr (show I64 1 from by unfold I64; omega)⟩) (Elems.nil _ _ _))))))) ?_
 rintro _ w13 ⟨A9, c10, rfl, hl11, hc12, hC, hF, hN⟩
 clear hF hN
 refine lp (.agg #[.slice A3 ((([0, 1, 2, 3, 4] : List Int)).length) c4, .slice A9 ((([2, 3, 4, 0, 1] : List Int)).length) c10]) (pu_builds (places := [(0, 1), (1, 1)]) (pv := [(0, .slice A3 ((([0, 1, 2, 3, 4] : List Int)).length) c4), (1, .slice A9 ((([2, 3, 4, 0, 1] : List Int)).length) c10)]) Try.type24 Try.underlying24 rfl (mp_cons Try.type22 (mp_cons Try.type22 mp_nil rfl rfl) rfl rfl) rfl (by simp [Instr.fill, Value.cells])) ?_
 obtain ⟨y15, h16, hb⟩ := bd hb
 refine lex.cl (⟨_, _, op_call (vs := [.agg #[.slice A3 ((([0, 1, 2, 3, 4] : List Int)).length) c4, .slice A9 ((([2, 3, 4, 0, 1] : List Int)).length) c10]]) Try.call13 rfl rfl rfl, gridlink_Diagram_ok n (hC.lentLt [.slice A9 ((([2, 3, 4, 0, 1] : List Int)).length) c10, .slice A3 ((([0, 1, 2, 3, 4] : List Int)).length) c4]) ((hC.ow (i := 1) rfl).lend (vs := [.slice A9 ((([2, 3, 4, 0, 1] : List Int)).length) c10, .slice A3 ((([0, 1, 2, 3, 4] : List Int)).length) c4]) (by simp)) ((hC.ow (i := 0) rfl).lend (vs := [.slice A9 ((([2, 3, 4, 0, 1] : List Int)).length) c10, .slice A3 ((([0, 1, 2, 3, 4] : List Int)).length) c4]) (by simp)) h16⟩) ?_
 rintro _ w27 ⟨A17, m18, c19, A21, m22, c23, rfl, hr25, hr26, hK⟩
 replace hC := hC.mergeF hK rfl
 clear hK
 obtain ⟨rfl, hl28, hc29⟩ := (hC.ow (i := 0) rfl).sl_len
 obtain ⟨rfl, hl30, hc31⟩ := (hC.ow (i := 1) rfl).sl_len
 refine lp (.tuple #[.agg #[.slice A17 y15.1.length c19, .slice A21 y15.2.1.length c23, .int .i64 y15.2.2.1], .int .i64 y15.2.2.2]) (pu_move rfl) ?_
 refine lp (.agg #[.slice A17 y15.1.length c19, .slice A21 y15.2.1.length c23, .int .i64 y15.2.2.1]) (pu_extract rfl rfl) ?_
 refine lp (.int .i64 y15.2.2.2) (pu_extract rfl rfl) ?_
 refine lex.op (hC.alloc (cs := [.slice none 0 0, .slice none 0 0, .int .i64 0]) Try.zeroValue28 rfl) ?_
 rintro _ w33 ⟨g32, rfl, hC, hF, hG⟩
 clear hG
 refine lex.sk (hC.seta (i := 0) (ds := [.slice A17 y15.1.length c19, .slice A21 y15.2.1.length c23, .int .i64 y15.2.2.1]) rfl Try.type28 rfl rfl rfl rfl rfl) ?_
 rintro w35 ⟨hC, hF⟩
 refine lp (.int .i64 y15.2.2.2) (pu_assign rfl) ?_
 refine ln ?_
 refine hK2 _ _ ?_
 refine Wc.fresh fun E36 hE => ?_
 have e0 : E36 0 = .bool false := (congrFun hE 0).trans rfl
 have e1 : E36 1 = .pointer (some ⟨g32, 0, none⟩) := (congrFun hE 1).trans rfl
 have e2 : E36 2 = .int .i64 y15.2.2.2 := (congrFun hE 2).trans rfl
 clear hE
 refine Wc.seq fun K37 hK37 => ?_
 refine rg ?_
 refine lex.op (hC.lit (s := (.int .i64)) (vs := [.int .i64 1]) (xs := [1]) Try.underlying22 Try.type3 rfl rfl (Nat.le_of_ble_eq_true rfl) rfl rfl (by simp [Value.cells, Sh.n]) rfl (show Elems _ _ (.int .i64) ([.int .i64 1] ++ ([])) ([1] : List Int) from Elems.cons (⟨rfl, I64.wr (show I64 1 from by unfold I64; omega)⟩) (Elems.nil _ _ _))) ?_
 rintro _ w42 ⟨A38, c39, rfl, hl40, hc41, hC, hF, hN⟩
 clear hF hN
 refine lp (.agg #[.int .i64 2, .slice A38 ((([1] : List Int)).length) c39]) (pu_builds (places := [(0, 1), (1, 1)]) (pv := [(0, .int .i64 2), (1, .slice A38 ((([1] : List Int)).length) c39)]) Try.type40 Try.underlying40 rfl (mp_cons Try.type3 (mp_cons Try.type22 mp_nil rfl rfl) rfl rfl) rfl (by simp [Instr.fill, Value.cells])) ?_
 obtain ⟨y44, h45, hb⟩ := bd hb
 refine lex.cl (⟨_, _, op_call (vs := [.agg #[.int .i64 2, .slice A38 ((([1] : List Int)).length) c39]]) Try.call18 rfl rfl rfl, gridlink_Braid_ok n (hC.lentLt [.slice A38 ((([1] : List Int)).length) c39]) (show I64 2 from by unfold I64; omega) ((hC.ow (i := 0) rfl).lend (vs := [.slice A38 ((([1] : List Int)).length) c39]) (by simp)) h45⟩) ?_
 rintro _ w55 ⟨A46, m47, c48, A50, m51, c52, rfl, hr54, hK⟩
 replace hC := hC.mergeF hK rfl
 clear hK
 obtain ⟨rfl, hl56, hc57⟩ := (hC.ow (i := 0) rfl).sl_len
 obtain ⟨rfl, hl58, hc59⟩ := (hC.ow (i := 1) rfl).sl_len
 refine lp (.tuple #[.agg #[.slice A46 y44.1.length c48, .slice A50 y44.2.1.length c52], .int .i64 y44.2.2]) (pu_move rfl) ?_
 refine lp (.agg #[.slice A46 y44.1.length c48, .slice A50 y44.2.1.length c52]) (pu_extract rfl rfl) ?_
 refine lp (.int .i64 y44.2.2) (pu_extract rfl rfl) ?_
 refine lex.op (hC.alloc (cs := [.slice none 0 0, .slice none 0 0]) Try.zeroValue24 rfl) ?_
 rintro _ w61 ⟨g60, rfl, hC, hF, hG⟩
 clear hG
 refine lex.sk (hC.seta (i := 0) (ds := [.slice A46 y44.1.length c48, .slice A50 y44.2.1.length c52]) rfl Try.type24 rfl rfl rfl rfl rfl) ?_
 rintro w63 ⟨hC, hF⟩
 refine lp (.int .i64 y44.2.2) (pu_assign rfl) ?_
 refine ln ?_
 refine hK37 _ _ ?_
 refine Wc.seq fun K64 hK64 => ?_
 refine rg ?_
 refine lp (.int .i64 y15.2.2.2) (pu_move e2) ?_
 refine lp (.bool (decide (y15.2.2.2 = 0))) (pu_eql (k := .i64) (a := y15.2.2.2) (b := 0) rfl rfl) ?_
 refine lp (.bool (decide (y15.2.2.2 = 0))) (pu_move rfl) ?_
 rcases bS (decide (y15.2.2.2 = 0)) with hq65 | hq65
 replace hb := tt hq65 hb
 refine gp rfl rfl (decide (y15.2.2.2 = 0)) rfl hq65 (.pointer (some ((⟨g32, 0, none⟩ : Addr).add 0))) (pu_field (sz := 1) Try.underlying28 rfl Try.sizeOf22 (by decide) rfl e1) ?_
 refine gv rfl rfl (decide (y15.2.2.2 = 0)) rfl hq65 (.slice A17 y15.1.length c19) (ld_fld (hC.bx (i := 4) rfl) Try.isAgg22 rfl rfl) ?_
 refine gp rfl rfl (decide (y15.2.2.2 = 0)) rfl hq65 (.int .i64 (y15.1.length : Int)) (pu_len (A := A17) (n := y15.1.length) (m := c19) Try.underlying22 rfl) ?_
 refine gp rfl rfl (decide (y15.2.2.2 = 0)) rfl hq65 (.bool (decide ((y15.1.length : Int) = 3))) (pu_eql (k := .i64) (a := (y15.1.length : Int)) (b := 3) rfl rfl) ?_
 refine lp (.bool (decide ((y15.1.length : Int) = 3))) (pu_pickT (q := (decide (y15.2.2.2 = 0))) rfl hq65 rfl) ?_
 refine lp (.bool (decide ((y15.1.length : Int) = 3))) (pu_move rfl) ?_
 rcases bS (decide ((y15.1.length : Int) = 3)) with hq66 | hq66
 replace hb := tt hq66 hb
 refine gp rfl rfl (decide ((y15.1.length : Int) = 3)) rfl hq66 (.pointer (some ((⟨g32, 0, none⟩ : Addr).add 2))) (pu_field (sz := 1) Try.underlying28 rfl Try.sizeOf3 (by decide) rfl e1) ?_
 refine gv rfl rfl (decide ((y15.1.length : Int) = 3)) rfl hq66 (.int .i64 y15.2.2.1) (ld_fld (hC.bx (i := 4) rfl) Try.isAgg3 rfl rfl) ?_
 refine gp rfl rfl (decide ((y15.1.length : Int) = 3)) rfl hq66 (.bool (decide (y15.2.2.1 = 0))) (pu_eql (k := .i64) (a := y15.2.2.1) (b := 0) rfl rfl) ?_
 refine lp (.bool (decide (y15.2.2.1 = 0))) (pu_pickT (q := (decide ((y15.1.length : Int) = 3))) rfl hq66 rfl) ?_
 refine lp (.bool (decide (y15.2.2.1 = 0))) (pu_move rfl) ?_
 rcases bS (decide (y15.2.2.1 = 0)) with hq67 | hq67
 replace hb := tt hq67 hb
 refine gp rfl rfl (decide (y15.2.2.1 = 0)) rfl hq67 (.int .i64 y44.2.2) (pu_move rfl) ?_
 refine gp rfl rfl (decide (y15.2.2.1 = 0)) rfl hq67 (.bool (decide (y44.2.2 = 0))) (pu_eql (k := .i64) (a := y44.2.2) (b := 0) rfl rfl) ?_
 refine lp (.bool (decide (y44.2.2 = 0))) (pu_pickT (q := (decide (y15.2.2.1 = 0))) rfl hq67 rfl) ?_
 refine lp (.bool (decide (y44.2.2 = 0))) (pu_move rfl) ?_
 rcases bS (decide (y44.2.2 = 0)) with hq68 | hq68
 replace hb := tt hq68 hb
 refine gp rfl rfl (decide (y44.2.2 = 0)) rfl hq68 (.pointer (some ((⟨g60, 0, none⟩ : Addr).add 0))) (pu_field (sz := 1) Try.underlying24 rfl Try.sizeOf22 (by decide) rfl rfl) ?_
 refine gv rfl rfl (decide (y44.2.2 = 0)) rfl hq68 (.slice A46 y44.1.length c48) (ld_fld (hC.bx (i := 0) rfl) Try.isAgg22 rfl rfl) ?_
 refine lex.gop (want_t rfl rfl (show _ = Value.bool (decide (y44.2.2 = 0)) from rfl) hq68) (hC.lit (s := (.int .i64)) (vs := [.int .i64 2, .int .i64 0, .int .i64 1, .int .i64 3, .int .i64 4]) (xs := [2, 0, 1, 3, 4]) Try.underlying22 Try.type3 rfl rfl (Nat.le_of_ble_eq_true rfl) rfl rfl (by simp [Value.cells, Sh.n]) rfl (show Elems _ _ (.int .i64) ([.int .i64 2] ++ ([.int .i64 0] ++ ([.int .i64 1] ++ ([.int .i64 3] ++ ([.int .i64 4] ++ ([])))))) ([2, 0, 1, 3, 4] : List Int) from Elems.cons (⟨rfl, I64.wr (show I64 2 from by unfold I64; omega)⟩) (Elems.cons (⟨rfl, I64.wr (show I64 0 from by unfold I64; omega)⟩) (Elems.cons (⟨rfl, I64.wr (show I64 1 from by unfold I64; omega)⟩) (Elems.cons (⟨rfl, I64.wr (show I64 3 from by unfold I64; omega)⟩) (Elems.cons (⟨rfl, I64.wr (show I64 4 from by unfold I64; omega)⟩) (Elems.nil _ _ _))))))) ?_
 rintro _ w73 ⟨A69, c70, rfl, hl71, hc72, hC, hF, hN⟩
 clear hF hN
 obtain ⟨y75, h76, hb⟩ := bd hb
 refine lex.gcl (want_t rfl rfl (show _ = Value.bool (decide (y44.2.2 = 0)) from rfl) hq68) (⟨_, _, op_call (vs := [.slice A46 y44.1.length c48, .slice A69 ((([2, 0, 1, 3, 4] : List Int)).length) c70]) Try.call25 rfl rfl rfl, ref01_Ints_ok n (hC.lentLt [.slice A46 y44.1.length c48, .slice A69 ((([2, 0, 1, 3, 4] : List Int)).length) c70]) ((hC.ow (i := 2) rfl).lend (vs := [.slice A46 y44.1.length c48, .slice A69 ((([2, 0, 1, 3, 4] : List Int)).length) c70]) (by simp)) ((hC.ow (i := 0) rfl).lend (vs := [.slice A46 y44.1.length c48, .slice A69 ((([2, 0, 1, 3, 4] : List Int)).length) c70]) (by simp)) h76⟩) ?_
 rintro _ w77 ⟨rfl, hK⟩
 replace hC := hC.mergeF hK rfl
 clear hK
 refine lp (.bool y75) (pu_pickT (q := (decide (y44.2.2 = 0))) rfl hq68 rfl) ?_
 refine lp (.bool y75) (pu_move rfl) ?_
 rcases bS y75 with hq78 | hq78
 replace hb := tt hq78 hb
 refine gp rfl rfl y75 rfl hq78 (.pointer (some ((⟨g60, 0, none⟩ : Addr).add 1))) (pu_field (sz := 1) Try.underlying24 rfl Try.sizeOf22 (by decide) rfl rfl) ?_
 refine gv rfl rfl y75 rfl hq78 (.slice A50 y44.2.1.length c52) (ld_fld (hC.bx (i := 1) rfl) Try.isAgg22 rfl rfl) ?_
 refine lex.gop (want_t rfl rfl (show _ = Value.bool y75 from rfl) hq78) (hC.lit (s := (.int .i64)) (vs := [.int .i64 4, .int .i64 3, .int .i64 2, .int .i64 1, .int .i64 0]) (xs := [4, 3, 2, 1, 0]) Try.underlying22 Try.type3 rfl rfl (Nat.le_of_ble_eq_true rfl) rfl rfl (by simp [Value.cells, Sh.n]) rfl (show Elems _ _ (.int .i64) ([.int .i64 4] ++ ([.int .i64 3] ++ ([.int .i64 2] ++ ([.int .i64 1] ++ ([.int .i64 0] ++ ([])))))) ([4, 3, 2, 1, 0] : List Int) from Elems.cons (⟨rfl, I64.wr (show I64 4 from by unfold I64; omega)⟩) (Elems.cons (⟨rfl, I64.wr (show I64 3 from by unfold I64; omega)⟩) (Elems.cons (⟨rfl, I64.wr (show I64 2 from by unfold I64; omega)⟩) (Elems.cons (⟨rfl, I64.wr (show I64 1 from by unfold I64; omega)⟩) (Elems.cons (⟨rfl, I64.wr (show I64 0 from by unfold I64; omega)⟩) (Elems.nil _ _ _))))))) ?_
 rintro _ w83 ⟨A79, c80, rfl, hl81, hc82, hC, hF, hN⟩
 clear hF hN
 obtain ⟨y85, h86, hb⟩ := bd hb
 refine lex.gcl (want_t rfl rfl (show _ = Value.bool y75 from rfl) hq78) (⟨_, _, op_call (vs := [.slice A50 y44.2.1.length c52, .slice A79 ((([4, 3, 2, 1, 0] : List Int)).length) c80]) Try.call25 rfl rfl rfl, ref01_Ints_ok n (hC.lentLt [.slice A50 y44.2.1.length c52, .slice A79 ((([4, 3, 2, 1, 0] : List Int)).length) c80]) ((hC.ow (i := 4) rfl).lend (vs := [.slice A50 y44.2.1.length c52, .slice A79 ((([4, 3, 2, 1, 0] : List Int)).length) c80]) (by simp)) ((hC.ow (i := 0) rfl).lend (vs := [.slice A50 y44.2.1.length c52, .slice A79 ((([4, 3, 2, 1, 0] : List Int)).length) c80]) (by simp)) h86⟩) ?_
 rintro _ w87 ⟨rfl, hK⟩
 replace hC := hC.mergeF hK rfl
 clear hK
 refine lp (.bool y85) (pu_pickT (q := y75) rfl hq78 rfl) ?_
 refine lp (.bool y85) (pu_assign rfl) ?_
 refine ln ?_
 refine hK64 _ _ ?_
 obtain rfl := os hb
 refine Wc.ret ?_
 refine hKR _ _ ?_
 refine ⟨_, res1 Try.results11 (show RV _ _ _ (.tmp _) (.bool y85) from rfl), _, rfl, rfl, hC.sel [] (by decide)⟩
 replace hb := tf hq78 hb
 refine gs rfl rfl y75 rfl hq78 ?_
 refine gs rfl rfl y75 rfl hq78 ?_
 refine gs rfl rfl y75 rfl hq78 ?_
 refine gs rfl rfl y75 rfl hq78 ?_
 refine lp (.bool false) (pu_pickF (q := y75) rfl hq78 rfl) ?_
 refine lp (.bool false) (pu_assign rfl) ?_
 refine ln ?_
 refine hK64 _ _ ?_
 obtain rfl := os hb
 refine Wc.ret ?_
 refine hKR _ _ ?_
 refine ⟨_, res1 Try.results11 (show RV _ _ _ (.tmp _) (.bool false) from rfl), _, rfl, rfl, hC.sel [] (by decide)⟩
 replace hb := tf hq68 hb
 refine gs rfl rfl (decide (y44.2.2 = 0)) rfl hq68 ?_
 refine gs rfl rfl (decide (y44.2.2 = 0)) rfl hq68 ?_
 refine gs rfl rfl (decide (y44.2.2 = 0)) rfl hq68 ?_
 refine gs rfl rfl (decide (y44.2.2 = 0)) rfl hq68 ?_
 refine lp (.bool false) (pu_pickF (q := (decide (y44.2.2 = 0))) rfl hq68 rfl) ?_
 refine lp (.bool false) (pu_move rfl) ?_
 refine gs rfl rfl false rfl rfl ?_
 refine gs rfl rfl false rfl rfl ?_
 refine gs rfl rfl false rfl rfl ?_
 refine gs rfl rfl false rfl rfl ?_
 refine lp (.bool false) (pu_pickF (q := false) rfl rfl rfl) ?_
 refine lp (.bool false) (pu_assign rfl) ?_
 refine ln ?_
 refine hK64 _ _ ?_
 obtain rfl := os hb
 refine Wc.ret ?_
 refine hKR _ _ ?_
 refine ⟨_, res1 Try.results11 (show RV _ _ _ (.tmp _) (.bool false) from rfl), _, rfl, rfl, hC.sel [] (by decide)⟩
 replace hb := tf hq67 hb
 refine gs rfl rfl (decide (y15.2.2.1 = 0)) rfl hq67 ?_
 refine gs rfl rfl (decide (y15.2.2.1 = 0)) rfl hq67 ?_
 refine lp (.bool false) (pu_pickF (q := (decide (y15.2.2.1 = 0))) rfl hq67 rfl) ?_
 refine lp (.bool false) (pu_move rfl) ?_
 refine gs rfl rfl false rfl rfl ?_
 refine gs rfl rfl false rfl rfl ?_
 refine gs rfl rfl false rfl rfl ?_
 refine gs rfl rfl false rfl rfl ?_
 refine lp (.bool false) (pu_pickF (q := false) rfl rfl rfl) ?_
 refine lp (.bool false) (pu_move rfl) ?_
 refine gs rfl rfl false rfl rfl ?_
 refine gs rfl rfl false rfl rfl ?_
 refine gs rfl rfl false rfl rfl ?_
 refine gs rfl rfl false rfl rfl ?_
 refine lp (.bool false) (pu_pickF (q := false) rfl rfl rfl) ?_
 refine lp (.bool false) (pu_assign rfl) ?_
 refine ln ?_
 refine hK64 _ _ ?_
 obtain rfl := os hb
 refine Wc.ret ?_
 refine hKR _ _ ?_
 refine ⟨_, res1 Try.results11 (show RV _ _ _ (.tmp _) (.bool false) from rfl), _, rfl, rfl, hC.sel [] (by decide)⟩
 replace hb := tf hq66 hb
 refine gs rfl rfl (decide ((y15.1.length : Int) = 3)) rfl hq66 ?_
 refine gs rfl rfl (decide ((y15.1.length : Int) = 3)) rfl hq66 ?_
 refine gs rfl rfl (decide ((y15.1.length : Int) = 3)) rfl hq66 ?_
 refine lp (.bool false) (pu_pickF (q := (decide ((y15.1.length : Int) = 3))) rfl hq66 rfl) ?_
 refine lp (.bool false) (pu_move rfl) ?_
 refine gs rfl rfl false rfl rfl ?_
 refine gs rfl rfl false rfl rfl ?_
 refine lp (.bool false) (pu_pickF (q := false) rfl rfl rfl) ?_
 refine lp (.bool false) (pu_move rfl) ?_
 refine gs rfl rfl false rfl rfl ?_
 refine gs rfl rfl false rfl rfl ?_
 refine gs rfl rfl false rfl rfl ?_
 refine gs rfl rfl false rfl rfl ?_
 refine lp (.bool false) (pu_pickF (q := false) rfl rfl rfl) ?_
 refine lp (.bool false) (pu_move rfl) ?_
 refine gs rfl rfl false rfl rfl ?_
 refine gs rfl rfl false rfl rfl ?_
 refine gs rfl rfl false rfl rfl ?_
 refine gs rfl rfl false rfl rfl ?_
 refine lp (.bool false) (pu_pickF (q := false) rfl rfl rfl) ?_
 refine lp (.bool false) (pu_assign rfl) ?_
 refine ln ?_
 refine hK64 _ _ ?_
 obtain rfl := os hb
 refine Wc.ret ?_
 refine hKR _ _ ?_
 refine ⟨_, res1 Try.results11 (show RV _ _ _ (.tmp _) (.bool false) from rfl), _, rfl, rfl, hC.sel [] (by decide)⟩
 replace hb := tf hq65 hb
 refine gs rfl rfl (decide (y15.2.2.2 = 0)) rfl hq65 ?_
 refine gs rfl rfl (decide (y15.2.2.2 = 0)) rfl hq65 ?_
 refine gs rfl rfl (decide (y15.2.2.2 = 0)) rfl hq65 ?_
 refine gs rfl rfl (decide (y15.2.2.2 = 0)) rfl hq65 ?_
 refine lp (.bool false) (pu_pickF (q := (decide (y15.2.2.2 = 0))) rfl hq65 rfl) ?_
 refine lp (.bool false) (pu_move rfl) ?_
 refine gs rfl rfl false rfl rfl ?_
 refine gs rfl rfl false rfl rfl ?_
 refine gs rfl rfl false rfl rfl ?_
 refine lp (.bool false) (pu_pickF (q := false) rfl rfl rfl) ?_
 refine lp (.bool false) (pu_move rfl) ?_
 refine gs rfl rfl false rfl rfl ?_
 refine gs rfl rfl false rfl rfl ?_
 refine lp (.bool false) (pu_pickF (q := false) rfl rfl rfl) ?_
 refine lp (.bool false) (pu_move rfl) ?_
 refine gs rfl rfl false rfl rfl ?_
 refine gs rfl rfl false rfl rfl ?_
 refine gs rfl rfl false rfl rfl ?_
 refine gs rfl rfl false rfl rfl ?_
 refine lp (.bool false) (pu_pickF (q := false) rfl rfl rfl) ?_
 refine lp (.bool false) (pu_move rfl) ?_
 refine gs rfl rfl false rfl rfl ?_
 refine gs rfl rfl false rfl rfl ?_
 refine gs rfl rfl false rfl rfl ?_
 refine gs rfl rfl false rfl rfl ?_
 refine lp (.bool false) (pu_pickF (q := false) rfl rfl rfl) ?_
 refine lp (.bool false) (pu_assign rfl) ?_
 refine ln ?_
 refine hK64 _ _ ?_
 obtain rfl := os hb
 refine Wc.ret ?_
 refine hKR _ _ ?_
 refine ⟨_, res1 Try.results11 (show RV _ _ _ (.tmp _) (.bool false) from rfl), _, rfl, rfl, hC.sel [] (by decide)⟩

set_option maxRecDepth 100000 in
set_option maxHeartbeats 4000000 in
theorem ref33_Valid_ok (n : Nat) {w : World} {O0 : List Nat} (hO : ∀ k ∈ O0, k < w.heap.size) {strands_0 : Int} (hstrands_0 : I64 strands_0) {Aword_1 : Option Addr} {mword_1 cword_1 : Nat} {word_1 : List Int} (hword_1 : Rep O0 w (.sl (.int .i64)) [.slice Aword_1 mword_1 cword_1] word_1) {r : Bool} (hb : F.ref33_Valid n strands_0 word_1 = some r) :
    Calls Try.prog 19 #[.int .i64 strands_0, .slice Aword_1 mword_1 cword_1] w fun e w' => ∃ v, e = .returned v ∧ v = .bool r ∧ Cx (fun _ => False) O0 w w' [] := by
 unfold F.ref33_Valid at hb
 have hC := Cx.start hO
 replace hC := hC.arg rfl hword_1
 clear hO
 obtain ⟨rfl, hlword_1, hcword_1⟩ := hword_1.sl_len
 refine calls_of_Wc Try.func19 rfl (by rw [Try.ntmps19]; exact Nat.le_of_ble_eq_true rfl) fun KR hKR => ?_
 refine Wc.seq fun K2 hK2 => ?_
 refine rg ?_
 refine lp (.bool false) (pu_assign rfl) ?_
 refine ln ?_
 refine hK2 _ _ ?_
 refine Wc.seq fun K3 hK3 => ?_
 refine Wc.seq fun K4 hK4 => ?_
 refine rg ?_
 refine lp (.int .i64 strands_0) (pu_move rfl) ?_
 refine lp (.bool (decide (strands_0 < 1))) (pu_lss (k := .i64) (a := strands_0) (b := 1) rfl rfl) ?_
 refine lp (.bool (decide (strands_0 < 1))) (pu_move rfl) ?_
 rcases bS (decide (strands_0 < 1)) with hq5 | hq5
 replace hb := tt hq5 hb
 refine gs rfl rfl (decide (strands_0 < 1)) rfl hq5 ?_
 refine gs rfl rfl (decide (strands_0 < 1)) rfl hq5 ?_
 refine lp (.bool true) (pu_pickT (q := (decide (strands_0 < 1))) rfl hq5 rfl) ?_
 refine lp (.bool true) (pu_move rfl) ?_
 refine gs rfl rfl true rfl rfl ?_
 refine gs rfl rfl true rfl rfl ?_
 refine gs rfl rfl true rfl rfl ?_
 refine lp (.bool true) (pu_pickT (q := true) rfl rfl rfl) ?_
 refine ln ?_
 refine hK4 _ _ ?_
 refine Wc.cond_true (rfl) ?_
 refine Wc.seq fun K6 hK6 => ?_
 refine rg ?_
 refine lp (.bool false) (pu_assign rfl) ?_
 refine ln ?_
 refine hK6 _ _ ?_
 obtain rfl := os hb
 refine Wc.ret ?_
 refine hKR _ _ ?_
 refine ⟨_, res1 Try.results19 (show RV _ _ _ (.tmp _) (.bool false) from rfl), _, rfl, rfl, hC.sel [] (by decide)⟩
 replace hb := tf hq5 hb
 refine gp rfl rfl (decide (strands_0 < 1)) rfl hq5 (.int .i64 strands_0) (pu_move rfl) ?_
 refine gp rfl rfl (decide (strands_0 < 1)) rfl hq5 (.bool (decide (10 < strands_0))) (pu_gtr (k := .i64) (a := strands_0) (b := 10) rfl rfl) ?_
 refine lp (.bool (decide (10 < strands_0))) (pu_pickF (q := (decide (strands_0 < 1))) rfl hq5 rfl) ?_
 refine lp (.bool (decide (10 < strands_0))) (pu_move rfl) ?_
 rcases bS (decide (10 < strands_0)) with hq7 | hq7
 replace hb := tt hq7 hb
 refine gs rfl rfl (decide (10 < strands_0)) rfl hq7 ?_
 refine gs rfl rfl (decide (10 < strands_0)) rfl hq7 ?_
 refine gs rfl rfl (decide (10 < strands_0)) rfl hq7 ?_
 refine lp (.bool true) (pu_pickT (q := (decide (10 < strands_0))) rfl hq7 rfl) ?_
 refine ln ?_
 refine hK4 _ _ ?_
 refine Wc.cond_true (rfl) ?_
 refine Wc.seq fun K8 hK8 => ?_
 refine rg ?_
 refine lp (.bool false) (pu_assign rfl) ?_
 refine ln ?_
 refine hK8 _ _ ?_
 obtain rfl := os hb
 refine Wc.ret ?_
 refine hKR _ _ ?_
 refine ⟨_, res1 Try.results19 (show RV _ _ _ (.tmp _) (.bool false) from rfl), _, rfl, rfl, hC.sel [] (by decide)⟩
 replace hb := tf hq7 hb
 refine gp rfl rfl (decide (10 < strands_0)) rfl hq7 (.slice Aword_1 word_1.length cword_1) (pu_move rfl) ?_
 refine gp rfl rfl (decide (10 < strands_0)) rfl hq7 (.int .i64 (word_1.length : Int)) (pu_len (A := Aword_1) (n := word_1.length) (m := cword_1) Try.underlying22 rfl) ?_
 refine gp rfl rfl (decide (10 < strands_0)) rfl hq7 (.bool (decide (200 < (word_1.length : Int)))) (pu_gtr (k := .i64) (a := (word_1.length : Int)) (b := 200) rfl rfl) ?_
 refine lp (.bool (decide (200 < (word_1.length : Int)))) (pu_pickF (q := (decide (10 < strands_0))) rfl hq7 rfl) ?_
 refine ln ?_
 refine hK4 _ _ ?_
 refine Wc.cond (t := (decide (200 < (word_1.length : Int)))) (rfl) (fun hq9 => ?_) (fun hq9 => ?_)
 replace hb := tt hq9 hb
 refine Wc.seq fun K10 hK10 => ?_
 refine rg ?_
 refine lp (.bool false) (pu_assign rfl) ?_
 refine ln ?_
 refine hK10 _ _ ?_
 obtain rfl := os hb
 refine Wc.ret ?_
 refine hKR _ _ ?_
 refine ⟨_, res1 Try.results19 (show RV _ _ _ (.tmp _) (.bool false) from rfl), _, rfl, rfl, hC.sel [] (by decide)⟩
 replace hb := tf hq9 hb
 refine Wc.skip ?_
 refine hK3 _ _ ?_
 refine Wc.fresh fun E11 hE => ?_
 have e0 : E11 0 = .int .i64 strands_0 := (congrFun hE 0).trans rfl
 have e1 : E11 1 = .slice Aword_1 word_1.length cword_1 := (congrFun hE 1).trans rfl
 have e4 : E11 4 = .bool false := (congrFun hE 4).trans rfl
 clear hE
 refine Wc.seq fun K12 hK12 => ?_
 refine Wc.seq fun K13 hK13 => ?_
 refine rg ?_
 refine lp (.int .i64 0) (pu_assign rfl) ?_
 refine ln ?_
 refine hK13 _ _ ?_
 obtain ⟨o14, hl0, hb⟩ := bd hb
 refine Wc.cut (fun E wv => ∃ (v5_0 : Int), E 4 = .bool false ∧ I64 v5_0 ∧ Cx (fun _ => False) O0 w wv [] ∧ (some true : Option (Bool)) = some r) (fun K15 hK15 => ?_) ?_
 refine Wc.block ?_
 refine Wc.loop (fun m E wv => ∃ (v5_0 : Int), E 0 = .int .i64 strands_0 ∧ E 1 = .slice Aword_1 word_1.length cword_1 ∧ E 4 = .bool false ∧ E 5 = .int .i64 v5_0 ∧ I64 v5_0 ∧ Cx (fun _ => False) O0 w wv [.ro (.sl (.int .i64)) [.slice Aword_1 word_1.length cword_1] word_1] ∧ loopN m (F.ref33_Valid_b0 n strands_0 word_1) v5_0 = some o14) n ⟨0, e0, e1, e4, rfl, (show I64 0 from by unfold I64; omega), hC.sel [0] (by decide), hl0⟩ ?_
 have hbK0 := hb
 clear hb hC hl0
 rintro m17 E19 w18 ⟨v5_0, e0, e1, e4, e5, hrv5_0, hC, hl0⟩ K16 hK16
 obtain ⟨m17', o20, rfl, hb, hl0⟩ := loopN_some hl0
 unfold F.ref33_Valid_b0 at hb
 refine Wc.seq fun K21 hK21 => ?_
 refine Wc.seq fun K22 hK22 => ?_
 refine rg ?_
 refine lp (.int .i64 v5_0) (pu_move e5) ?_
 refine lp (.slice Aword_1 word_1.length cword_1) (pu_move e1) ?_
 refine lp (.int .i64 (word_1.length : Int)) (pu_len (A := Aword_1) (n := word_1.length) (m := cword_1) Try.underlying22 rfl) ?_
 refine lp (.bool (decide (v5_0 < (word_1.length : Int)))) (pu_lss (k := .i64) (a := v5_0) (b := (word_1.length : Int)) rfl rfl) ?_
 refine ln ?_
 refine hK22 _ _ ?_
 refine Wc.cond (t := (decide (v5_0 < (word_1.length : Int)))) (rfl) (fun hq23 => ?_) (fun hq23 => ?_)
 replace hb := tt hq23 hb
 refine Wc.skip ?_
 refine hK21 _ _ ?_
 refine Wc.seq fun K24 hK24 => ?_
 refine Wc.block ?_
 refine Wc.seq fun K25 hK25 => ?_
 refine rg ?_
 refine lp (.slice Aword_1 word_1.length cword_1) (pu_move e1) ?_
 refine lp (.int .i64 v5_0) (pu_move e5) ?_
 obtain ⟨x26, h27, hb⟩ := bd hb
 obtain ⟨ad28, cs29, hA, hc30, hr31⟩ := hC.elr (i := 0) rfl (get_some h27).2
 subst hA
 refine lp (.pointer (some (ad28.add (v5_0.toNat * 1)))) (pu_index (a := v5_0) Try.underlying22 Try.sizeOf3 rfl rfl (get_some h27).1) ?_
 obtain ⟨rfl, hr31'⟩ := hr31
 refine lv (.int .i64 x26) (ld_one Try.isAgg3 rfl (hc30 0 _ rfl)) ?_
 refine lp (.bool (decide (x26 = 0))) (pu_eql (k := .i64) (a := x26) (b := 0) rfl rfl) ?_
 refine lp (.bool (decide (x26 = 0))) (pu_move rfl) ?_
 rcases bS (decide (x26 = 0)) with hq32 | hq32
 replace hb := tt hq32 hb
 refine gs rfl rfl (decide (x26 = 0)) rfl hq32 ?_
 refine gs rfl rfl (decide (x26 = 0)) rfl hq32 ?_
 refine gs rfl rfl (decide (x26 = 0)) rfl hq32 ?_
 refine gs rfl rfl (decide (x26 = 0)) rfl hq32 ?_
 refine gs rfl rfl (decide (x26 = 0)) rfl hq32 ?_
 refine gs rfl rfl (decide (x26 = 0)) rfl hq32 ?_
 refine lp (.bool true) (pu_pickT (q := (decide (x26 = 0))) rfl hq32 rfl) ?_
 refine lp (.bool true) (pu_move rfl) ?_
 refine gs rfl rfl true rfl rfl ?_
 refine gs rfl rfl true rfl rfl ?_
 refine gs rfl rfl true rfl rfl ?_
 refine gs rfl rfl true rfl rfl ?_
 refine gs rfl rfl true rfl rfl ?_
 refine gs rfl rfl true rfl rfl ?_
 refine gs rfl rfl true rfl rfl ?_
 refine lp (.bool true) (pu_pickT (q := true) rfl rfl rfl) ?_
 refine ln ?_
 refine hK25 _ _ ?_
 refine Wc.cond_true (rfl) ?_
 refine Wc.seq fun K33 hK33 => ?_
 refine rg ?_
 refine lp (.bool false) (pu_assign rfl) ?_
 refine ln ?_
 refine hK33 _ _ ?_
 obtain rfl := os hb
 obtain rfl := (lX hl0).symm
 replace hb := hbK0
 obtain rfl := os hb
 refine Wc.ret ?_
 refine hKR _ _ ?_
 refine ⟨_, res1 Try.results19 (show RV _ _ _ (.tmp _) (.bool false) from rfl), _, rfl, rfl, hC.sel [] (by decide)⟩
 replace hb := tf hq32 hb
 refine gp rfl rfl (decide (x26 = 0)) rfl hq32 (.slice (some ad28) word_1.length cword_1) (pu_move e1) ?_
 refine gp rfl rfl (decide (x26 = 0)) rfl hq32 (.int .i64 v5_0) (pu_move e5) ?_
 obtain ⟨x34, h35, hb⟩ := bd hb
 obtain ⟨ad36, cs37, hA, hc38, hr39⟩ := hC.elr (i := 0) rfl (get_some h35).2
 obtain rfl := Option.some.inj hA
 refine gp rfl rfl (decide (x26 = 0)) rfl hq32 (.pointer (some (ad28.add (v5_0.toNat * 1)))) (pu_index (a := v5_0) Try.underlying22 Try.sizeOf3 rfl rfl (get_some h35).1) ?_
 obtain ⟨rfl, hr39'⟩ := hr39
 refine gv rfl rfl (decide (x26 = 0)) rfl hq32 (.int .i64 x34) (ld_one Try.isAgg3 rfl (hc38 0 _ rfl)) ?_
 refine gp rfl rfl (decide (x26 = 0)) rfl hq32 (.int .i64 strands_0) (pu_move e0) ?_
 refine gp rfl rfl (decide (x26 = 0)) rfl hq32 (.bool (decide (strands_0 ≤ x34))) (pu_geq (k := .i64) (a := x34) (b := strands_0) rfl rfl) ?_
 refine lp (.bool (decide (strands_0 ≤ x34))) (pu_pickF (q := (decide (x26 = 0))) rfl hq32 rfl) ?_
 refine lp (.bool (decide (strands_0 ≤ x34))) (pu_move rfl) ?_
 rcases bS (decide (strands_0 ≤ x34)) with hq40 | hq40
 replace hb := tt hq40 hb
 refine gs rfl rfl (decide (strands_0 ≤ x34)) rfl hq40 ?_
 refine gs rfl rfl (decide (strands_0 ≤ x34)) rfl hq40 ?_
 refine gs rfl rfl (decide (strands_0 ≤ x34)) rfl hq40 ?_
 refine gs rfl rfl (decide (strands_0 ≤ x34)) rfl hq40 ?_
 refine gs rfl rfl (decide (strands_0 ≤ x34)) rfl hq40 ?_
 refine gs rfl rfl (decide (strands_0 ≤ x34)) rfl hq40 ?_
 refine gs rfl rfl (decide (strands_0 ≤ x34)) rfl hq40 ?_
 refine lp (.bool true) (pu_pickT (q := (decide (strands_0 ≤ x34))) rfl hq40 rfl) ?_
 refine ln ?_
 refine hK25 _ _ ?_
 refine Wc.cond_true (rfl) ?_
 refine Wc.seq fun K41 hK41 => ?_
 refine rg ?_
 refine lp (.bool false) (pu_assign rfl) ?_
 refine ln ?_
 refine hK41 _ _ ?_
 obtain rfl := os hb
 obtain rfl := (lX hl0).symm
 replace hb := hbK0
 obtain rfl := os hb
 refine Wc.ret ?_
 refine hKR _ _ ?_
 refine ⟨_, res1 Try.results19 (show RV _ _ _ (.tmp _) (.bool false) from rfl), _, rfl, rfl, hC.sel [] (by decide)⟩
 replace hb := tf hq40 hb
 refine gp rfl rfl (decide (strands_0 ≤ x34)) rfl hq40 (.slice (some ad28) word_1.length cword_1) (pu_move e1) ?_
 refine gp rfl rfl (decide (strands_0 ≤ x34)) rfl hq40 (.int .i64 v5_0) (pu_move e5) ?_
 obtain ⟨x42, h43, hb⟩ := bd hb
 obtain ⟨ad44, cs45, hA, hc46, hr47⟩ := hC.elr (i := 0) rfl (get_some h43).2
 obtain rfl := Option.some.inj hA
 refine gp rfl rfl (decide (strands_0 ≤ x34)) rfl hq40 (.pointer (some (ad28.add (v5_0.toNat * 1)))) (pu_index (a := v5_0) Try.underlying22 Try.sizeOf3 rfl rfl (get_some h43).1) ?_
 obtain ⟨rfl, hr47'⟩ := hr47
 refine gv rfl rfl (decide (strands_0 ≤ x34)) rfl hq40 (.int .i64 x42) (ld_one Try.isAgg3 rfl (hc46 0 _ rfl)) ?_
 refine gp rfl rfl (decide (strands_0 ≤ x34)) rfl hq40 (.int .i64 strands_0) (pu_move e0) ?_
 obtain ⟨z48, h49, hb⟩ := bd hb
 refine gp rfl rfl (decide (strands_0 ≤ x34)) rfl hq40 (.int .i64 z48) (pu_negc (a := strands_0) rfl h49) ?_
 refine gp rfl rfl (decide (strands_0 ≤ x34)) rfl hq40 (.bool (decide (x42 ≤ z48))) (pu_leq (k := .i64) (a := x42) (b := z48) rfl rfl) ?_
 refine lp (.bool (decide (x42 ≤ z48))) (pu_pickF (q := (decide (strands_0 ≤ x34))) rfl hq40 rfl) ?_
 refine ln ?_
 refine hK25 _ _ ?_
 refine Wc.cond (t := (decide (x42 ≤ z48))) (rfl) (fun hq50 => ?_) (fun hq50 => ?_)
 replace hb := tt hq50 hb
 refine Wc.seq fun K51 hK51 => ?_
 refine rg ?_
 refine lp (.bool false) (pu_assign rfl) ?_
 refine ln ?_
 refine hK51 _ _ ?_
 obtain rfl := os hb
 obtain rfl := (lX hl0).symm
 replace hb := hbK0
 obtain rfl := os hb
 refine Wc.ret ?_
 refine hKR _ _ ?_
 refine ⟨_, res1 Try.results19 (show RV _ _ _ (.tmp _) (.bool false) from rfl), _, rfl, rfl, hC.sel [] (by decide)⟩
 replace hb := tf hq50 hb
 refine Wc.skip ?_
 refine hK24 _ _ ?_
 refine rg ?_
 refine lp (.int .i64 v5_0) (pu_move e5) ?_
 obtain ⟨z52, h53, hb⟩ := bd hb
 refine lp (.int .i64 z52) (pu_addc (a := v5_0) (b := 1) rfl rfl h53) ?_
 refine lp (.int .i64 z52) (pu_assign rfl) ?_
 refine ln ?_
 obtain rfl := os hb
 exact hK16 m17' _ _ (Nat.lt_succ_self _) ⟨z52, e0, e1, e4, rfl, (chk_rng h53), hC.sel [0] (by decide), lN hl0⟩
 replace hb := tf hq23 hb
 refine Wc.exit rfl ?_
 obtain rfl := os hb
 obtain rfl := (lX hl0).symm
 exact hK15 _ _ ⟨v5_0, e4, hrv5_0, hC.sel [] (by decide), hbK0⟩
 clear hb hC hl0
 rintro E55 w54 ⟨v5_0, e4, hrv5_0, hC, hb⟩
 refine hK12 _ _ ?_
 refine Wc.seq fun K56 hK56 => ?_
 refine rg ?_
 refine lp (.bool true) (pu_assign rfl) ?_
 refine ln ?_
 refine hK56 _ _ ?_
 obtain rfl := os hb
 refine Wc.ret ?_
 refine hKR _ _ ?_
 refine ⟨_, res1 Try.results19 (show RV _ _ _ (.tmp _) (.bool true) from rfl), _, rfl, rfl, hC.sel [] (by decide)⟩

set_option maxRecDepth 100000 in
set_option maxHeartbeats 4000000 in
theorem ref42_Same_ok (n : Nat) {w : World} {O0 : List Nat} (hO : ∀ k ∈ O0, k < w.heap.size) {Aa_0_0 : Option Addr} {ma_0_0 ca_0_0 : Nat} {a_0_0 : List Int} (ha_0_0 : Rep O0 w (.sl (.int .i64)) [.slice Aa_0_0 ma_0_0 ca_0_0] a_0_0) {Aa_0_1 : Option Addr} {ma_0_1 ca_0_1 : Nat} {a_0_1 : List Int} (ha_0_1 : Rep O0 w (.sl (.int .i64)) [.slice Aa_0_1 ma_0_1 ca_0_1] a_0_1) {Ab_1_0 : Option Addr} {mb_1_0 cb_1_0 : Nat} {b_1_0 : List Int} (hb_1_0 : Rep O0 w (.sl (.int .i64)) [.slice Ab_1_0 mb_1_0 cb_1_0] b_1_0) {Ab_1_1 : Option Addr} {mb_1_1 cb_1_1 : Nat} {b_1_1 : List Int} (hb_1_1 : Rep O0 w (.sl (.int .i64)) [.slice Ab_1_1 mb_1_1 cb_1_1] b_1_1) {r : Bool} (hb : F.ref42_Same n a_0_0 a_0_1 b_1_0 b_1_1 = some r) :
    Calls Try.prog 20 #[.agg #[.slice Aa_0_0 ma_0_0 ca_0_0, .slice Aa_0_1 ma_0_1 ca_0_1], .agg #[.slice Ab_1_0 mb_1_0 cb_1_0, .slice Ab_1_1 mb_1_1 cb_1_1]] w fun e w' => ∃ v, e = .returned v ∧ v = .bool r ∧ Cx (fun _ => False) O0 w w' [] := by
 unfold F.ref42_Same at hb
 have hC := Cx.start hO
 replace hC := hC.arg rfl ha_0_0
 replace hC := hC.arg rfl ha_0_1
 replace hC := hC.arg rfl hb_1_0
 replace hC := hC.arg rfl hb_1_1
 clear hO
 obtain ⟨rfl, hla_0_0, hca_0_0⟩ := ha_0_0.sl_len
 obtain ⟨rfl, hla_0_1, hca_0_1⟩ := ha_0_1.sl_len
 obtain ⟨rfl, hlb_1_0, hcb_1_0⟩ := hb_1_0.sl_len
 obtain ⟨rfl, hlb_1_1, hcb_1_1⟩ := hb_1_1.sl_len
 refine calls_of_Wc Try.func20 rfl (by rw [Try.ntmps20]; exact Nat.le_of_ble_eq_true rfl) fun KR hKR => ?_
 refine Wc.seq fun K5 hK5 => ?_
 refine rg ?_
 refine lex.op (hC.box (cs := [.slice Aa_0_0 a_0_0.length ca_0_0, .slice Aa_0_1 a_0_1.length ca_0_1]) rfl rfl) ?_
 rintro _ w7 ⟨g6, rfl, hC, hF, hG⟩
 clear hG
 refine lex.op (hC.box (cs := [.slice Ab_1_0 b_1_0.length cb_1_0, .slice Ab_1_1 b_1_1.length cb_1_1]) rfl rfl) ?_
 rintro _ w10 ⟨g9, rfl, hC, hF, hG⟩
 clear hG
 refine lp (.bool false) (pu_assign rfl) ?_
 refine ln ?_
 refine hK5 _ _ ?_
 refine Wc.seq fun K12 hK12 => ?_
 refine rg ?_
 refine lp (.pointer (some ((⟨g6, 0, none⟩ : Addr).add 0))) (pu_field (sz := 1) Try.underlying24 rfl Try.sizeOf22 (by decide) rfl rfl) ?_
 refine lv (.slice Aa_0_0 a_0_0.length ca_0_0) (ld_fld (hC.bx (i := 1) rfl) Try.isAgg22 rfl rfl) ?_
 refine lp (.pointer (some ((⟨g9, 0, none⟩ : Addr).add 0))) (pu_field (sz := 1) Try.underlying24 rfl Try.sizeOf22 (by decide) rfl rfl) ?_
 refine lv (.slice Ab_1_0 b_1_0.length cb_1_0) (ld_fld (hC.bx (i := 0) rfl) Try.isAgg22 rfl rfl) ?_
 obtain ⟨y13, h14, hb⟩ := bd hb
 refine lex.cl (⟨_, _, op_call (vs := [.slice Aa_0_0 a_0_0.length ca_0_0, .slice Ab_1_0 b_1_0.length cb_1_0]) Try.call25 rfl rfl rfl, ref01_Ints_ok n hC.lt (hC.rd (i := 5) rfl) (hC.rd (i := 3) rfl) h14⟩) ?_
 rintro _ w15 ⟨rfl, hK⟩
 replace hC := hC.merge hK
 clear hK
 refine lp (.bool y13) (pu_move rfl) ?_
 rcases bS y13 with hq16 | hq16
 replace hb := tt hq16 hb
 refine gp rfl rfl y13 rfl hq16 (.pointer (some ((⟨g6, 0, none⟩ : Addr).add 1))) (pu_field (sz := 1) Try.underlying24 rfl Try.sizeOf22 (by decide) rfl rfl) ?_
 refine gv rfl rfl y13 rfl hq16 (.slice Aa_0_1 a_0_1.length ca_0_1) (ld_fld (hC.bx (i := 1) rfl) Try.isAgg22 rfl rfl) ?_
 refine gp rfl rfl y13 rfl hq16 (.pointer (some ((⟨g9, 0, none⟩ : Addr).add 1))) (pu_field (sz := 1) Try.underlying24 rfl Try.sizeOf22 (by decide) rfl rfl) ?_
 refine gv rfl rfl y13 rfl hq16 (.slice Ab_1_1 b_1_1.length cb_1_1) (ld_fld (hC.bx (i := 0) rfl) Try.isAgg22 rfl rfl) ?_
 obtain ⟨y17, h18, hb⟩ := bd hb
 refine lex.gcl (want_t rfl rfl (show _ = Value.bool y13 from rfl) hq16) (⟨_, _, op_call (vs := [.slice Aa_0_1 a_0_1.length ca_0_1, .slice Ab_1_1 b_1_1.length cb_1_1]) Try.call25 rfl rfl rfl, ref01_Ints_ok n hC.lt (hC.rd (i := 4) rfl) (hC.rd (i := 2) rfl) h18⟩) ?_
 rintro _ w19 ⟨rfl, hK⟩
 replace hC := hC.merge hK
 clear hK
 refine lp (.bool y17) (pu_pickT (q := y13) rfl hq16 rfl) ?_
 refine lp (.bool y17) (pu_assign rfl) ?_
 refine ln ?_
 refine hK12 _ _ ?_
 obtain rfl := os hb
 refine Wc.ret ?_
 refine hKR _ _ ?_
 refine ⟨_, res1 Try.results20 (show RV _ _ _ (.tmp _) (.bool y17) from rfl), _, rfl, rfl, hC.sel [] (by decide)⟩
 replace hb := tf hq16 hb
 refine gs rfl rfl y13 rfl hq16 ?_
 refine gs rfl rfl y13 rfl hq16 ?_
 refine gs rfl rfl y13 rfl hq16 ?_
 refine gs rfl rfl y13 rfl hq16 ?_
 refine gs rfl rfl y13 rfl hq16 ?_
 refine lp (.bool false) (pu_pickF (q := y13) rfl hq16 rfl) ?_
 refine lp (.bool false) (pu_assign rfl) ?_
 refine ln ?_
 refine hK12 _ _ ?_
 obtain rfl := os hb
 refine Wc.ret ?_
 refine hKR _ _ ?_
 refine ⟨_, res1 Try.results20 (show RV _ _ _ (.tmp _) (.bool false) from rfl), _, rfl, rfl, hC.sel [] (by decide)⟩
end Go.Proofs.Yticemffhlapnnaa
