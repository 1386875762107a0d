/- The walks: part 6. -/
import Derived.Test.YticemffhlapnnaaS
import Derived.Test.YticemffhlapnnaaG3
import Derived.Test.YticemffhlapnnaaG4
import Derived.Test.YticemffhlapnnaaG5
set_option linter.unusedVariables false
set_option linter.unusedSimpArgs false
namespace Go.Proofs.Yticemffhlapnnaa
open Ev
set_option maxRecDepth 100000 in
set_option maxHeartbeats 4000000 in
theorem law44_awake_ok (n : Nat) {w : World} {O0 : List Nat} (hO : ∀ k ∈ O0, k < w.heap.size)  {r : Bool} (hb : F.law44_awake n = some r) :
    Calls Try.prog 11 #[] w fun e w' => ∃ v, e = .returned v ∧ v = .bool r ∧ Cx (fun _ => False) O0 w w' [] := by
 unfold F.law44_awake at hb
 have hC := Cx.start hO
 clear hO
 refine calls_of_Wc Try.func11 rfl (by rw [Try.ntmps11]; exact Nat.le_of_ble_eq_true rfl) fun KR hKR => ?_
 refine Wc.seq fun K1 hK1 => ?_
 refine rg ?_
 refine lp (.bool false) (pu_assign rfl) ?_
 refine ln ?_
 refine hK1 _ _ ?_
 refine Wc.seq fun K2 hK2 => ?_
 refine rg ?_
 refine lex.op (hC.lit (s := (.int .i64)) (vs := [.int .i64 0, .int .i64 1, .int .i64 2, .int .i64 3, .int .i64 4]) (xs := [0, 1, 2, 3, 4]) Try.underlying22 Try.type3 rfl rfl (Nat.le_of_ble_eq_true rfl) rfl rfl (by simp [Value.cells, Sh.n]) rfl (show Elems _ _ (.int .i64) ([.int .i64 0] ++ ([.int .i64 1] ++ ([.int .i64 2] ++ ([.int .i64 3] ++ ([.int .i64 4] ++ ([])))))) ([0, 1, 2, 3, 4] : List Int) from Elems.cons (⟨rfl, I64.wr (show I64 0 from by unfold I64; omega)⟩) (Elems.cons (⟨rfl, I64.wr (show I64 1 from by unfold I64; omega)⟩) (Elems.cons (⟨rfl, I64.wr (show I64 2 from by unfold I64; omega)⟩) (Elems.cons (⟨rfl, I64.wr (show I64 3 from by unfold I64; omega)⟩) (Elems.cons (⟨rfl, I64.wr (show I64 4 from by unfold I64; omega)⟩) (Elems.nil _ _ _))))))) ?_
 rintro _ w7 ⟨A3, c4, rfl, hl5, hc6, hC, hF, hN⟩
 clear hF hN
 refine lex.op (hC.lit (s := (.int .i64)) (vs := [.int .i64 2, .int .i64 3, .int .i64 4, .int .i64 0, .int .i64 1]) (xs := [2, 3, 4, 0, 1]) Try.underlying22 Try.type3 rfl rfl (Nat.le_of_ble_eq_true rfl) rfl rfl (by simp [Value.cells, Sh.n]) rfl (show Elems _ _ (.int .i64) ([.int .i64 2] ++ ([.int .i64 3] ++ ([.int .i64 4] ++ ([.int .i64 0] ++ ([.int .i64 1] ++ ([])))))) ([2, 3, 4, 0, 1] : List Int) from Elems.cons (⟨rfl, I64.wr (show I64 2 from by unfold I64; omega)⟩) (Elems.cons (⟨rfl, I64.wr (show I64 3 from by unfold I64; omega)⟩) (Elems.cons (⟨rfl, I64.wr (show I64 4 from by unfold I64; omega)⟩) (Elems.cons (⟨rfl, I64.wr (show I64 0 from by unfold I64; omega)⟩) (Elems.cons (⟨rfl, I64.wr (show I64 1 from by unfold I64; omega)⟩) (Elems.nil _ _ _))))))) ?_
 rintro _ w13 ⟨A9, c10, rfl, hl11, hc12, hC, hF, hN⟩
 clear hF hN
 refine lp (.agg #[.slice A3 ((([0, 1, 2, 3, 4] : List Int)).length) c4, .slice A9 ((([2, 3, 4, 0, 1] : List Int)).length) c10]) (pu_builds (places := [(0, 1), (1, 1)]) (pv := [(0, .slice A3 ((([0, 1, 2, 3, 4] : List Int)).length) c4), (1, .slice A9 ((([2, 3, 4, 0, 1] : List Int)).length) c10)]) Try.type24 Try.underlying24 rfl (mp_cons Try.type22 (mp_cons Try.type22 mp_nil rfl rfl) rfl rfl) rfl (by simp [Instr.fill, Value.cells])) ?_
 obtain ⟨y15, h16, hb⟩ := bd hb
 refine lex.cl (⟨_, _, op_call (vs := [.agg #[.slice A3 ((([0, 1, 2, 3, 4] : List Int)).length) c4, .slice A9 ((([2, 3, 4, 0, 1] : List Int)).length) c10]]) Try.call13 rfl rfl rfl, gridlink_Diagram_ok n (hC.lentLt [.slice A9 ((([2, 3, 4, 0, 1] : List Int)).length) c10, .slice A3 ((([0, 1, 2, 3, 4] : List Int)).length) c4]) ((hC.ow (i := 1) rfl).lend (vs := [.slice A9 ((([2, 3, 4, 0, 1] : List Int)).length) c10, .slice A3 ((([0, 1, 2, 3, 4] : List Int)).length) c4]) (by simp)) ((hC.ow (i := 0) rfl).lend (vs := [.slice A9 ((([2, 3, 4, 0, 1] : List Int)).length) c10, .slice A3 ((([0, 1, 2, 3, 4] : List Int)).length) c4]) (by simp)) h16⟩) ?_
 rintro _ w27 ⟨A17, m18, c19, A21, m22, c23, rfl, hr25, hr26, hK⟩
 replace hC := hC.mergeF hK rfl
 clear hK
 obtain ⟨rfl, hl28, hc29⟩ := (hC.ow (i := 0) rfl).sl_len
 obtain ⟨rfl, hl30, hc31⟩ := (hC.ow (i := 1) rfl).sl_len
 refine lp (.tuple #[.agg #[.slice A17 y15.1.length c19, .slice A21 y15.2.1.length c23, .int .i64 y15.2.2.1], .int .i64 y15.2.2.2]) (pu_move rfl) ?_
 refine lp (.agg #[.slice A17 y15.1.length c19, .slice A21 y15.2.1.length c23, .int .i64 y15.2.2.1]) (pu_extract rfl rfl) ?_
 refine lp (.int .i64 y15.2.2.2) (pu_extract rfl rfl) ?_
 refine lex.op (hC.alloc (cs := [.slice none 0 0, .slice none 0 0, .int .i64 0]) Try.zeroValue28 rfl) ?_
 rintro _ w33 ⟨g32, rfl, hC, hF, hG⟩
 clear hG
 refine lex.sk (hC.seta (i := 0) (ds := [.slice A17 y15.1.length c19, .slice A21 y15.2.1.length c23, .int .i64 y15.2.2.1]) rfl Try.type28 rfl rfl rfl rfl rfl) ?_
 rintro w35 ⟨hC, hF⟩
 refine lp (.int .i64 y15.2.2.2) (pu_assign rfl) ?_
 refine ln ?_
 refine hK2 _ _ ?_
 refine Wc.fresh fun E36 hE => ?_
 have e0 : E36 0 = .bool false := (congrFun hE 0).trans rfl
 have e1 : E36 1 = .pointer (some ⟨g32, 0, none⟩) := (congrFun hE 1).trans rfl
 have e2 : E36 2 = .int .i64 y15.2.2.2 := (congrFun hE 2).trans rfl
 clear hE
 refine Wc.seq fun K37 hK37 => ?_
 refine rg ?_
 refine lex.op (hC.lit (s := (.int .i64)) (vs := [.int .i64 1]) (xs := [1]) Try.underlying22 Try.type3 rfl rfl (Nat.le_of_ble_eq_true rfl) rfl rfl (by simp [Value.cells, Sh.n]) rfl (show Elems _ _ (.int .i64) ([.int .i64 1] ++ ([])) ([1] : List Int) from Elems.cons (⟨rfl, I64.wr (show I64 1 from by unfold I64; omega)⟩) (Elems.nil _ _ _))) ?_
 rintro _ w42 ⟨A38, c39, rfl, hl40, hc41, hC, hF, hN⟩
 clear hF hN
 refine lp (.agg #[.int .i64 2, .slice A38 ((([1] : List Int)).length) c39]) (pu_builds (places := [(0, 1), (1, 1)]) (pv := [(0, .int .i64 2), (1, .slice A38 ((([1] : List Int)).length) c39)]) Try.type40 Try.underlying40 rfl (mp_cons Try.type3 (mp_cons Try.type22 mp_nil rfl rfl) rfl rfl) rfl (by simp [Instr.fill, Value.cells])) ?_
 obtain ⟨y44, h45, hb⟩ := bd hb
 refine lex.cl (⟨_, _, op_call (vs := [.agg #[.int .i64 2, .slice A38 ((([1] : List Int)).length) c39]]) Try.call18 rfl rfl rfl, gridlink_Braid_ok n (hC.lentLt [.slice A38 ((([1] : List Int)).length) c39]) (show I64 2 from by unfold I64; omega) ((hC.ow (i := 0) rfl).lend (vs := [.slice A38 ((([1] : List Int)).length) c39]) (by simp)) h45⟩) ?_
 rintro _ w55 ⟨A46, m47, c48, A50, m51, c52, rfl, hr54, hK⟩
 replace hC := hC.mergeF hK rfl
 clear hK
 obtain ⟨rfl, hl56, hc57⟩ := (hC.ow (i := 0) rfl).sl_len
 obtain ⟨rfl, hl58, hc59⟩ := (hC.ow (i := 1) rfl).sl_len
 refine lp (.tuple #[.agg #[.slice A46 y44.1.length c48, .slice A50 y44.2.1.length c52], .int .i64 y44.2.2]) (pu_move rfl) ?_
 refine lp (.agg #[.slice A46 y44.1.length c48, .slice A50 y44.2.1.length c52]) (pu_extract rfl rfl) ?_
 refine lp (.int .i64 y44.2.2) (pu_extract rfl rfl) ?_
 refine lex.op (hC.alloc (cs := [.slice none 0 0, .slice none 0 0]) Try.zeroValue24 rfl) ?_
 rintro _ w61 ⟨g60, rfl, hC, hF, hG⟩
 clear hG
 refine lex.sk (hC.seta (i := 0) (ds := [.slice A46 y44.1.length c48, .slice A50 y44.2.1.length c52]) rfl Try.type24 rfl rfl rfl rfl rfl) ?_
 rintro w63 ⟨hC, hF⟩
 refine lp (.int .i64 y44.2.2) (pu_assign rfl) ?_
 refine ln ?_
 refine hK37 _ _ ?_
 refine Wc.seq fun K64 hK64 => ?_
 refine rg ?_
 refine lp (.int .i64 y15.2.2.2) (pu_move e2) ?_
 refine lp (.bool (decide (y15.2.2.2 = 0))) (pu_eql (k := .i64) (a := y15.2.2.2) (b := 0) rfl rfl) ?_
 refine lp (.bool (decide (y15.2.2.2 = 0))) (pu_move rfl) ?_
 rcases bS (decide (y15.2.2.2 = 0)) with hq65 | hq65
 replace hb := tt hq65 hb
 refine gp rfl rfl (decide (y15.2.2.2 = 0)) rfl hq65 (.pointer (some ((⟨g32, 0, none⟩ : Addr).add 0))) (pu_field (sz := 1) Try.underlying28 rfl Try.sizeOf22 (by decide) rfl e1) ?_
 refine gv rfl rfl (decide (y15.2.2.2 = 0)) rfl hq65 (.slice A17 y15.1.length c19) (ld_fld (hC.bx (i := 4) rfl) Try.isAgg22 rfl rfl) ?_
 refine gp rfl rfl (decide (y15.2.2.2 = 0)) rfl hq65 (.int .i64 (y15.1.length : Int)) (pu_len (A := A17) (n := y15.1.length) (m := c19) Try.underlying22 rfl) ?_
 refine gp rfl rfl (decide (y15.2.2.2 = 0)) rfl hq65 (.bool (decide ((y15.1.length : Int) = 3))) (pu_eql (k := .i64) (a := (y15.1.length : Int)) (b := 3) rfl rfl) ?_
 refine lp (.bool (decide ((y15.1.length : Int) = 3))) (pu_pickT (q := (decide (y15.2.2.2 = 0))) rfl hq65 rfl) ?_
 refine lp (.bool (decide ((y15.1.length : Int) = 3))) (pu_move rfl) ?_
 rcases bS (decide ((y15.1.length : Int) = 3)) with hq66 | hq66
 replace hb := tt hq66 hb
 refine gp rfl rfl (decide ((y15.1.length : Int) = 3)) rfl hq66 (.pointer (some ((⟨g32, 0, none⟩ : Addr).add 2))) (pu_field (sz := 1) Try.underlying28 rfl Try.sizeOf3 (by decide) rfl e1) ?_
 refine gv rfl rfl (decide ((y15.1.length : Int) = 3)) rfl hq66 (.int .i64 y15.2.2.1) (ld_fld (hC.bx (i := 4) rfl) Try.isAgg3 rfl rfl) ?_
 refine gp rfl rfl (decide ((y15.1.length : Int) = 3)) rfl hq66 (.bool (decide (y15.2.2.1 = 0))) (pu_eql (k := .i64) (a := y15.2.2.1) (b := 0) rfl rfl) ?_
 refine lp (.bool (decide (y15.2.2.1 = 0))) (pu_pickT (q := (decide ((y15.1.length : Int) = 3))) rfl hq66 rfl) ?_
 refine lp (.bool (decide (y15.2.2.1 = 0))) (pu_move rfl) ?_
 rcases bS (decide (y15.2.2.1 = 0)) with hq67 | hq67
 replace hb := tt hq67 hb
 refine gp rfl rfl (decide (y15.2.2.1 = 0)) rfl hq67 (.int .i64 y44.2.2) (pu_move rfl) ?_
 refine gp rfl rfl (decide (y15.2.2.1 = 0)) rfl hq67 (.bool (decide (y44.2.2 = 0))) (pu_eql (k := .i64) (a := y44.2.2) (b := 0) rfl rfl) ?_
 refine lp (.bool (decide (y44.2.2 = 0))) (pu_pickT (q := (decide (y15.2.2.1 = 0))) rfl hq67 rfl) ?_
 refine lp (.bool (decide (y44.2.2 = 0))) (pu_move rfl) ?_
 rcases bS (decide (y44.2.2 = 0)) with hq68 | hq68
 replace hb := tt hq68 hb
 refine gp rfl rfl (decide (y44.2.2 = 0)) rfl hq68 (.pointer (some ((⟨g60, 0, none⟩ : Addr).add 0))) (pu_field (sz := 1) Try.underlying24 rfl Try.sizeOf22 (by decide) rfl rfl) ?_
 refine gv rfl rfl (decide (y44.2.2 = 0)) rfl hq68 (.slice A46 y44.1.length c48) (ld_fld (hC.bx (i := 0) rfl) Try.isAgg22 rfl rfl) ?_
 refine lex.gop (want_t rfl rfl (show _ = Value.bool (decide (y44.2.2 = 0)) from rfl) hq68) (hC.lit (s := (.int .i64)) (vs := [.int .i64 2, .int .i64 0, .int .i64 1, .int .i64 3, .int .i64 4]) (xs := [2, 0, 1, 3, 4]) Try.underlying22 Try.type3 rfl rfl (Nat.le_of_ble_eq_true rfl) rfl rfl (by simp [Value.cells, Sh.n]) rfl (show Elems _ _ (.int .i64) ([.int .i64 2] ++ ([.int .i64 0] ++ ([.int .i64 1] ++ ([.int .i64 3] ++ ([.int .i64 4] ++ ([])))))) ([2, 0, 1, 3, 4] : List Int) from Elems.cons (⟨rfl, I64.wr (show I64 2 from by unfold I64; omega)⟩) (Elems.cons (⟨rfl, I64.wr (show I64 0 from by unfold I64; omega)⟩) (Elems.cons (⟨rfl, I64.wr (show I64 1 from by unfold I64; omega)⟩) (Elems.cons (⟨rfl, I64.wr (show I64 3 from by unfold I64; omega)⟩) (Elems.cons (⟨rfl, I64.wr (show I64 4 from by unfold I64; omega)⟩) (Elems.nil _ _ _))))))) ?_
 rintro _ w73 ⟨A69, c70, rfl, hl71, hc72, hC, hF, hN⟩
 clear hF hN
 obtain ⟨y75, h76, hb⟩ := bd hb
 refine lex.gcl (want_t rfl rfl (show _ = Value.bool (decide (y44.2.2 = 0)) from rfl) hq68) (⟨_, _, op_call (vs := [.slice A46 y44.1.length c48, .slice A69 ((([2, 0, 1, 3, 4] : List Int)).length) c70]) Try.call25 rfl rfl rfl, ref01_Ints_ok n (hC.lentLt [.slice A46 y44.1.length c48, .slice A69 ((([2, 0, 1, 3, 4] : List Int)).length) c70]) ((hC.ow (i := 2) rfl).lend (vs := [.slice A46 y44.1.length c48, .slice A69 ((([2, 0, 1, 3, 4] : List Int)).length) c70]) (by simp)) ((hC.ow (i := 0) rfl).lend (vs := [.slice A46 y44.1.length c48, .slice A69 ((([2, 0, 1, 3, 4] : List Int)).length) c70]) (by simp)) h76⟩) ?_
 rintro _ w77 ⟨rfl, hK⟩
 replace hC := hC.mergeF hK rfl
 clear hK
 refine lp (.bool y75) (pu_pickT (q := (decide (y44.2.2 = 0))) rfl hq68 rfl) ?_
 refine lp (.bool y75) (pu_move rfl) ?_
 rcases bS y75 with hq78 | hq78
 replace hb := tt hq78 hb
 refine gp rfl rfl y75 rfl hq78 (.pointer (some ((⟨g60, 0, none⟩ : Addr).add 1))) (pu_field (sz := 1) Try.underlying24 rfl Try.sizeOf22 (by decide) rfl rfl) ?_
 refine gv rfl rfl y75 rfl hq78 (.slice A50 y44.2.1.length c52) (ld_fld (hC.bx (i := 1) rfl) Try.isAgg22 rfl rfl) ?_
 refine lex.gop (want_t rfl rfl (show _ = Value.bool y75 from rfl) hq78) (hC.lit (s := (.int .i64)) (vs := [.int .i64 4, .int .i64 3, .int .i64 2, .int .i64 1, .int .i64 0]) (xs := [4, 3, 2, 1, 0]) Try.underlying22 Try.type3 rfl rfl (Nat.le_of_ble_eq_true rfl) rfl rfl (by simp [Value.cells, Sh.n]) rfl (show Elems _ _ (.int .i64) ([.int .i64 4] ++ ([.int .i64 3] ++ ([.int .i64 2] ++ ([.int .i64 1] ++ ([.int .i64 0] ++ ([])))))) ([4, 3, 2, 1, 0] : List Int) from Elems.cons (⟨rfl, I64.wr (show I64 4 from by unfold I64; omega)⟩) (Elems.cons (⟨rfl, I64.wr (show I64 3 from by unfold I64; omega)⟩) (Elems.cons (⟨rfl, I64.wr (show I64 2 from by unfold I64; omega)⟩) (Elems.cons (⟨rfl, I64.wr (show I64 1 from by unfold I64; omega)⟩) (Elems.cons (⟨rfl, I64.wr (show I64 0 from by unfold I64; omega)⟩) (Elems.nil _ _ _))))))) ?_
 rintro _ w83 ⟨A79, c80, rfl, hl81, hc82, hC, hF, hN⟩
 clear hF hN
 obtain ⟨y85, h86, hb⟩ := bd hb
 refine lex.gcl (want_t rfl rfl (show _ = Value.bool y75 from rfl) hq78) (⟨_, _, op_call (vs := [.slice A50 y44.2.1.length c52, .slice A79 ((([4, 3, 2, 1, 0] : List Int)).length) c80]) Try.call25 rfl rfl rfl, ref01_Ints_ok n (hC.lentLt [.slice A50 y44.2.1.length c52, .slice A79 ((([4, 3, 2, 1, 0] : List Int)).length) c80]) ((hC.ow (i := 4) rfl).lend (vs := [.slice A50 y44.2.1.length c52, .slice A79 ((([4, 3, 2, 1, 0] : List Int)).length) c80]) (by simp)) ((hC.ow (i := 0) rfl).lend (vs := [.slice A50 y44.2.1.length c52, .slice A79 ((([4, 3, 2, 1, 0] : List Int)).length) c80]) (by simp)) h86⟩) ?_
 rintro _ w87 ⟨rfl, hK⟩
 replace hC := hC.mergeF hK rfl
 clear hK
 refine lp (.bool y85) (pu_pickT (q := y75) rfl hq78 rfl) ?_
 refine lp (.bool y85) (pu_assign rfl) ?_
 refine ln ?_
 refine hK64 _ _ ?_
 obtain rfl := os hb
 refine Wc.ret ?_
 refine hKR _ _ ?_
 refine ⟨_, res1 Try.results11 (show RV _ _ _ (.tmp _) (.bool y85) from rfl), _, rfl, rfl, hC.sel [] (by decide)⟩
 replace hb := tf hq78 hb
 refine gs rfl rfl y75 rfl hq78 ?_
 refine gs rfl rfl y75 rfl hq78 ?_
 refine gs rfl rfl y75 rfl hq78 ?_
 refine gs rfl rfl y75 rfl hq78 ?_
 refine lp (.bool false) (pu_pickF (q := y75) rfl hq78 rfl) ?_
 refine lp (.bool false) (pu_assign rfl) ?_
 refine ln ?_
 refine hK64 _ _ ?_
 obtain rfl := os hb
 refine Wc.ret ?_
 refine hKR _ _ ?_
 refine ⟨_, res1 Try.results11 (show RV _ _ _ (.tmp _) (.bool false) from rfl), _, rfl, rfl, hC.sel [] (by decide)⟩
 replace hb := tf hq68 hb
 refine gs rfl rfl (decide (y44.2.2 = 0)) rfl hq68 ?_
 refine gs rfl rfl (decide (y44.2.2 = 0)) rfl hq68 ?_
 refine gs rfl rfl (decide (y44.2.2 = 0)) rfl hq68 ?_
 refine gs rfl rfl (decide (y44.2.2 = 0)) rfl hq68 ?_
 refine lp (.bool false) (pu_pickF (q := (decide (y44.2.2 = 0))) rfl hq68 rfl) ?_
 refine lp (.bool false) (pu_move rfl) ?_
 refine gs rfl rfl false rfl rfl ?_
 refine gs rfl rfl false rfl rfl ?_
 refine gs rfl rfl false rfl rfl ?_
 refine gs rfl rfl false rfl rfl ?_
 refine lp (.bool false) (pu_pickF (q := false) rfl rfl rfl) ?_
 refine lp (.bool false) (pu_assign rfl) ?_
 refine ln ?_
 refine hK64 _ _ ?_
 obtain rfl := os hb
 refine Wc.ret ?_
 refine hKR _ _ ?_
 refine ⟨_, res1 Try.results11 (show RV _ _ _ (.tmp _) (.bool false) from rfl), _, rfl, rfl, hC.sel [] (by decide)⟩
 replace hb := tf hq67 hb
 refine gs rfl rfl (decide (y15.2.2.1 = 0)) rfl hq67 ?_
 refine gs rfl rfl (decide (y15.2.2.1 = 0)) rfl hq67 ?_
 refine lp (.bool false) (pu_pickF (q := (decide (y15.2.2.1 = 0))) rfl hq67 rfl) ?_
 refine lp (.bool false) (pu_move rfl) ?_
 refine gs rfl rfl false rfl rfl ?_
 refine gs rfl rfl false rfl rfl ?_
 refine gs rfl rfl false rfl rfl ?_
 refine gs rfl rfl false rfl rfl ?_
 refine lp (.bool false) (pu_pickF (q := false) rfl rfl rfl) ?_
 refine lp (.bool false) (pu_move rfl) ?_
 refine gs rfl rfl false rfl rfl ?_
 refine gs rfl rfl false rfl rfl ?_
 refine gs rfl rfl false rfl rfl ?_
 refine gs rfl rfl false rfl rfl ?_
 refine lp (.bool false) (pu_pickF (q := false) rfl rfl rfl) ?_
 refine lp (.bool false) (pu_assign rfl) ?_
 refine ln ?_
 refine hK64 _ _ ?_
 obtain rfl := os hb
 refine Wc.ret ?_
 refine hKR _ _ ?_
 refine ⟨_, res1 Try.results11 (show RV _ _ _ (.tmp _) (.bool false) from rfl), _, rfl, rfl, hC.sel [] (by decide)⟩
 replace hb := tf hq66 hb
 refine gs rfl rfl (decide ((y15.1.length : Int) = 3)) rfl hq66 ?_
 refine gs rfl rfl (decide ((y15.1.length : Int) = 3)) rfl hq66 ?_
 refine gs rfl rfl (decide ((y15.1.length : Int) = 3)) rfl hq66 ?_
 refine lp (.bool false) (pu_pickF (q := (decide ((y15.1.length : Int) = 3))) rfl hq66 rfl) ?_
 refine lp (.bool false) (pu_move rfl) ?_
 refine gs rfl rfl false rfl rfl ?_
 refine gs rfl rfl false rfl rfl ?_
 refine lp (.bool false) (pu_pickF (q := false) rfl rfl rfl) ?_
 refine lp (.bool false) (pu_move rfl) ?_
 refine gs rfl rfl false rfl rfl ?_
 refine gs rfl rfl false rfl rfl ?_
 refine gs rfl rfl false rfl rfl ?_
 refine gs rfl rfl false rfl rfl ?_
 refine lp (.bool false) (pu_pickF (q := false) rfl rfl rfl) ?_
 refine lp (.bool false) (pu_move rfl) ?_
 refine gs rfl rfl false rfl rfl ?_
 refine gs rfl rfl false rfl rfl ?_
 refine gs rfl rfl false rfl rfl ?_
 refine gs rfl rfl false rfl rfl ?_
 refine lp (.bool false) (pu_pickF (q := false) rfl rfl rfl) ?_
 refine lp (.bool false) (pu_assign rfl) ?_
 refine ln ?_
 refine hK64 _ _ ?_
 obtain rfl := os hb
 refine Wc.ret ?_
 refine hKR _ _ ?_
 refine ⟨_, res1 Try.results11 (show RV _ _ _ (.tmp _) (.bool false) from rfl), _, rfl, rfl, hC.sel [] (by decide)⟩
 replace hb := tf hq65 hb
 refine gs rfl rfl (decide (y15.2.2.2 = 0)) rfl hq65 ?_
 refine gs rfl rfl (decide (y15.2.2.2 = 0)) rfl hq65 ?_
 refine gs rfl rfl (decide (y15.2.2.2 = 0)) rfl hq65 ?_
 refine gs rfl rfl (decide (y15.2.2.2 = 0)) rfl hq65 ?_
 refine lp (.bool false) (pu_pickF (q := (decide (y15.2.2.2 = 0))) rfl hq65 rfl) ?_
 refine lp (.bool false) (pu_move rfl) ?_
 refine gs rfl rfl false rfl rfl ?_
 refine gs rfl rfl false rfl rfl ?_
 refine gs rfl rfl false rfl rfl ?_
 refine lp (.bool false) (pu_pickF (q := false) rfl rfl rfl) ?_
 refine lp (.bool false) (pu_move rfl) ?_
 refine gs rfl rfl false rfl rfl ?_
 refine gs rfl rfl false rfl rfl ?_
 refine lp (.bool false) (pu_pickF (q := false) rfl rfl rfl) ?_
 refine lp (.bool false) (pu_move rfl) ?_
 refine gs rfl rfl false rfl rfl ?_
 refine gs rfl rfl false rfl rfl ?_
 refine gs rfl rfl false rfl rfl ?_
 refine gs rfl rfl false rfl rfl ?_
 refine lp (.bool false) (pu_pickF (q := false) rfl rfl rfl) ?_
 refine lp (.bool false) (pu_move rfl) ?_
 refine gs rfl rfl false rfl rfl ?_
 refine gs rfl rfl false rfl rfl ?_
 refine gs rfl rfl false rfl rfl ?_
 refine gs rfl rfl false rfl rfl ?_
 refine lp (.bool false) (pu_pickF (q := false) rfl rfl rfl) ?_
 refine lp (.bool false) (pu_assign rfl) ?_
 refine ln ?_
 refine hK64 _ _ ?_
 obtain rfl := os hb
 refine Wc.ret ?_
 refine hKR _ _ ?_
 refine ⟨_, res1 Try.results11 (show RV _ _ _ (.tmp _) (.bool false) from rfl), _, rfl, rfl, hC.sel [] (by decide)⟩

set_option maxRecDepth 100000 in
set_option maxHeartbeats 4000000 in
theorem law44_small_ok (n : Nat) {w : World} {O0 : List Nat} (hO : ∀ k ∈ O0, k < w.heap.size) {Ag_0_0 : Option Addr} {mg_0_0 cg_0_0 : Nat} {g_0_0 : List Int} (hg_0_0 : Rep O0 w (.sl (.int .i64)) [.slice Ag_0_0 mg_0_0 cg_0_0] g_0_0) {Ag_0_1 : Option Addr} {mg_0_1 cg_0_1 : Nat} {g_0_1 : List Int} (hg_0_1 : Rep O0 w (.sl (.int .i64)) [.slice Ag_0_1 mg_0_1 cg_0_1] g_0_1) {r : Int} (hb : F.law44_small n g_0_0 g_0_1 = some r) :
    Calls Try.prog 12 #[.agg #[.slice Ag_0_0 mg_0_0 cg_0_0, .slice Ag_0_1 mg_0_1 cg_0_1]] w fun e w' => ∃ v, e = .returned v ∧ v = .int .i64 r ∧ I64 r ∧ Cx (fun _ => False) O0 w w' [] := by
 unfold F.law44_small at hb
 have hC := Cx.start hO
 replace hC := hC.arg rfl hg_0_0
 replace hC := hC.arg rfl hg_0_1
 clear hO
 obtain ⟨rfl, hlg_0_0, hcg_0_0⟩ := hg_0_0.sl_len
 obtain ⟨rfl, hlg_0_1, hcg_0_1⟩ := hg_0_1.sl_len
 refine calls_of_Wc Try.func12 rfl (by rw [Try.ntmps12]; exact Nat.le_of_ble_eq_true rfl) fun KR hKR => ?_
 refine Wc.seq fun K3 hK3 => ?_
 refine rg ?_
 refine lex.op (hC.box (cs := [.slice Ag_0_0 g_0_0.length cg_0_0, .slice Ag_0_1 g_0_1.length cg_0_1]) rfl rfl) ?_
 rintro _ w5 ⟨g4, rfl, hC, hF, hG⟩
 clear hG
 refine lp (.int .i64 0) (pu_assign rfl) ?_
 refine ln ?_
 refine hK3 _ _ ?_
 refine Wc.seq fun K7 hK7 => ?_
 refine Wc.seq fun K8 hK8 => ?_
 refine rg ?_
 refine lp (.pointer (some ((⟨g4, 0, none⟩ : Addr).add 0))) (pu_field (sz := 1) Try.underlying24 rfl Try.sizeOf22 (by decide) rfl rfl) ?_
 refine lv (.slice Ag_0_0 g_0_0.length cg_0_0) (ld_fld (hC.bx (i := 0) rfl) Try.isAgg22 rfl rfl) ?_
 refine lp (.int .i64 (g_0_0.length : Int)) (pu_len (A := Ag_0_0) (n := g_0_0.length) (m := cg_0_0) Try.underlying22 rfl) ?_
 refine lp (.bool (decide (45 < (g_0_0.length : Int)))) (pu_gtr (k := .i64) (a := (g_0_0.length : Int)) (b := 45) rfl rfl) ?_
 refine lp (.bool (decide (45 < (g_0_0.length : Int)))) (pu_move rfl) ?_
 rcases bS (decide (45 < (g_0_0.length : Int))) with hq9 | hq9
 replace hb := tt hq9 hb
 refine gs rfl rfl (decide (45 < (g_0_0.length : Int))) rfl hq9 ?_
 refine gs rfl rfl (decide (45 < (g_0_0.length : Int))) rfl hq9 ?_
 refine gs rfl rfl (decide (45 < (g_0_0.length : Int))) rfl hq9 ?_
 refine gs rfl rfl (decide (45 < (g_0_0.length : Int))) rfl hq9 ?_
 refine lp (.bool true) (pu_pickT (q := (decide (45 < (g_0_0.length : Int)))) rfl hq9 rfl) ?_
 refine lp (.bool true) (pu_move rfl) ?_
 refine gs rfl rfl true rfl rfl ?_
 refine gs rfl rfl true rfl rfl ?_
 refine gs rfl rfl true rfl rfl ?_
 refine gs rfl rfl true rfl rfl ?_
 refine gs rfl rfl true rfl rfl ?_
 refine lex.gskip (want_n rfl rfl rfl) ?_
 refine lex.gskip (want_n rfl rfl rfl) ?_
 refine lex.gskip (want_n rfl rfl rfl) ?_
 refine lex.gskip (want_n rfl rfl rfl) ?_
 refine gs rfl rfl true rfl rfl ?_
 refine lp (.bool true) (pu_pickT (q := true) rfl rfl rfl) ?_
 refine ln ?_
 refine hK8 _ _ ?_
 refine Wc.cond_true (rfl) ?_
 refine Wc.seq fun K10 hK10 => ?_
 refine rg ?_
 refine lp (.int .i64 0) (pu_assign rfl) ?_
 refine ln ?_
 refine hK10 _ _ ?_
 obtain rfl := os hb
 refine Wc.ret ?_
 refine hKR _ _ ?_
 refine ⟨_, res1 Try.results12 (show RV _ _ _ (.tmp _) (.int .i64 0) from rfl), _, rfl, rfl, (show I64 0 from by unfold I64; omega), hC.sel [] (by decide)⟩
 replace hb := tf hq9 hb
 refine gp rfl rfl (decide (45 < (g_0_0.length : Int))) rfl hq9 (.pointer (some ((⟨g4, 0, none⟩ : Addr).add 1))) (pu_field (sz := 1) Try.underlying24 rfl Try.sizeOf22 (by decide) rfl rfl) ?_
 refine gv rfl rfl (decide (45 < (g_0_0.length : Int))) rfl hq9 (.slice Ag_0_1 g_0_1.length cg_0_1) (ld_fld (hC.bx (i := 0) rfl) Try.isAgg22 rfl rfl) ?_
 refine gp rfl rfl (decide (45 < (g_0_0.length : Int))) rfl hq9 (.int .i64 (g_0_1.length : Int)) (pu_len (A := Ag_0_1) (n := g_0_1.length) (m := cg_0_1) Try.underlying22 rfl) ?_
 refine gp rfl rfl (decide (45 < (g_0_0.length : Int))) rfl hq9 (.bool (decide (45 < (g_0_1.length : Int)))) (pu_gtr (k := .i64) (a := (g_0_1.length : Int)) (b := 45) rfl rfl) ?_
 refine lp (.bool (decide (45 < (g_0_1.length : Int)))) (pu_pickF (q := (decide (45 < (g_0_0.length : Int)))) rfl hq9 rfl) ?_
 refine lp (.bool (decide (45 < (g_0_1.length : Int)))) (pu_move rfl) ?_
 rcases bS (decide (45 < (g_0_1.length : Int))) with hq11 | hq11
 replace hb := tt hq11 hb
 refine gs rfl rfl (decide (45 < (g_0_1.length : Int))) rfl hq11 ?_
 refine gs rfl rfl (decide (45 < (g_0_1.length : Int))) rfl hq11 ?_
 refine gs rfl rfl (decide (45 < (g_0_1.length : Int))) rfl hq11 ?_
 refine gs rfl rfl (decide (45 < (g_0_1.length : Int))) rfl hq11 ?_
 refine gs rfl rfl (decide (45 < (g_0_1.length : Int))) rfl hq11 ?_
 refine lex.gskip (want_n rfl rfl rfl) ?_
 refine lex.gskip (want_n rfl rfl rfl) ?_
 refine lex.gskip (want_n rfl rfl rfl) ?_
 refine lex.gskip (want_n rfl rfl rfl) ?_
 refine gs rfl rfl (decide (45 < (g_0_1.length : Int))) rfl hq11 ?_
 refine lp (.bool true) (pu_pickT (q := (decide (45 < (g_0_1.length : Int)))) rfl hq11 rfl) ?_
 refine ln ?_
 refine hK8 _ _ ?_
 refine Wc.cond_true (rfl) ?_
 refine Wc.seq fun K12 hK12 => ?_
 refine rg ?_
 refine lp (.int .i64 0) (pu_assign rfl) ?_
 refine ln ?_
 refine hK12 _ _ ?_
 obtain rfl := os hb
 refine Wc.ret ?_
 refine hKR _ _ ?_
 refine ⟨_, res1 Try.results12 (show RV _ _ _ (.tmp _) (.int .i64 0) from rfl), _, rfl, rfl, (show I64 0 from by unfold I64; omega), hC.sel [] (by decide)⟩
 replace hb := tf hq11 hb
 refine gp rfl rfl (decide (45 < (g_0_1.length : Int))) rfl hq11 (.pointer (some ((⟨g4, 0, none⟩ : Addr).add 0))) (pu_field (sz := 1) Try.underlying24 rfl Try.sizeOf22 (by decide) rfl rfl) ?_
 refine gv rfl rfl (decide (45 < (g_0_1.length : Int))) rfl hq11 (.slice Ag_0_0 g_0_0.length cg_0_0) (ld_fld (hC.bx (i := 0) rfl) Try.isAgg22 rfl rfl) ?_
 refine gp rfl rfl (decide (45 < (g_0_1.length : Int))) rfl hq11 (.int .i64 (g_0_0.length : Int)) (pu_len (A := Ag_0_0) (n := g_0_0.length) (m := cg_0_0) Try.underlying22 rfl) ?_
 refine gp rfl rfl (decide (45 < (g_0_1.length : Int))) rfl hq11 (.bool (decide (12 < (g_0_0.length : Int)))) (pu_gtr (k := .i64) (a := (g_0_0.length : Int)) (b := 12) rfl rfl) ?_
 refine gp rfl rfl (decide (45 < (g_0_1.length : Int))) rfl hq11 (.bool (decide (12 < (g_0_0.length : Int)))) (pu_move rfl) ?_
 rcases bS (decide (12 < (g_0_0.length : Int))) with hq13 | hq13
 replace hb := tt hq13 hb
 refine gp rfl rfl (decide (12 < (g_0_0.length : Int))) rfl hq13 (.pointer (some ((⟨g4, 0, none⟩ : Addr).add 0))) (pu_field (sz := 1) Try.underlying24 rfl Try.sizeOf22 (by decide) rfl rfl) ?_
 refine gv rfl rfl (decide (12 < (g_0_0.length : Int))) rfl hq13 (.slice Ag_0_0 g_0_0.length cg_0_0) (ld_fld (hC.bx (i := 0) rfl) Try.isAgg22 rfl rfl) ?_
 refine gp rfl rfl (decide (12 < (g_0_0.length : Int))) rfl hq13 (.int .i64 (g_0_0.length : Int)) (pu_len (A := Ag_0_0) (n := g_0_0.length) (m := cg_0_0) Try.underlying22 rfl) ?_
 refine gp rfl rfl (decide (12 < (g_0_0.length : Int))) rfl hq13 (.bool (decide ((g_0_0.length : Int) ≤ 40))) (pu_leq (k := .i64) (a := (g_0_0.length : Int)) (b := 40) rfl rfl) ?_
 refine gp rfl rfl (decide (45 < (g_0_1.length : Int))) rfl hq11 (.bool (decide ((g_0_0.length : Int) ≤ 40))) (pu_pickT (q := (decide (12 < (g_0_0.length : Int)))) rfl hq13 rfl) ?_
 refine lp (.bool (decide ((g_0_0.length : Int) ≤ 40))) (pu_pickF (q := (decide (45 < (g_0_1.length : Int)))) rfl hq11 rfl) ?_
 refine ln ?_
 refine hK8 _ _ ?_
 refine Wc.cond (t := (decide ((g_0_0.length : Int) ≤ 40))) (rfl) (fun hq14 => ?_) (fun hq14 => ?_)
 replace hb := tt hq14 hb
 refine Wc.seq fun K15 hK15 => ?_
 refine rg ?_
 refine lp (.int .i64 0) (pu_assign rfl) ?_
 refine ln ?_
 refine hK15 _ _ ?_
 obtain rfl := os hb
 refine Wc.ret ?_
 refine hKR _ _ ?_
 refine ⟨_, res1 Try.results12 (show RV _ _ _ (.tmp _) (.int .i64 0) from rfl), _, rfl, rfl, (show I64 0 from by unfold I64; omega), hC.sel [] (by decide)⟩
 replace hb := tf hq14 hb
 refine Wc.skip ?_
 refine hK7 _ _ ?_
 refine Wc.seq fun K16 hK16 => ?_
 refine rg ?_
 refine lp (.int .i64 1) (pu_assign rfl) ?_
 refine ln ?_
 refine hK16 _ _ ?_
 obtain rfl := os hb
 refine Wc.ret ?_
 refine hKR _ _ ?_
 refine ⟨_, res1 Try.results12 (show RV _ _ _ (.tmp _) (.int .i64 1) from rfl), _, rfl, rfl, (show I64 1 from by unfold I64; omega), hC.sel [] (by decide)⟩
 replace hb := tf hq13 hb
 refine gs rfl rfl (decide (12 < (g_0_0.length : Int))) rfl hq13 ?_
 refine gs rfl rfl (decide (12 < (g_0_0.length : Int))) rfl hq13 ?_
 refine gs rfl rfl (decide (12 < (g_0_0.length : Int))) rfl hq13 ?_
 refine gs rfl rfl (decide (12 < (g_0_0.length : Int))) rfl hq13 ?_
 refine gp rfl rfl (decide (45 < (g_0_1.length : Int))) rfl hq11 (.bool false) (pu_pickF (q := (decide (12 < (g_0_0.length : Int)))) rfl hq13 rfl) ?_
 refine lp (.bool false) (pu_pickF (q := (decide (45 < (g_0_1.length : Int)))) rfl hq11 rfl) ?_
 refine ln ?_
 refine hK8 _ _ ?_
 refine Wc.cond_false (rfl) ?_
 refine Wc.skip ?_
 refine hK7 _ _ ?_
 refine Wc.seq fun K17 hK17 => ?_
 refine rg ?_
 refine lp (.int .i64 1) (pu_assign rfl) ?_
 refine ln ?_
 refine hK17 _ _ ?_
 obtain rfl := os hb
 refine Wc.ret ?_
 refine hKR _ _ ?_
 refine ⟨_, res1 Try.results12 (show RV _ _ _ (.tmp _) (.int .i64 1) from rfl), _, rfl, rfl, (show I64 1 from by unfold I64; omega), hC.sel [] (by decide)⟩

set_option maxRecDepth 100000 in
set_option maxHeartbeats 4000000 in
theorem ref01_In_ok (n : Nat) {w : World} {O0 : List Nat} (hO : ∀ k ∈ O0, k < w.heap.size) {Al_0 : Option Addr} {ml_0 cl_0 : Nat} {l_0 : List Int} (hl_0 : Rep O0 w (.sl (.int .i64)) [.slice Al_0 ml_0 cl_0] l_0) {x_1 : Int} (hx_1 : I64 x_1) {r : Bool} (hb : F.ref01_In n l_0 x_1 = some r) :
    Calls Try.prog 70 #[.slice Al_0 ml_0 cl_0, .int .i64 x_1] w fun e w' => ∃ v, e = .returned v ∧ v = .bool r ∧ Cx (fun _ => False) O0 w w' [] := by
 unfold F.ref01_In at hb
 have hC := Cx.start hO
 replace hC := hC.arg rfl hl_0
 clear hO
 obtain ⟨rfl, hll_0, hcl_0⟩ := hl_0.sl_len
 refine calls_of_Wc Try.func70 rfl (by rw [Try.ntmps70]; exact Nat.le_of_ble_eq_true rfl) fun KR hKR => ?_
 refine Wc.seq fun K2 hK2 => ?_
 refine rg ?_
 refine lp (.bool false) (pu_assign rfl) ?_
 refine ln ?_
 refine hK2 _ _ ?_
 refine Wc.seq fun K3 hK3 => ?_
 refine Wc.seq fun K4 hK4 => ?_
 refine rg ?_
 refine lp (.int .i64 0) (pu_assign rfl) ?_
 refine ln ?_
 refine hK4 _ _ ?_
 obtain ⟨o5, hl0, hb⟩ := bd hb
 refine Wc.cut (fun E wv => ∃ (v5_0 : Int), E 4 = .bool false ∧ I64 v5_0 ∧ Cx (fun _ => False) O0 w wv [] ∧ (some false : Option (Bool)) = some r) (fun K6 hK6 => ?_) ?_
 refine Wc.block ?_
 refine Wc.loop (fun m E wv => ∃ (v5_0 : Int), E 0 = .slice Al_0 l_0.length cl_0 ∧ E 1 = .int .i64 x_1 ∧ E 4 = .bool false ∧ E 5 = .int .i64 v5_0 ∧ I64 v5_0 ∧ Cx (fun _ => False) O0 w wv [.ro (.sl (.int .i64)) [.slice Al_0 l_0.length cl_0] l_0] ∧ loopN m (F.ref01_In_b0 n l_0 x_1) v5_0 = some o5) n ⟨0, rfl, rfl, rfl, rfl, (show I64 0 from by unfold I64; omega), hC.sel [0] (by decide), hl0⟩ ?_
 have hbK0 := hb
 clear hb hC hl0
 rintro m8 E10 w9 ⟨v5_0, e0, e1, e4, e5, hrv5_0, hC, hl0⟩ K7 hK7
 obtain ⟨m8', o11, rfl, hb, hl0⟩ := loopN_some hl0
 unfold F.ref01_In_b0 at hb
 refine Wc.seq fun K12 hK12 => ?_
 refine Wc.seq fun K13 hK13 => ?_
 refine rg ?_
 refine lp (.int .i64 v5_0) (pu_move e5) ?_
 refine lp (.slice Al_0 l_0.length cl_0) (pu_move e0) ?_
 refine lp (.int .i64 (l_0.length : Int)) (pu_len (A := Al_0) (n := l_0.length) (m := cl_0) Try.underlying22 rfl) ?_
 refine lp (.bool (decide (v5_0 < (l_0.length : Int)))) (pu_lss (k := .i64) (a := v5_0) (b := (l_0.length : Int)) rfl rfl) ?_
 refine ln ?_
 refine hK13 _ _ ?_
 refine Wc.cond (t := (decide (v5_0 < (l_0.length : Int)))) (rfl) (fun hq14 => ?_) (fun hq14 => ?_)
 replace hb := tt hq14 hb
 refine Wc.skip ?_
 refine hK12 _ _ ?_
 refine Wc.seq fun K15 hK15 => ?_
 refine Wc.block ?_
 refine Wc.seq fun K16 hK16 => ?_
 refine rg ?_
 refine lp (.slice Al_0 l_0.length cl_0) (pu_move e0) ?_
 refine lp (.int .i64 v5_0) (pu_move e5) ?_
 obtain ⟨x17, h18, hb⟩ := bd hb
 obtain ⟨ad19, cs20, hA, hc21, hr22⟩ := hC.elr (i := 0) rfl (get_some h18).2
 subst hA
 refine lp (.pointer (some (ad19.add (v5_0.toNat * 1)))) (pu_index (a := v5_0) Try.underlying22 Try.sizeOf3 rfl rfl (get_some h18).1) ?_
 obtain ⟨rfl, hr22'⟩ := hr22
 refine lv (.int .i64 x17) (ld_one Try.isAgg3 rfl (hc21 0 _ rfl)) ?_
 refine lp (.int .i64 x_1) (pu_move e1) ?_
 refine lp (.bool (decide (x17 = x_1))) (pu_eql (k := .i64) (a := x17) (b := x_1) rfl rfl) ?_
 refine ln ?_
 refine hK16 _ _ ?_
 refine Wc.cond (t := (decide (x17 = x_1))) (rfl) (fun hq23 => ?_) (fun hq23 => ?_)
 replace hb := tt hq23 hb
 refine Wc.seq fun K24 hK24 => ?_
 refine rg ?_
 refine lp (.bool true) (pu_assign rfl) ?_
 refine ln ?_
 refine hK24 _ _ ?_
 obtain rfl := os hb
 obtain rfl := (lX hl0).symm
 replace hb := hbK0
 obtain rfl := os hb
 refine Wc.ret ?_
 refine hKR _ _ ?_
 refine ⟨_, res1 Try.results70 (show RV _ _ _ (.tmp _) (.bool true) from rfl), _, rfl, rfl, hC.sel [] (by decide)⟩
 replace hb := tf hq23 hb
 refine Wc.skip ?_
 refine hK15 _ _ ?_
 refine rg ?_
 refine lp (.int .i64 v5_0) (pu_move e5) ?_
 obtain ⟨z25, h26, hb⟩ := bd hb
 refine lp (.int .i64 z25) (pu_addc (a := v5_0) (b := 1) rfl rfl h26) ?_
 refine lp (.int .i64 z25) (pu_assign rfl) ?_
 refine ln ?_
 obtain rfl := os hb
 exact hK7 m8' _ _ (Nat.lt_succ_self _) ⟨z25, e0, e1, e4, rfl, (chk_rng h26), hC.sel [0] (by decide), lN hl0⟩
 replace hb := tf hq14 hb
 refine Wc.exit rfl ?_
 obtain rfl := os hb
 obtain rfl := (lX hl0).symm
 exact hK6 _ _ ⟨v5_0, e4, hrv5_0, hC.sel [] (by decide), hbK0⟩
 clear hb hC hl0
 rintro E28 w27 ⟨v5_0, e4, hrv5_0, hC, hb⟩
 refine hK3 _ _ ?_
 refine Wc.seq fun K29 hK29 => ?_
 refine rg ?_
 refine lp (.bool false) (pu_assign rfl) ?_
 refine ln ?_
 refine hK29 _ _ ?_
 obtain rfl := os hb
 refine Wc.ret ?_
 refine hKR _ _ ?_
 refine ⟨_, res1 Try.results70 (show RV _ _ _ (.tmp _) (.bool false) from rfl), _, rfl, rfl, hC.sel [] (by decide)⟩

set_option maxRecDepth 100000 in
set_option maxHeartbeats 4000000 in
theorem ref01_IsPerm_ok (n : Nat) {w : World} {O0 : List Nat} (hO : ∀ k ∈ O0, k < w.heap.size) {Al_0 : Option Addr} {ml_0 cl_0 : Nat} {l_0 : List Int} (hl_0 : Rep O0 w (.sl (.int .i64)) [.slice Al_0 ml_0 cl_0] l_0) {nx_1 : Int} (hnx_1 : I64 nx_1) {r : Bool} (hb : F.ref01_IsPerm n l_0 nx_1 = some r) :
    Calls Try.prog 42 #[.slice Al_0 ml_0 cl_0, .int .i64 nx_1] w fun e w' => ∃ v, e = .returned v ∧ v = .bool r ∧ Cx (fun _ => False) O0 w w' [] := by
 unfold F.ref01_IsPerm at hb
 have hC := Cx.start hO
 replace hC := hC.arg rfl hl_0
 clear hO
 obtain ⟨rfl, hll_0, hcl_0⟩ := hl_0.sl_len
 refine calls_of_Wc Try.func42 rfl (by rw [Try.ntmps42]; exact Nat.le_of_ble_eq_true rfl) fun KR hKR => ?_
 refine Wc.seq fun K2 hK2 => ?_
 refine rg ?_
 refine lp (.bool false) (pu_assign rfl) ?_
 refine ln ?_
 refine hK2 _ _ ?_
 refine Wc.seq fun K3 hK3 => ?_
 refine Wc.seq fun K4 hK4 => ?_
 refine rg ?_
 refine lp (.slice Al_0 l_0.length cl_0) (pu_move rfl) ?_
 refine lp (.int .i64 (l_0.length : Int)) (pu_len (A := Al_0) (n := l_0.length) (m := cl_0) Try.underlying22 rfl) ?_
 refine lp (.int .i64 nx_1) (pu_move rfl) ?_
 refine lp (.bool (!(decide ((l_0.length : Int) = nx_1)))) (pu_neq (k := .i64) (a := (l_0.length : Int)) (b := nx_1) rfl rfl) ?_
 refine ln ?_
 refine hK4 _ _ ?_
 refine Wc.cond (t := (!(decide ((l_0.length : Int) = nx_1)))) (rfl) (fun hq5 => ?_) (fun hq5 => ?_)
 replace hb := tt hq5 hb
 refine Wc.seq fun K6 hK6 => ?_
 refine rg ?_
 refine lp (.bool false) (pu_assign rfl) ?_
 refine ln ?_
 refine hK6 _ _ ?_
 obtain rfl := os hb
 refine Wc.ret ?_
 refine hKR _ _ ?_
 refine ⟨_, res1 Try.results42 (show RV _ _ _ (.tmp _) (.bool false) from rfl), _, rfl, rfl, hC.sel [] (by decide)⟩
 replace hb := tf hq5 hb
 refine Wc.skip ?_
 refine hK3 _ _ ?_
 refine Wc.seq fun K7 hK7 => ?_
 refine Wc.seq fun K8 hK8 => ?_
 refine rg ?_
 refine lp (.int .i64 0) (pu_assign rfl) ?_
 refine ln ?_
 refine hK8 _ _ ?_
 obtain ⟨o9, hl0, hb⟩ := bd hb
 refine Wc.cut (fun E wv => ∃ (v5_0 : Int), E 4 = .bool false ∧ I64 v5_0 ∧ Cx (fun _ => False) O0 w wv [] ∧ (some true : Option (Bool)) = some r) (fun K10 hK10 => ?_) ?_
 refine Wc.block ?_
 refine Wc.loop (fun m E wv => ∃ (v5_0 : Int), E 0 = .slice Al_0 l_0.length cl_0 ∧ E 1 = .int .i64 nx_1 ∧ E 4 = .bool false ∧ E 5 = .int .i64 v5_0 ∧ I64 v5_0 ∧ Cx (fun _ => False) O0 w wv [.ro (.sl (.int .i64)) [.slice Al_0 l_0.length cl_0] l_0] ∧ loopN m (F.ref01_IsPerm_b0 n l_0 nx_1) v5_0 = some o9) n ⟨0, rfl, rfl, rfl, rfl, (show I64 0 from by unfold I64; omega), hC.sel [0] (by decide), hl0⟩ ?_
 have hbK0 := hb
 clear hb hC hl0
 rintro m12 E14 w13 ⟨v5_0, e0, e1, e4, e5, hrv5_0, hC, hl0⟩ K11 hK11
 obtain ⟨m12', o15, rfl, hb, hl0⟩ := loopN_some hl0
 unfold F.ref01_IsPerm_b0 at hb
 refine Wc.seq fun K16 hK16 => ?_
 refine Wc.seq fun K17 hK17 => ?_
 refine rg ?_
 refine lp (.int .i64 v5_0) (pu_move e5) ?_
 refine lp (.int .i64 nx_1) (pu_move e1) ?_
 refine lp (.bool (decide (v5_0 < nx_1))) (pu_lss (k := .i64) (a := v5_0) (b := nx_1) rfl rfl) ?_
 refine ln ?_
 refine hK17 _ _ ?_
 refine Wc.cond (t := (decide (v5_0 < nx_1))) (rfl) (fun hq18 => ?_) (fun hq18 => ?_)
 replace hb := tt hq18 hb
 refine Wc.skip ?_
 refine hK16 _ _ ?_
 refine Wc.seq fun K19 hK19 => ?_
 refine Wc.block ?_
 refine Wc.seq fun K20 hK20 => ?_
 refine rg ?_
 refine lp (.slice Al_0 l_0.length cl_0) (pu_move e0) ?_
 refine lp (.int .i64 v5_0) (pu_move e5) ?_
 obtain ⟨y21, h22, hb⟩ := bd hb
 refine lex.cl (⟨_, _, op_call (vs := [.slice Al_0 l_0.length cl_0, .int .i64 v5_0]) Try.call70 rfl rfl rfl, ref01_In_ok n hC.lt (hC.rd (i := 0) rfl) hrv5_0 h22⟩) ?_
 rintro _ w23 ⟨rfl, hK⟩
 replace hC := hC.merge hK
 clear hK
 refine lp (.bool (!y21)) (pu_not (q := y21) rfl) ?_
 refine ln ?_
 refine hK20 _ _ ?_
 refine Wc.cond (t := (!y21)) (rfl) (fun hq24 => ?_) (fun hq24 => ?_)
 replace hb := tt hq24 hb
 refine Wc.seq fun K25 hK25 => ?_
 refine rg ?_
 refine lp (.bool false) (pu_assign rfl) ?_
 refine ln ?_
 refine hK25 _ _ ?_
 obtain rfl := os hb
 obtain rfl := (lX hl0).symm
 replace hb := hbK0
 obtain rfl := os hb
 refine Wc.ret ?_
 refine hKR _ _ ?_
 refine ⟨_, res1 Try.results42 (show RV _ _ _ (.tmp _) (.bool false) from rfl), _, rfl, rfl, hC.sel [] (by decide)⟩
 replace hb := tf hq24 hb
 refine Wc.skip ?_
 refine hK19 _ _ ?_
 refine rg ?_
 refine lp (.int .i64 v5_0) (pu_move e5) ?_
 obtain ⟨z26, h27, hb⟩ := bd hb
 refine lp (.int .i64 z26) (pu_addc (a := v5_0) (b := 1) rfl rfl h27) ?_
 refine lp (.int .i64 z26) (pu_assign rfl) ?_
 refine ln ?_
 obtain rfl := os hb
 exact hK11 m12' _ _ (Nat.lt_succ_self _) ⟨z26, e0, e1, e4, rfl, (chk_rng h27), hC.sel [0] (by decide), lN hl0⟩
 replace hb := tf hq18 hb
 refine Wc.exit rfl ?_
 obtain rfl := os hb
 obtain rfl := (lX hl0).symm
 exact hK10 _ _ ⟨v5_0, e4, hrv5_0, hC.sel [] (by decide), hbK0⟩
 clear hb hC hl0
 rintro E29 w28 ⟨v5_0, e4, hrv5_0, hC, hb⟩
 refine hK7 _ _ ?_
 refine Wc.seq fun K30 hK30 => ?_
 refine rg ?_
 refine lp (.bool true) (pu_assign rfl) ?_
 refine ln ?_
 refine hK30 _ _ ?_
 obtain rfl := os hb
 refine Wc.ret ?_
 refine hKR _ _ ?_
 refine ⟨_, res1 Try.results42 (show RV _ _ _ (.tmp _) (.bool true) from rfl), _, rfl, rfl, hC.sel [] (by decide)⟩

set_option maxRecDepth 100000 in
set_option maxHeartbeats 4000000 in
theorem ref42_Valid_ok (n : Nat) {w : World} {O0 : List Nat} (hO : ∀ k ∈ O0, k < w.heap.size) {Ag_0_0 : Option Addr} {mg_0_0 cg_0_0 : Nat} {g_0_0 : List Int} (hg_0_0 : Rep O0 w (.sl (.int .i64)) [.slice Ag_0_0 mg_0_0 cg_0_0] g_0_0) {Ag_0_1 : Option Addr} {mg_0_1 cg_0_1 : Nat} {g_0_1 : List Int} (hg_0_1 : Rep O0 w (.sl (.int .i64)) [.slice Ag_0_1 mg_0_1 cg_0_1] g_0_1) {r : Bool} (hb : F.ref42_Valid n g_0_0 g_0_1 = some r) :
    Calls Try.prog 14 #[.agg #[.slice Ag_0_0 mg_0_0 cg_0_0, .slice Ag_0_1 mg_0_1 cg_0_1]] w fun e w' => ∃ v, e = .returned v ∧ v = .bool r ∧ Cx (fun _ => False) O0 w w' [] := by
 unfold F.ref42_Valid at hb
 have hC := Cx.start hO
 replace hC := hC.arg rfl hg_0_0
 replace hC := hC.arg rfl hg_0_1
 clear hO
 obtain ⟨rfl, hlg_0_0, hcg_0_0⟩ := hg_0_0.sl_len
 obtain ⟨rfl, hlg_0_1, hcg_0_1⟩ := hg_0_1.sl_len
 refine calls_of_Wc Try.func14 rfl (by rw [Try.ntmps14]; exact Nat.le_of_ble_eq_true rfl) fun KR hKR => ?_
 refine Wc.seq fun K3 hK3 => ?_
 refine rg ?_
 refine lex.op (hC.box (cs := [.slice Ag_0_0 g_0_0.length cg_0_0, .slice Ag_0_1 g_0_1.length cg_0_1]) rfl rfl) ?_
 rintro _ w5 ⟨g4, rfl, hC, hF, hG⟩
 clear hG
 refine lp (.bool false) (pu_assign rfl) ?_
 refine ln ?_
 refine hK3 _ _ ?_
 refine Wc.seq fun K7 hK7 => ?_
 refine rg ?_
 refine lp (.pointer (some ((⟨g4, 0, none⟩ : Addr).add 0))) (pu_field (sz := 1) Try.underlying24 rfl Try.sizeOf22 (by decide) rfl rfl) ?_
 refine lv (.slice Ag_0_0 g_0_0.length cg_0_0) (ld_fld (hC.bx (i := 0) rfl) Try.isAgg22 rfl rfl) ?_
 refine lp (.int .i64 (g_0_0.length : Int)) (pu_len (A := Ag_0_0) (n := g_0_0.length) (m := cg_0_0) Try.underlying22 rfl) ?_
 refine lp (.int .i64 (g_0_0.length : Int)) (pu_assign rfl) ?_
 refine ln ?_
 refine hK7 _ _ ?_
 refine Wc.seq fun K8 hK8 => ?_
 refine Wc.seq fun K9 hK9 => ?_
 refine rg ?_
 refine lp (.int .i64 (g_0_0.length : Int)) (pu_move rfl) ?_
 refine lp (.bool (decide ((g_0_0.length : Int) < 2))) (pu_lss (k := .i64) (a := (g_0_0.length : Int)) (b := 2) rfl rfl) ?_
 refine lp (.bool (decide ((g_0_0.length : Int) < 2))) (pu_move rfl) ?_
 rcases bS (decide ((g_0_0.length : Int) < 2)) with hq10 | hq10
 replace hb := tt hq10 hb
 refine gs rfl rfl (decide ((g_0_0.length : Int) < 2)) rfl hq10 ?_
 refine gs rfl rfl (decide ((g_0_0.length : Int) < 2)) rfl hq10 ?_
 refine lp (.bool true) (pu_pickT (q := (decide ((g_0_0.length : Int) < 2))) rfl hq10 rfl) ?_
 refine lp (.bool true) (pu_move rfl) ?_
 refine gs rfl rfl true rfl rfl ?_
 refine gs rfl rfl true rfl rfl ?_
 refine gs rfl rfl true rfl rfl ?_
 refine gs rfl rfl true rfl rfl ?_
 refine gs rfl rfl true rfl rfl ?_
 refine lp (.bool true) (pu_pickT (q := true) rfl rfl rfl) ?_
 refine lp (.bool true) (pu_move rfl) ?_
 refine gs rfl rfl true rfl rfl ?_
 refine gs rfl rfl true rfl rfl ?_
 refine gs rfl rfl true rfl rfl ?_
 refine gs rfl rfl true rfl rfl ?_
 refine gs rfl rfl true rfl rfl ?_
 refine lp (.bool true) (pu_pickT (q := true) rfl rfl rfl) ?_
 refine ln ?_
 refine hK9 _ _ ?_
 refine Wc.cond_true (rfl) ?_
 refine Wc.seq fun K11 hK11 => ?_
 refine rg ?_
 refine lp (.bool false) (pu_assign rfl) ?_
 refine ln ?_
 refine hK11 _ _ ?_
 obtain rfl := os hb
 refine Wc.ret ?_
 refine hKR _ _ ?_
 refine ⟨_, res1 Try.results14 (show RV _ _ _ (.tmp _) (.bool false) from rfl), _, rfl, rfl, hC.sel [] (by decide)⟩
 replace hb := tf hq10 hb
 refine gp rfl rfl (decide ((g_0_0.length : Int) < 2)) rfl hq10 (.int .i64 (g_0_0.length : Int)) (pu_move rfl) ?_
 refine gp rfl rfl (decide ((g_0_0.length : Int) < 2)) rfl hq10 (.bool (decide (40 < (g_0_0.length : Int)))) (pu_gtr (k := .i64) (a := (g_0_0.length : Int)) (b := 40) rfl rfl) ?_
 refine lp (.bool (decide (40 < (g_0_0.length : Int)))) (pu_pickF (q := (decide ((g_0_0.length : Int) < 2))) rfl hq10 rfl) ?_
 refine lp (.bool (decide (40 < (g_0_0.length : Int)))) (pu_move rfl) ?_
 rcases bS (decide (40 < (g_0_0.length : Int))) with hq12 | hq12
 replace hb := tt hq12 hb
 refine gs rfl rfl (decide (40 < (g_0_0.length : Int))) rfl hq12 ?_
 refine gs rfl rfl (decide (40 < (g_0_0.length : Int))) rfl hq12 ?_
 refine gs rfl rfl (decide (40 < (g_0_0.length : Int))) rfl hq12 ?_
 refine gs rfl rfl (decide (40 < (g_0_0.length : Int))) rfl hq12 ?_
 refine gs rfl rfl (decide (40 < (g_0_0.length : Int))) rfl hq12 ?_
 refine lp (.bool true) (pu_pickT (q := (decide (40 < (g_0_0.length : Int)))) rfl hq12 rfl) ?_
 refine lp (.bool true) (pu_move rfl) ?_
 refine gs rfl rfl true rfl rfl ?_
 refine gs rfl rfl true rfl rfl ?_
 refine gs rfl rfl true rfl rfl ?_
 refine gs rfl rfl true rfl rfl ?_
 refine gs rfl rfl true rfl rfl ?_
 refine lp (.bool true) (pu_pickT (q := true) rfl rfl rfl) ?_
 refine ln ?_
 refine hK9 _ _ ?_
 refine Wc.cond_true (rfl) ?_
 refine Wc.seq fun K13 hK13 => ?_
 refine rg ?_
 refine lp (.bool false) (pu_assign rfl) ?_
 refine ln ?_
 refine hK13 _ _ ?_
 obtain rfl := os hb
 refine Wc.ret ?_
 refine hKR _ _ ?_
 refine ⟨_, res1 Try.results14 (show RV _ _ _ (.tmp _) (.bool false) from rfl), _, rfl, rfl, hC.sel [] (by decide)⟩
 replace hb := tf hq12 hb
 refine gp rfl rfl (decide (40 < (g_0_0.length : Int))) rfl hq12 (.pointer (some ((⟨g4, 0, none⟩ : Addr).add 0))) (pu_field (sz := 1) Try.underlying24 rfl Try.sizeOf22 (by decide) rfl rfl) ?_
 refine gv rfl rfl (decide (40 < (g_0_0.length : Int))) rfl hq12 (.slice Ag_0_0 g_0_0.length cg_0_0) (ld_fld (hC.bx (i := 0) rfl) Try.isAgg22 rfl rfl) ?_
 refine gp rfl rfl (decide (40 < (g_0_0.length : Int))) rfl hq12 (.int .i64 (g_0_0.length : Int)) (pu_move rfl) ?_
 obtain ⟨y14, h15, hb⟩ := bd hb
 refine lex.gcl (want_t rfl rfl (show _ = Value.bool (decide (40 < (g_0_0.length : Int))) from rfl) hq12) (⟨_, _, op_call (vs := [.slice Ag_0_0 g_0_0.length cg_0_0, .int .i64 (g_0_0.length : Int)]) Try.call42 rfl rfl rfl, ref01_IsPerm_ok n hC.lt (hC.rd (i := 2) rfl) (I64.len hlg_0_0 hcg_0_0) h15⟩) ?_
 rintro _ w16 ⟨rfl, hK⟩
 replace hC := hC.merge hK
 clear hK
 refine gp rfl rfl (decide (40 < (g_0_0.length : Int))) rfl hq12 (.bool (!y14)) (pu_not (q := y14) rfl) ?_
 refine lp (.bool (!y14)) (pu_pickF (q := (decide (40 < (g_0_0.length : Int)))) rfl hq12 rfl) ?_
 refine lp (.bool (!y14)) (pu_move rfl) ?_
 rcases bS (!y14) with hq17 | hq17
 replace hb := tt hq17 hb
 refine gs rfl rfl (!y14) rfl hq17 ?_
 refine gs rfl rfl (!y14) rfl hq17 ?_
 refine gs rfl rfl (!y14) rfl hq17 ?_
 refine gs rfl rfl (!y14) rfl hq17 ?_
 refine gs rfl rfl (!y14) rfl hq17 ?_
 refine lp (.bool true) (pu_pickT (q := (!y14)) rfl hq17 rfl) ?_
 refine ln ?_
 refine hK9 _ _ ?_
 refine Wc.cond_true (rfl) ?_
 refine Wc.seq fun K18 hK18 => ?_
 refine rg ?_
 refine lp (.bool false) (pu_assign rfl) ?_
 refine ln ?_
 refine hK18 _ _ ?_
 obtain rfl := os hb
 refine Wc.ret ?_
 refine hKR _ _ ?_
 refine ⟨_, res1 Try.results14 (show RV _ _ _ (.tmp _) (.bool false) from rfl), _, rfl, rfl, hC.sel [] (by decide)⟩
 replace hb := tf hq17 hb
 refine gp rfl rfl (!y14) rfl hq17 (.pointer (some ((⟨g4, 0, none⟩ : Addr).add 1))) (pu_field (sz := 1) Try.underlying24 rfl Try.sizeOf22 (by decide) rfl rfl) ?_
 refine gv rfl rfl (!y14) rfl hq17 (.slice Ag_0_1 g_0_1.length cg_0_1) (ld_fld (hC.bx (i := 0) rfl) Try.isAgg22 rfl rfl) ?_
 refine gp rfl rfl (!y14) rfl hq17 (.int .i64 (g_0_0.length : Int)) (pu_move rfl) ?_
 obtain ⟨y19, h20, hb⟩ := bd hb
 refine lex.gcl (want_t rfl rfl (show _ = Value.bool (!y14) from rfl) hq17) (⟨_, _, op_call (vs := [.slice Ag_0_1 g_0_1.length cg_0_1, .int .i64 (g_0_0.length : Int)]) Try.call42 rfl rfl rfl, ref01_IsPerm_ok n hC.lt (hC.rd (i := 1) rfl) (I64.len hlg_0_0 hcg_0_0) h20⟩) ?_
 rintro _ w21 ⟨rfl, hK⟩
 replace hC := hC.merge hK
 clear hK
 refine gp rfl rfl (!y14) rfl hq17 (.bool (!y19)) (pu_not (q := y19) rfl) ?_
 refine lp (.bool (!y19)) (pu_pickF (q := (!y14)) rfl hq17 rfl) ?_
 refine ln ?_
 refine hK9 _ _ ?_
 refine Wc.cond (t := (!y19)) (rfl) (fun hq22 => ?_) (fun hq22 => ?_)
 replace hb := tt hq22 hb
 refine Wc.seq fun K23 hK23 => ?_
 refine rg ?_
 refine lp (.bool false) (pu_assign rfl) ?_
 refine ln ?_
 refine hK23 _ _ ?_
 obtain rfl := os hb
 refine Wc.ret ?_
 refine hKR _ _ ?_
 refine ⟨_, res1 Try.results14 (show RV _ _ _ (.tmp _) (.bool false) from rfl), _, rfl, rfl, hC.sel [] (by decide)⟩
 replace hb := tf hq22 hb
 refine Wc.skip ?_
 refine hK8 _ _ ?_
 refine Wc.fresh fun E24 hE => ?_
 have e1 : E24 1 = .pointer (some ⟨g4, 0, none⟩) := (congrFun hE 1).trans rfl
 have e2 : E24 2 = .bool false := (congrFun hE 2).trans rfl
 have e3 : E24 3 = .int .i64 (g_0_0.length : Int) := (congrFun hE 3).trans rfl
 clear hE
 refine Wc.seq fun K25 hK25 => ?_
 refine Wc.seq fun K26 hK26 => ?_
 refine rg ?_
 refine lp (.int .i64 0) (pu_assign rfl) ?_
 refine ln ?_
 refine hK26 _ _ ?_
 obtain ⟨o27, hl0, hb⟩ := bd hb
 refine Wc.cut (fun E wv => ∃ (v4_0 : Int), E 2 = .bool false ∧ I64 v4_0 ∧ Cx (fun _ => False) O0 w wv [] ∧ (some true : Option (Bool)) = some r) (fun K28 hK28 => ?_) ?_
 refine Wc.block ?_
 refine Wc.loop (fun m E wv => ∃ (v4_0 : Int), E 1 = .pointer (some ⟨g4, 0, none⟩) ∧ E 2 = .bool false ∧ E 3 = .int .i64 (g_0_0.length : Int) ∧ E 4 = .int .i64 v4_0 ∧ I64 v4_0 ∧ Cx (fun _ => False) O0 w wv [.box g4 24 [.slice Ag_0_0 g_0_0.length cg_0_0, .slice Ag_0_1 g_0_1.length cg_0_1], .ro (.sl (.int .i64)) [.slice Ag_0_0 g_0_0.length cg_0_0] g_0_0, .ro (.sl (.int .i64)) [.slice Ag_0_1 g_0_1.length cg_0_1] g_0_1] ∧ loopN m (F.ref42_Valid_b0 n g_0_0 g_0_1) v4_0 = some o27) n ⟨0, e1, e2, e3, rfl, (show I64 0 from by unfold I64; omega), hC.sel [0, 2, 1] (by decide), hl0⟩ ?_
 have hbK0 := hb
 clear hb hC hl0
 rintro m30 E32 w31 ⟨v4_0, e1, e2, e3, e4, hrv4_0, hC, hl0⟩ K29 hK29
 obtain ⟨m30', o33, rfl, hb, hl0⟩ := loopN_some hl0
 unfold F.ref42_Valid_b0 at hb
 refine Wc.seq fun K34 hK34 => ?_
 refine Wc.seq fun K35 hK35 => ?_
 refine rg ?_
 refine lp (.int .i64 v4_0) (pu_move e4) ?_
 refine lp (.int .i64 (g_0_0.length : Int)) (pu_move e3) ?_
 refine lp (.bool (decide (v4_0 < (g_0_0.length : Int)))) (pu_lss (k := .i64) (a := v4_0) (b := (g_0_0.length : Int)) rfl rfl) ?_
 refine ln ?_
 refine hK35 _ _ ?_
 refine Wc.cond (t := (decide (v4_0 < (g_0_0.length : Int)))) (rfl) (fun hq36 => ?_) (fun hq36 => ?_)
 replace hb := tt hq36 hb
 refine Wc.skip ?_
 refine hK34 _ _ ?_
 refine Wc.seq fun K37 hK37 => ?_
 refine Wc.block ?_
 refine Wc.seq fun K38 hK38 => ?_
 refine Wc.regionMix [] (frm [] ([] : List Fact) ([] : List Fact)) (fun _ => rfl) mixed (by decide +kernel) (by decide +kernel) fun w40 hw39 => ?_
 replace hC := hC.step (Fr.of_drew hw39)
 have hM := Fr.refl (fun k => k ∈ blocks ([] : List Fact)) w40
 clear hw39
 have hS := hC
 refine mp (.pointer (some ((⟨g4, 0, none⟩ : Addr).add 0))) (pu_field (sz := 1) Try.underlying24 rfl Try.sizeOf22 (by decide) rfl e1) ?_
 refine mixE.load hM (v := .slice Ag_0_0 g_0_0.length cg_0_0) (fun _ hF => ld_fld (hS.bx2 (i := 0) rfl [] (by decide) hF) Try.isAgg22 rfl rfl) ?_
 refine mp (.int .i64 v4_0) (pu_move e4) ?_
 obtain ⟨x41, h42, hb⟩ := bd hb
 obtain ⟨ad43, cs44, hA, ho47, hc45, hr46⟩ := hS.elr2 (i := 1) rfl (get_some h42).2 []
 subst hA
 refine mp (.pointer (some (ad43.add (v4_0.toNat * 1)))) (pu_index (a := v4_0) Try.underlying22 Try.sizeOf3 rfl rfl (get_some h42).1) ?_
 obtain ⟨rfl, hr46'⟩ := hr46
 refine mixE.load hM (v := .int .i64 x41) (fun _ hF => ld_one Try.isAgg3 rfl (hF.cell (hc45 0 _ rfl) (off1 ho47))) ?_
 refine mp (.pointer (some ((⟨g4, 0, none⟩ : Addr).add 1))) (pu_field (sz := 1) Try.underlying24 rfl Try.sizeOf22 (by decide) rfl e1) ?_
 refine mixE.load hM (v := .slice Ag_0_1 g_0_1.length cg_0_1) (fun _ hF => ld_fld (hS.bx2 (i := 0) rfl [] (by decide) hF) Try.isAgg22 rfl rfl) ?_
 refine mp (.int .i64 v4_0) (pu_move e4) ?_
 obtain ⟨x48, h49, hb⟩ := bd hb
 obtain ⟨ad50, cs51, hA, ho54, hc52, hr53⟩ := hS.elr2 (i := 2) rfl (get_some h49).2 []
 subst hA
 refine mp (.pointer (some (ad50.add (v4_0.toNat * 1)))) (pu_index (a := v4_0) Try.underlying22 Try.sizeOf3 rfl rfl (get_some h49).1) ?_
 obtain ⟨rfl, hr53'⟩ := hr53
 refine mixE.load hM (v := .int .i64 x48) (fun _ hF => ld_one Try.isAgg3 rfl (hF.cell (hc52 0 _ rfl) (off1 ho54))) ?_
 refine mp (.bool (decide (x41 = x48))) (pu_eql (k := .i64) (a := x41) (b := x48) rfl rfl) ?_
 refine mixE.nil ?_
 clear hS hM
 refine hK38 _ _ ?_
 refine Wc.cond (t := (decide (x41 = x48))) (rfl) (fun hq55 => ?_) (fun hq55 => ?_)
 replace hb := tt hq55 hb
 refine Wc.seq fun K56 hK56 => ?_
 refine rg ?_
 refine lp (.bool false) (pu_assign rfl) ?_
 refine ln ?_
 refine hK56 _ _ ?_
 obtain rfl := os hb
 obtain rfl := (lX hl0).symm
 replace hb := hbK0
 obtain rfl := os hb
 refine Wc.ret ?_
 refine hKR _ _ ?_
 refine ⟨_, res1 Try.results14 (show RV _ _ _ (.tmp _) (.bool false) from rfl), _, rfl, rfl, hC.sel [] (by decide)⟩
 replace hb := tf hq55 hb
 refine Wc.skip ?_
 refine hK37 _ _ ?_
 refine rg ?_
 refine lp (.int .i64 v4_0) (pu_move e4) ?_
 obtain ⟨z57, h58, hb⟩ := bd hb
 refine lp (.int .i64 z57) (pu_addc (a := v4_0) (b := 1) rfl rfl h58) ?_
 refine lp (.int .i64 z57) (pu_assign rfl) ?_
 refine ln ?_
 obtain rfl := os hb
 exact hK29 m30' _ _ (Nat.lt_succ_self _) ⟨z57, e1, e2, e3, rfl, (chk_rng h58), hC.sel [0, 1, 2] (by decide), lN hl0⟩
 replace hb := tf hq36 hb
 refine Wc.exit rfl ?_
 obtain rfl := os hb
 obtain rfl := (lX hl0).symm
 exact hK28 _ _ ⟨v4_0, e2, hrv4_0, hC.sel [] (by decide), hbK0⟩
 clear hb hC hl0
 rintro E60 w59 ⟨v4_0, e2, hrv4_0, hC, hb⟩
 refine hK25 _ _ ?_
 refine Wc.seq fun K61 hK61 => ?_
 refine rg ?_
 refine lp (.bool true) (pu_assign rfl) ?_
 refine ln ?_
 refine hK61 _ _ ?_
 obtain rfl := os hb
 refine Wc.ret ?_
 refine hKR _ _ ?_
 refine ⟨_, res1 Try.results14 (show RV _ _ _ (.tmp _) (.bool true) from rfl), _, rfl, rfl, hC.sel [] (by decide)⟩
end Go.Proofs.Yticemffhlapnnaa
