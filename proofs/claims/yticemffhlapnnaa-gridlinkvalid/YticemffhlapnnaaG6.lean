/- The walks: part 6. -/
import Derived.Test.YticemffhlapnnaaS
import Derived.Test.YticemffhlapnnaaG3
import Derived.Test.YticemffhlapnnaaG4
import Derived.Test.YticemffhlapnnaaG5
set_option linter.unusedVariables false
set_option linter.unusedSimpArgs false
namespace Go.Proofs.Yticemffhlapnnaa
open Ev
set_option maxRecDepth 100000 in
set_option maxHeartbeats 4000000 in
theorem law44_awake_ok (n : Nat) {w : World} {O0 : List Nat} (hO : ∀ k ∈ O0, k < w.heap.size)  {r : Bool} (hb : F.law44_awake n = some r) :
    Calls Try.prog 11 #[] w fun e w' => ∃ v, e = .returned v ∧ v = .bool r ∧ Cx (fun _ => False) O0 w w' [] := by
 unfold F.law44_awake at hb
 have hC := Cx.start hO
 clear hO
 refine calls_of_Wc Try.func11 rfl (by rw [Try.ntmps11]; exact Nat.le_of_ble_eq_true rfl) fun KR hKR => ?_
 refine Wc.seq fun K1 hK1 => ?_
 refine rg ?_
 refine lp (.bool false) (pu_assign rfl) ?_
 refine ln ?_
 refine hK1 _ _ ?_
 refine Wc.seq fun K2 hK2 => ?_
 refine rg ?_
 refine lex.op (hC.lit (s := (.int .i64)) (vs := [.int .i64 0, .int .i64 1, .int .i64 2, .int .i64 3, .int .i64 4]) (xs := [0, 1, 2, 3, 4]) Try.underlying22 Try.type3 rfl rfl (Nat.le_of_ble_eq_true rfl) rfl rfl (by simp [Value.cells, Sh.n]) rfl (show Elems _ _ (.int .i64) ([.int .i64 0] ++ ([.int .i64 1] ++ ([.int .i64 2] ++ ([.int .i64 3] ++ ([.int .i64 4] ++ ([])))))) ([0, 1, 2, 3, 4] : List Int) from Elems.cons (⟨rfl, I64.wr (show I64 0 from by unfold I64; omega)⟩) (Elems.cons (⟨rfl, I64.wr (show I64 1 from by unfold I64; omega)⟩) (Elems.cons (⟨rfl, I64.wr (show I64 2 from by unfold I64; omega)⟩) (Elems.cons (⟨rfl, I64.wr (show I64 3 from by unfold I64; omega)⟩) (Elems.cons (⟨rfl, I64.wr (show I64 4 from by unfold I64; omega)⟩) (Elems.nil _ _ _))))))) ?_
 rintro _ w7 ⟨A3, c4, rfl, hl5, hc6, hC, hF, hN⟩
 clear hF hN
 refine lex.op (hC.lit (s := (.int .i64)) (vs := [.int .i64 2, .int .i64 3, .int .i64 4, .int .i64 0, .int .i64 1]) (xs := [2, 3, 4, 0, 1]) Try.underlying22 Try.type3 rfl rfl (Nat.le_of_ble_eq_true rfl) rfl rfl (by simp [Value.cells, Sh.n]) rfl (show Elems _ _ (.int .i64) ([.int .i64 2] ++ ([.int .i64 3] ++ ([.int .i64 4] ++ ([.int .i64 0] ++ ([.int .i64 1] ++ ([])))))) ([2, 3, 4, 0, 1] : List Int) from Elems.cons (⟨rfl, I64.wr (show I64 2 from by unfold I64; omega)⟩) (Elems.cons (⟨rfl, I64.wr (show I64 3 from by unfold I64; omega)⟩) (Elems.cons (⟨rfl, I64.wr (show I64 4 from by unfold I64; omega)⟩) (Elems.cons (⟨rfl, I64.wr (show I64 0 from by unfold I64; omega)⟩) (Elems.cons (⟨rfl, I64.wr (show I64 1 from by unfold I64; omega)⟩) (Elems.nil _ _ _))))))) ?_
 rintro _ w13 ⟨A9, c10, rfl, hl11, hc12, hC, hF, hN⟩
 clear hF hN
 refine lp (.agg #[.slice A3 ((([0, 1, 2, 3, 4] : List Int)).length) c4, .slice A9 ((([2, 3, 4, 0, 1] : List Int)).length) c10]) (pu_builds (places := [(0, 1), (1, 1)]) (pv := [(0, .slice A3 ((([0, 1, 2, 3, 4] : List Int)).length) c4), (1, .slice A9 ((([2, 3, 4, 0, 1] : List Int)).length) c10)]) Try.type24 Try.underlying24 rfl (mp_cons Try.type22 (mp_cons Try.type22 mp_nil rfl rfl) rfl rfl) rfl (by simp [Instr.fill, Value.cells])) ?_
 obtain ⟨y15, h16, hb⟩ := bd hb
 refine lex.cl (⟨_, _, op_call (vs := [.agg #[.slice A3 ((([0, 1, 2, 3, 4] : List Int)).length) c4, .slice A9 ((([2, 3, 4, 0, 1] : List Int)).length) c10]]) Try.call13 rfl rfl rfl, gridlink_Diagram_ok n (hC.lentLt [.slice A9 ((([2, 3, 4, 0, 1] : List Int)).length) c10, .slice A3 ((([0, 1, 2, 3, 4] : List Int)).length) c4]) ((hC.ow (i := 1) rfl).lend (vs := [.slice A9 ((([2, 3, 4, 0, 1] : List Int)).length) c10, .slice A3 ((([0, 1, 2, 3, 4] : List Int)).length) c4]) (by simp)) ((hC.ow (i := 0) rfl).lend (vs := [.slice A9 ((([2, 3, 4, 0, 1] : List Int)).length) c10, .slice A3 ((([0, 1, 2, 3, 4] : List Int)).length) c4]) (by simp)) h16⟩) ?_
 rintro _ w27 ⟨A17, m18, c19, A21, m22, c23, rfl, hr25, hr26, hK⟩
 replace hC := hC.mergeF hK rfl
 clear hK
 obtain ⟨rfl, hl28, hc29⟩ := (hC.ow (i := 0) rfl).sl_len
 obtain ⟨rfl, hl30, hc31⟩ := (hC.ow (i := 1) rfl).sl_len
 refine lp (.tuple #[.agg #[.slice A17 y15.1.length c19, .slice A21 y15.2.1.length c23, .int .i64 y15.2.2.1], .int .i64 y15.2.2.2]) (pu_move rfl) ?_
 refine lp (.agg #[.slice A17 y15.1.length c19, .slice A21 y15.2.1.length c23, .int .i64 y15.2.2.1]) (pu_extract rfl rfl) ?_
 refine lp (.int .i64 y15.2.2.2) (pu_extract rfl rfl) ?_
 refine lex.op (hC.alloc (cs := [.slice none 0 0, .slice none 0 0, .int .i64 0]) Try.zeroValue28 rfl) ?_
 rintro _ w33 ⟨g32, rfl, hC, hF, hG⟩
 clear hG
 refine lex.sk (hC.seta (i := 0) (ds := [.slice A17 y15.1.length c19, .slice A21 y15.2.1.length c23, .int .i64 y15.2.2.1]) rfl Try.type28 rfl rfl rfl rfl rfl) ?_
 rintro w35 ⟨hC, hF⟩
 refine lp (.int .i64 y15.2.2.2) (pu_assign rfl) ?_
 refine ln ?_
 refine hK2 _ _ ?_
 refine Wc.fresh fun E36 hE => ?_
 have e0 : E36 0 = .bool false := (congrFun hE 0).trans rfl
 have e1 : E36 1 = .pointer (some ⟨g32, 0, none⟩) := (congrFun hE 1).trans rfl
 have e2 : E36 2 = .int .i64 y15.2.2.2 := (congrFun hE 2).trans rfl
 clear hE
 refine Wc.seq fun K37 hK37 => ?_
 refine rg ?_
 refine lex.op (hC.lit (s := (.int .i64)) (vs := [.int .i64 1]) (xs := [1]) Try.underlying22 Try.type3 rfl rfl (Nat.le_of_ble_eq_true rfl) rfl rfl (by simp [Value.cells, Sh.n]) rfl (show Elems _ _ (.int .i64) ([.int .i64 1] ++ ([])) ([1] : List Int) from Elems.cons (⟨rfl, I64.wr (show I64 1 from by unfold I64; omega)⟩) (Elems.nil _ _ _))) ?_
 rintro _ w42 ⟨A38, c39, rfl, hl40, hc41, hC, hF, hN⟩
 clear hF hN
 refine lp (.agg #[.int .i64 2, .slice A38 ((([1] : List Int)).length) c39]) (pu_builds (places := [(0, 1), (1, 1)]) (pv := [(0, .int .i64 2), (1, .slice A38 ((([1] : List Int)).length) c39)]) Try.type40 Try.underlying40 rfl (mp_cons Try.type3 (mp_cons Try.type22 mp_nil rfl rfl) rfl rfl) rfl (by simp [Instr.fill, Value.cells])) ?_
 obtain ⟨y44, h45, hb⟩ := bd hb
 refine lex.cl (⟨_, _, op_call (vs := [.agg #[.int .i64 2, .slice A38 ((([1] : List Int)).length) c39]]) Try.call18 rfl rfl rfl, gridlink_Braid_ok n (hC.lentLt [.slice A38 ((([1] : List Int)).length) c39]) (show I64 2 from by unfold I64; omega) ((hC.ow (i := 0) rfl).lend (vs := [.slice A38 ((([1] : List Int)).length) c39]) (by simp)) h45⟩) ?_
 rintro _ w55 ⟨A46, m47, c48, A50, m51, c52, rfl, hr54, hK⟩
 replace hC := hC.mergeF hK rfl
 clear hK
 obtain ⟨rfl, hl56, hc57⟩ := (hC.ow (i := 0) rfl).sl_len
 obtain ⟨rfl, hl58, hc59⟩ := (hC.ow (i := 1) rfl).sl_len
 refine lp (.tuple #[.agg #[.slice A46 y44.1.length c48, .slice A50 y44.2.1.length c52], .int .i64 y44.2.2]) (pu_move rfl) ?_
 refine lp (.agg #[.slice A46 y44.1.length c48, .slice A50 y44.2.1.length c52]) (pu_extract rfl rfl) ?_
 refine lp (.int .i64 y44.2.2) (pu_extract rfl rfl) ?_
 refine lex.op (hC.alloc (cs := [.slice none 0 0, .slice none 0 0]) Try.zeroValue24 rfl) ?_
 rintro _ w61 ⟨g60, rfl, hC, hF, hG⟩
 clear hG
 refine lex.sk (hC.seta (i := 0) (ds := [.slice A46 y44.1.length c48, .slice A50 y44.2.1.length c52]) rfl Try.type24 rfl rfl rfl rfl rfl) ?_
 rintro w63 ⟨hC, hF⟩
 refine lp (.int .i64 y44.2.2) (pu_assign rfl) ?_
 refine ln ?_
 refine hK37 _ _ ?_
 refine Wc.seq fun K64 hK64 => ?_
 refine rg ?_
 refine lp (.int .i64 y15.2.2.2) (pu_move e2) ?_
 refine lp (.bool (decide (y15.2.2.2 = 0))) (pu_eql (k := .i64) (a := y15.2.2.2) (b := 0) rfl rfl) ?_
 refine lp (.bool (decide (y15.2.2.2 = 0))) (pu_move rfl) ?_
 rcases bS (decide (y15.2.2.2 = 0)) with hq65 | hq65
 replace hb := tt hq65 hb
 refine gp rfl rfl (decide (y15.2.2.2 = 0)) rfl hq65 (.pointer (some ((⟨g32, 0, none⟩ : Addr).add 0))) (pu_field (sz := 1) Try.underlying28 rfl Try.sizeOf22 (by decide) rfl e1) ?_
 refine gv rfl rfl (decide (y15.2.2.2 = 0)) rfl hq65 (.slice A17 y15.1.length c19) (ld_fld (hC.bx (i := 4) rfl) Try.isAgg22 rfl rfl) ?_
 refine gp rfl rfl (decide (y15.2.2.2 = 0)) rfl hq65 (.int .i64 (y15.1.length : Int)) (pu_len (A := A17) (n := y15.1.length) (m := c19) Try.underlying22 rfl) ?_
 refine gp rfl rfl (decide (y15.2.2.2 = 0)) rfl hq65 (.bool (decide ((y15.1.length : Int) = 3))) (pu_eql (k := .i64) (a := (y15.1.length : Int)) (b := 3) rfl rfl) ?_
 refine lp (.bool (decide ((y15.1.length : Int) = 3))) (pu_pickT (q := (decide (y15.2.2.2 = 0))) rfl hq65 rfl) ?_
 refine lp (.bool (decide ((y15.1.length : Int) = 3))) (pu_move rfl) ?_
 rcases bS (decide ((y15.1.length : Int) = 3)) with hq66 | hq66
 replace hb := tt hq66 hb
 refine gp rfl rfl (decide ((y15.1.length : Int) = 3)) rfl hq66 (.pointer (some ((⟨g32, 0, none⟩ : Addr).add 2))) (pu_field (sz := 1) Try.underlying28 rfl Try.sizeOf3 (by decide) rfl e1) ?_
 refine gv rfl rfl (decide ((y15.1.length : Int) = 3)) rfl hq66 (.int .i64 y15.2.2.1) (ld_fld (hC.bx (i := 4) rfl) Try.isAgg3 rfl rfl) ?_
 refine gp rfl rfl (decide ((y15.1.length : Int) = 3)) rfl hq66 (.bool (decide (y15.2.2.1 = 0))) (pu_eql (k := .i64) (a := y15.2.2.1) (b := 0) rfl rfl) ?_
 refine lp (.bool (decide (y15.2.2.1 = 0))) (pu_pickT (q := (decide ((y15.1.length : Int) = 3))) rfl hq66 rfl) ?_
 refine lp (.bool (decide (y15.2.2.1 = 0))) (pu_move rfl) ?_
 rcases bS (decide (y15.2.2.1 = 0)) with hq67 | hq67
 replace hb := tt hq67 hb
 refine gp rfl rfl (decide (y15.2.2.1 = 0)) rfl hq67 (.int .i64 y44.2.2) (pu_move rfl) ?_
 refine gp rfl rfl (decide (y15.2.2.1 = 0)) rfl hq67 (.bool (decide (y44.2.2 = 0))) (pu_eql (k := .i64) (a := y44.2.2) (b := 0) rfl rfl) ?_
 refine lp (.bool (decide (y44.2.2 = 0))) (pu_pickT (q := (decide (y15.2.2.1 = 0))) rfl hq67 rfl) ?_
 refine lp (.bool (decide (y44.2.2 = 0))) (pu_move rfl) ?_
 rcases bS (decide (y44.2.2 = 0)) with hq68 | hq68
 replace hb := tt hq68 hb
 refine gp rfl rfl (decide (y44.2.2 = 0)) rfl hq68 (.pointer (some ((⟨g60, 0, none⟩ : Addr).add 0))) (pu_field (sz := 1) Try.underlying24 rfl Try.sizeOf22 (by decide) rfl rfl) ?_
 refine gv rfl rfl (decide (y44.2.2 = 0)) rfl hq68 (.slice A46 y44.1.length c48) (ld_fld (hC.bx (i := 0) rfl) Try.isAgg22 rfl rfl) ?_
 refine lex.gop (want_t rfl rfl (show _ = Value.bool (decide (y44.2.2 = 0)) from rfl) hq68) (hC.lit (s := (.int .i64)) (vs := [.int .i64 2, .int .i64 0, .int .i64 1, .int .i64 3, .int .i64 4]) (xs := [2, 0, 1, 3, 4]) Try.underlying22 Try.type3 rfl rfl (Nat.le_of_ble_eq_true rfl) rfl rfl (by simp [Value.cells, Sh.n]) rfl (show Elems _ _ (.int .i64) ([.int .i64 2] ++ ([.int .i64 0] ++ ([.int .i64 1] ++ ([.int .i64 3] ++ ([.int .i64 4] ++ ([])))))) ([2, 0, 1, 3, 4] : List Int) from Elems.cons (⟨rfl, I64.wr (show I64 2 from by unfold I64; omega)⟩) (Elems.cons (⟨rfl, I64.wr (show I64 0 from by unfold I64; omega)⟩) (Elems.cons (⟨rfl, I64.wr (show I64 1 from by unfold I64; omega)⟩) (Elems.cons (⟨rfl, I64.wr (show I64 3 from by unfold I64; omega)⟩) (Elems.cons (⟨rfl, I64.wr (show I64 4 from by unfold I64; omega)⟩) (Elems.nil _ _ _))))))) ?_
 rintro _ w73 ⟨A69, c70, rfl, hl71, hc72, hC, hF, hN⟩
 clear hF hN
 obtain ⟨y75, h76, hb⟩ := bd hb
 refine lex.gcl (want_t rfl rfl (show _ = Value.bool (decide (y44.2.2 = 0)) from rfl) hq68) (⟨_, _, op_call (vs := [.slice A46 y44.1.length c48, .slice A69 ((([2, 0, 1, 3, 4] : List Int)).length) c70]) Try.call25 rfl rfl rfl, ref01_Ints_ok n (hC.lentLt [.slice A46 y44.1.length c48, .slice A69 ((([2, 0, 1, 3, 4] : List Int)).length) c70]) ((hC.ow (i := 2) rfl).lend (vs := [.slice A46 y44.1.length c48, .slice A69 ((([2, 0, 1, 3, 4] : List Int)).length) c70]) (by simp)) ((hC.ow (i := 0) rfl).lend (vs := [.slice A46 y44.1.length c48, .slice A69 ((([2, 0, 1, 3, 4] : List Int)).length) c70]) (by simp)) h76⟩) ?_
 rintro _ w77 ⟨rfl, hK⟩
 replace hC := hC.mergeF hK rfl
 clear hK
 refine lp (.bool y75) (pu_pickT (q := (decide (y44.2.2 = 0))) rfl hq68 rfl) ?_
 refine lp (.bool y75) (pu_move rfl) ?_
 rcases bS y75 with hq78 | hq78
 replace hb := tt hq78 hb
 refine gp rfl rfl y75 rfl hq78 (.pointer (some ((⟨g60, 0, none⟩ : Addr).add 1))) (pu_field (sz := 1) Try.underlying24 rfl Try.sizeOf22 (by decide) rfl rfl) ?_
 refine gv rfl rfl y75 rfl hq78 (.slice A50 y44.2.1.length c52) (ld_fld (hC.bx (i := 1) rfl) Try.isAgg22 rfl rfl) ?_
 refine lex.gop (want_t rfl rfl (show _ = Value.bool y75 from rfl) hq78) (hC.lit (s := (.int .i64)) (vs := [.int .i64 4, .int .i64 3, .int .i64 2, .int .i64 1, .int .i64 0]) (xs := [4, 3, 2, 1, 0]) Try.underlying22 Try.type3 rfl rfl (Nat.le_of_ble_eq_true rfl) rfl rfl (by simp [Value.cells, Sh.n]) rfl (show Elems _ _ (.int .i64) ([.int .i64 4] ++ ([.int .i64 3] ++ ([.int .i64 2] ++ ([.int .i64 1] ++ ([.int .i64 0] ++ ([])))))) ([4, 3, 2, 1, 0] : List Int) from Elems.cons (⟨rfl, I64.wr (show I64 4 from by unfold I64; omega)⟩) (Elems.cons (⟨rfl, I64.wr (show I64 3 from by unfold I64; omega)⟩) (Elems.cons (⟨rfl, I64.wr (show I64 2 from by unfold I64; omega)⟩) (Elems.cons (⟨rfl, I64.wr (show I64 1 from by unfold I64; omega)⟩) (Elems.cons (⟨rfl, I64.wr (show I64 0 from by unfold I64; omega)⟩) (Elems.nil _ _ _))))))) ?_
 rintro _ w83 ⟨A79, c80, rfl, hl81, hc82, hC, hF, hN⟩
 clear hF hN
 obtain ⟨y85, h86, hb⟩ := bd hb
 refine lex.gcl (want_t rfl rfl (show _ = Value.bool y75 from rfl) hq78) (⟨_, _, op_call (vs := [.slice A50 y44.2.1.length c52, .slice A79 ((([4, 3, 2, 1, 0] : List Int)).length) c80]) Try.call25 rfl rfl rfl, ref01_Ints_ok n (hC.lentLt [.slice A50 y44.2.1.length c52, .slice A79 ((([4, 3, 2, 1, 0] : List Int)).length) c80]) ((hC.ow (i := 4) rfl).lend (vs := [.slice A50 y44.2.1.length c52, .slice A79 ((([4, 3, 2, 1, 0] : List Int)).length) c80]) (by simp)) ((hC.ow (i := 0) rfl).lend (vs := [.slice A50 y44.2.1.length c52, .slice A79 ((([4, 3, 2, 1, 0] : List Int)).length) c80]) (by simp)) h86⟩) ?_
 rintro _ w87 ⟨rfl, hK⟩
 replace hC := hC.mergeF hK rfl
 clear hK
 refine lp (.bool y85) (pu_pickT (q := y75) rfl hq78 rfl) ?_
 refine lp (.bool y85) (pu_assign rfl) ?_
 refine ln ?_
 refine hK64 _ _ ?_
 obtain rfl := os hb
 refine Wc.ret ?_
 refine hKR _ _ ?_
 refine ⟨_, res1 Try.results11 (show RV _ _ _ (.tmp _) (.bool y85) from rfl), _, rfl, rfl, hC.sel [] (by decide)⟩
 replace hb := tf hq78 hb
 refine gs rfl rfl y75 rfl hq78 ?_
 refine gs rfl rfl y75 rfl hq78 ?_
 refine gs rfl rfl y75 rfl hq78 ?_
 refine gs rfl rfl y75 rfl hq78 ?_
 refine lp (.bool false) (pu_pickF (q := y75) rfl hq78 rfl) ?_
 refine lp (.bool false) (pu_assign rfl) ?_
 refine ln ?_
 refine hK64 _ _ ?_
 obtain rfl := os hb
 refine Wc.ret ?_
 refine hKR _ _ ?_
 refine ⟨_, res1 Try.results11 (show RV _ _ _ (.tmp _) (.bool false) from rfl), _, rfl, rfl, hC.sel [] (by decide)⟩
 replace hb := tf hq68 hb
 refine gs rfl rfl (decide (y44.2.2 = 0)) rfl hq68 ?_
 refine gs rfl rfl (decide (y44.2.2 = 0)) rfl hq68 ?_
 refine gs rfl rfl (decide (y44.2.2 = 0)) rfl hq68 ?_
 refine gs rfl rfl (decide (y44.2.2 = 0)) rfl hq68 ?_
 refine lp (.bool false) (pu_pickF (q := (decide (y44.2.2 = 0))) rfl hq68 rfl) ?_
 refine lp (.bool false) (pu_move rfl) ?_
 refine gs rfl rfl false rfl rfl ?_
 refine gs rfl rfl false rfl rfl ?_
 refine gs rfl rfl false rfl rfl ?_
 refine gs rfl rfl false rfl rfl ?_
 refine lp (.bool false) (pu_pickF (q := false) rfl rfl rfl) ?_
 refine lp (.bool false) (pu_assign rfl) ?_
 refine ln ?_
 refine hK64 _ _ ?_
 obtain rfl := os hb
 refine Wc.ret ?_
 refine hKR _ _ ?_
 refine ⟨_, res1 Try.results11 (show RV _ _ _ (.tmp _) (.bool false) from rfl), _, rfl, rfl, hC.sel [] (by decide)⟩
 replace hb := tf hq67 hb
 refine gs rfl rfl (decide (y15.2.2.1 = 0)) rfl hq67 ?_
 refine gs rfl rfl (decide (y15.2.2.1 = 0)) rfl hq67 ?_
 refine lp (.bool false) (pu_pickF (q := (decide (y15.2.2.1 = 0))) rfl hq67 rfl) ?_
 refine lp (.bool false) (pu_move rfl) ?_
 refine gs rfl rfl false rfl rfl ?_
 refine gs rfl rfl false rfl rfl ?_
 refine gs rfl rfl false rfl rfl ?_
 refine gs rfl rfl false rfl rfl ?_
 refine lp (.bool false) (pu_pickF (q := false) rfl rfl rfl) ?_
 refine lp (.bool false) (pu_move rfl) ?_
 refine gs rfl rfl false rfl rfl ?_
 refine gs rfl rfl false rfl rfl ?_
 refine gs rfl rfl false rfl rfl ?_
 refine gs rfl rfl false rfl rfl ?_
 refine lp (.bool false) (pu_pickF (q := false) rfl rfl rfl) ?_
 refine lp (.bool false) (pu_assign rfl) ?_
 refine ln ?_
 refine hK64 _ _ ?_
 obtain rfl := os hb
 refine Wc.ret ?_
 refine hKR _ _ ?_
 refine ⟨_, res1 Try.results11 (show RV _ _ _ (.tmp _) (.bool false) from rfl), _, rfl, rfl, hC.sel [] (by decide)⟩
 replace hb := tf hq66 hb
 refine gs rfl rfl (decide ((y15.1.length : Int) = 3)) rfl hq66 ?_
 refine gs rfl rfl (decide ((y15.1.length : Int) = 3)) rfl hq66 ?_
 refine gs rfl rfl (decide ((y15.1.length : Int) = 3)) rfl hq66 ?_
 refine lp (.bool false) (pu_pickF (q := (decide ((y15.1.length : Int) = 3))) rfl hq66 rfl) ?_
 refine lp (.bool false) (pu_move rfl) ?_
 refine gs rfl rfl false rfl rfl ?_
 refine gs rfl rfl false rfl rfl ?_
 refine lp (.bool false) (pu_pickF (q := false) rfl rfl rfl) ?_
 refine lp (.bool false) (pu_move rfl) ?_
 refine gs rfl rfl false rfl rfl ?_
 refine gs rfl rfl false rfl rfl ?_
 refine gs rfl rfl false rfl rfl ?_
 refine gs rfl rfl false rfl rfl ?_
 refine lp (.bool false) (pu_pickF (q := false) rfl rfl rfl) ?_
 refine lp (.bool false) (pu_move rfl) ?_
 refine gs rfl rfl false rfl rfl ?_
 refine gs rfl rfl false rfl rfl ?_
 refine gs rfl rfl false rfl rfl ?_
 refine gs rfl rfl false rfl rfl ?_
 refine lp (.bool false) (pu_pickF (q := false) rfl rfl rfl) ?_
 refine lp (.bool false) (pu_assign rfl) ?_
 refine ln ?_
 refine hK64 _ _ ?_
 obtain rfl := os hb
 refine Wc.ret ?_
 refine hKR _ _ ?_
 refine ⟨_, res1 Try.results11 (show RV _ _ _ (.tmp _) (.bool false) from rfl), _, rfl, rfl, hC.sel [] (by decide)⟩
 replace hb := tf hq65 hb
 refine gs rfl rfl (decide (y15.2.2.2 = 0)) rfl hq65 ?_
 refine gs rfl rfl (decide (y15.2.2.2 = 0)) rfl hq65 ?_
 refine gs rfl rfl (decide (y15.2.2.2 = 0)) rfl hq65 ?_
 refine gs rfl rfl (decide (y15.2.2.2 = 0)) rfl hq65 ?_
 refine lp (.bool false) (pu_pickF (q := (decide (y15.2.2.2 = 0))) rfl hq65 rfl) ?_
 refine lp (.bool false) (pu_move rfl) ?_
 refine gs rfl rfl false rfl rfl ?_
 refine gs rfl rfl false rfl rfl ?_
 refine gs rfl rfl false rfl rfl ?_
 refine lp (.bool false) (pu_pickF (q := false) rfl rfl rfl) ?_
 refine lp (.bool false) (pu_move rfl) ?_
 refine gs rfl rfl false rfl rfl ?_
 refine gs rfl rfl false rfl rfl ?_
 refine lp (.bool false) (pu_pickF (q := false) rfl rfl rfl) ?_
 refine lp (.bool false) (pu_move rfl) ?_
 refine gs rfl rfl false rfl rfl ?_
 refine gs rfl rfl false rfl rfl ?_
 refine gs rfl rfl false rfl rfl ?_
 refine gs rfl rfl false rfl rfl ?_
 refine lp (.bool false) (pu_pickF (q := false) rfl rfl rfl) ?_
 refine lp (.bool false) (pu_move rfl) ?_
 refine gs rfl rfl false rfl rfl ?_
 refine gs rfl rfl false rfl rfl ?_
 refine gs rfl rfl false rfl rfl ?_
 refine gs rfl rfl false rfl rfl ?_
 refine lp (.bool false) (pu_pickF (q := false) rfl rfl rfl) ?_
 refine lp (.bool false) (pu_assign rfl) ?_
 refine ln ?_
 refine hK64 _ _ ?_
 obtain rfl := os hb
 refine Wc.ret ?_
 refine hKR _ _ ?_
 refine ⟨_, res1 Try.results11 (show RV _ _ _ (.tmp _) (.bool false) from rfl), _, rfl, rfl, hC.sel [] (by decide)⟩
end Go.Proofs.Yticemffhlapnnaa
