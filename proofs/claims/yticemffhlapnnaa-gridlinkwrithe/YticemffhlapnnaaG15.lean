/- The walks: part 15. -/
import Derived.Test.YticemffhlapnnaaS
import Derived.Test.YticemffhlapnnaaG3
import Derived.Test.YticemffhlapnnaaG4
import Derived.Test.YticemffhlapnnaaG5
import Derived.Test.YticemffhlapnnaaG6
set_option linter.unusedVariables false
set_option linter.unusedSimpArgs false
namespace Go.Proofs.Yticemffhlapnnaa
open Ev
set_option maxRecDepth 100000 in
set_option maxHeartbeats 4000000 in
theorem law44_GridlinkWrithe_ok (n : Nat) {w : World} {O0 : List Nat} (hO : ∀ k ∈ O0, k < w.heap.size) {strands_0 : Int} (hstrands_0 : I64 strands_0) {Aword_1 : Option Addr} {mword_1 cword_1 : Nat} {word_1 : List Int} (hword_1 : Rep O0 w (.sl (.int .i64)) [.slice Aword_1 mword_1 cword_1] word_1) {r : Bool} (hb : F.law44_GridlinkWrithe n strands_0 word_1 = some r) :
    Calls Try.prog 5 #[.int .i64 strands_0, .slice Aword_1 mword_1 cword_1] w fun e w' => ∃ v, e = .returned v ∧ v = .bool r ∧ Cx (fun _ => False) O0 w w' [] := by
 unfold F.law44_GridlinkWrithe at hb
 have hC := Cx.start hO
 replace hC := hC.arg rfl hword_1
 clear hO
 obtain ⟨rfl, hlword_1, hcword_1⟩ := hword_1.sl_len
 refine calls_of_Wc Try.func5 rfl (by rw [Try.ntmps5]; exact Nat.le_of_ble_eq_true rfl) fun KR hKR => ?_
 refine Wc.seq fun K2 hK2 => ?_
 refine rg ?_
 refine lp (.bool false) (pu_assign rfl) ?_
 refine ln ?_
 refine hK2 _ _ ?_
 refine Wc.seq fun K3 hK3 => ?_
 refine Wc.seq fun K4 hK4 => ?_
 refine rg ?_
 obtain ⟨y5, h6, hb⟩ := bd hb
 refine lex.cl (⟨_, _, op_call (vs := []) Try.call11 rfl rfl rfl, law44_awake_ok n hC.lt  h6⟩) ?_
 rintro _ w7 ⟨rfl, hK⟩
 replace hC := hC.merge hK
 clear hK
 refine lp (.bool (!y5)) (pu_not (q := y5) rfl) ?_
 refine ln ?_
 refine hK4 _ _ ?_
 refine Wc.cond (t := (!y5)) (rfl) (fun hq8 => ?_) (fun hq8 => ?_)
 replace hb := tt hq8 hb
 refine Wc.seq fun K9 hK9 => ?_
 refine rg ?_
 refine lp (.bool false) (pu_assign rfl) ?_
 refine ln ?_
 refine hK9 _ _ ?_
 obtain rfl := os hb
 refine Wc.ret ?_
 refine hKR _ _ ?_
 refine ⟨_, res1 Try.results5 (show RV _ _ _ (.tmp _) (.bool false) from rfl), _, rfl, rfl, hC.sel [] (by decide)⟩
 replace hb := tf hq8 hb
 refine Wc.skip ?_
 refine hK3 _ _ ?_
 refine Wc.seq fun K10 hK10 => ?_
 refine rg ?_
 refine lp (.int .i64 strands_0) (pu_move rfl) ?_
 refine lp (.slice Aword_1 word_1.length cword_1) (pu_move rfl) ?_
 refine lp (.agg #[.int .i64 strands_0, .slice Aword_1 word_1.length cword_1]) (pu_builds (places := [(0, 1), (1, 1)]) (pv := [(0, .int .i64 strands_0), (1, .slice Aword_1 word_1.length cword_1)]) Try.type40 Try.underlying40 rfl (mp_cons Try.type3 (mp_cons Try.type22 mp_nil rfl rfl) rfl rfl) rfl (by simp [Instr.fill, Value.cells])) ?_
 refine lex.op (hC.alloc (cs := [.int .i64 0, .slice none 0 0]) Try.zeroValue40 rfl) ?_
 rintro _ w12 ⟨g11, rfl, hC, hF, hG⟩
 clear hG
 refine lex.sk (hC.seta (i := 0) (ds := [.int .i64 strands_0, .slice Aword_1 word_1.length cword_1]) rfl Try.type40 rfl rfl rfl rfl rfl) ?_
 rintro w14 ⟨hC, hF⟩
 refine ln ?_
 refine hK10 _ _ ?_
 refine Wc.seq fun K15 hK15 => ?_
 refine Wc.seq fun K16 hK16 => ?_
 refine rg ?_
 refine lp (.slice Aword_1 word_1.length cword_1) (pu_move rfl) ?_
 refine lp (.int .i64 (word_1.length : Int)) (pu_len (A := Aword_1) (n := word_1.length) (m := cword_1) Try.underlying22 rfl) ?_
 refine lp (.bool (decide (20 < (word_1.length : Int)))) (pu_gtr (k := .i64) (a := (word_1.length : Int)) (b := 20) rfl rfl) ?_
 refine lp (.bool (decide (20 < (word_1.length : Int)))) (pu_move rfl) ?_
 rcases bS (decide (20 < (word_1.length : Int))) with hq17 | hq17
 replace hb := tt hq17 hb
 refine gs rfl rfl (decide (20 < (word_1.length : Int))) rfl hq17 ?_
 refine gs rfl rfl (decide (20 < (word_1.length : Int))) rfl hq17 ?_
 refine gs rfl rfl (decide (20 < (word_1.length : Int))) rfl hq17 ?_
 refine lp (.bool true) (pu_pickT (q := (decide (20 < (word_1.length : Int)))) rfl hq17 rfl) ?_
 refine lp (.bool true) (pu_move rfl) ?_
 refine gs rfl rfl true rfl rfl ?_
 refine gs rfl rfl true rfl rfl ?_
 refine gs rfl rfl true rfl rfl ?_
 refine gs rfl rfl true rfl rfl ?_
 refine gs rfl rfl true rfl rfl ?_
 refine gs rfl rfl true rfl rfl ?_
 refine lp (.bool true) (pu_pickT (q := true) rfl rfl rfl) ?_
 refine ln ?_
 refine hK16 _ _ ?_
 refine Wc.cond_true (rfl) ?_
 refine Wc.seq fun K18 hK18 => ?_
 refine rg ?_
 refine lp (.bool true) (pu_assign rfl) ?_
 refine ln ?_
 refine hK18 _ _ ?_
 obtain rfl := os hb
 refine Wc.ret ?_
 refine hKR _ _ ?_
 refine ⟨_, res1 Try.results5 (show RV _ _ _ (.tmp _) (.bool true) from rfl), _, rfl, rfl, hC.sel [] (by decide)⟩
 replace hb := tf hq17 hb
 refine gv rfl rfl (decide (20 < (word_1.length : Int))) rfl hq17 (.agg #[.int .i64 strands_0, .slice Aword_1 word_1.length cword_1]) (ld_blk (hC.bx (i := 0) rfl) Try.isAgg40 Try.sizeOf40 rfl) ?_
 obtain ⟨y19, h20, hb⟩ := bd hb
 refine lex.gcl (want_t rfl rfl (show _ = Value.bool (decide (20 < (word_1.length : Int))) from rfl) hq17) (⟨_, _, op_call (vs := [.agg #[.int .i64 strands_0, .slice Aword_1 word_1.length cword_1]]) Try.call22 rfl rfl rfl, braid_Valid_ok n hC.lt hstrands_0 (hC.rd (i := 1) rfl) h20⟩) ?_
 rintro _ w21 ⟨rfl, hK⟩
 replace hC := hC.merge hK
 clear hK
 refine gp rfl rfl (decide (20 < (word_1.length : Int))) rfl hq17 (.bool (!y19)) (pu_not (q := y19) rfl) ?_
 refine lp (.bool (!y19)) (pu_pickF (q := (decide (20 < (word_1.length : Int)))) rfl hq17 rfl) ?_
 refine lp (.bool (!y19)) (pu_move rfl) ?_
 rcases bS (!y19) with hq22 | hq22
 replace hb := tt hq22 hb
 refine gs rfl rfl (!y19) rfl hq22 ?_
 refine gs rfl rfl (!y19) rfl hq22 ?_
 refine gs rfl rfl (!y19) rfl hq22 ?_
 refine gs rfl rfl (!y19) rfl hq22 ?_
 refine gs rfl rfl (!y19) rfl hq22 ?_
 refine gs rfl rfl (!y19) rfl hq22 ?_
 refine lp (.bool true) (pu_pickT (q := (!y19)) rfl hq22 rfl) ?_
 refine ln ?_
 refine hK16 _ _ ?_
 refine Wc.cond_true (rfl) ?_
 refine Wc.seq fun K23 hK23 => ?_
 refine rg ?_
 refine lp (.bool true) (pu_assign rfl) ?_
 refine ln ?_
 refine hK23 _ _ ?_
 obtain rfl := os hb
 refine Wc.ret ?_
 refine hKR _ _ ?_
 refine ⟨_, res1 Try.results5 (show RV _ _ _ (.tmp _) (.bool true) from rfl), _, rfl, rfl, hC.sel [] (by decide)⟩
 replace hb := tf hq22 hb
 refine gp rfl rfl (!y19) rfl hq22 (.int .i64 strands_0) (pu_move rfl) ?_
 obtain ⟨z24, h25, hb⟩ := bd hb
 refine gp rfl rfl (!y19) rfl hq22 (.int .i64 z24) (pu_mulc (a := 2) (b := strands_0) rfl rfl h25) ?_
 refine gp rfl rfl (!y19) rfl hq22 (.slice Aword_1 word_1.length cword_1) (pu_move rfl) ?_
 refine gp rfl rfl (!y19) rfl hq22 (.int .i64 (word_1.length : Int)) (pu_len (A := Aword_1) (n := word_1.length) (m := cword_1) Try.underlying22 rfl) ?_
 obtain ⟨z26, h27, hb⟩ := bd hb
 refine gp rfl rfl (!y19) rfl hq22 (.int .i64 z26) (pu_addc (a := z24) (b := (word_1.length : Int)) rfl rfl h27) ?_
 refine gp rfl rfl (!y19) rfl hq22 (.bool (decide (40 < z26))) (pu_gtr (k := .i64) (a := z26) (b := 40) rfl rfl) ?_
 refine lp (.bool (decide (40 < z26))) (pu_pickF (q := (!y19)) rfl hq22 rfl) ?_
 refine ln ?_
 refine hK16 _ _ ?_
 refine Wc.cond (t := (decide (40 < z26))) (rfl) (fun hq28 => ?_) (fun hq28 => ?_)
 replace hb := tt hq28 hb
 refine Wc.seq fun K29 hK29 => ?_
 refine rg ?_
 refine lp (.bool true) (pu_assign rfl) ?_
 refine ln ?_
 refine hK29 _ _ ?_
 obtain rfl := os hb
 refine Wc.ret ?_
 refine hKR _ _ ?_
 refine ⟨_, res1 Try.results5 (show RV _ _ _ (.tmp _) (.bool true) from rfl), _, rfl, rfl, hC.sel [] (by decide)⟩
 replace hb := tf hq28 hb
 refine Wc.skip ?_
 refine hK15 _ _ ?_
 refine Wc.fresh fun E30 hE => ?_
 have e0 : E30 0 = .int .i64 strands_0 := (congrFun hE 0).trans rfl
 have e1 : E30 1 = .slice Aword_1 word_1.length cword_1 := (congrFun hE 1).trans rfl
 have e4 : E30 4 = .bool false := (congrFun hE 4).trans rfl
 have e5 : E30 5 = .pointer (some ⟨g11, 0, none⟩) := (congrFun hE 5).trans rfl
 clear hE
 refine Wc.seq fun K31 hK31 => ?_
 refine rg ?_
 refine lv (.agg #[.int .i64 strands_0, .slice Aword_1 word_1.length cword_1]) (ld_blk (hC.bx (i := 0) rfl) Try.isAgg40 Try.sizeOf40 e5) ?_
 obtain ⟨y32, h33, hb⟩ := bd hb
 refine lex.cl (⟨_, _, op_call (vs := [.agg #[.int .i64 strands_0, .slice Aword_1 word_1.length cword_1]]) Try.call18 rfl rfl rfl, gridlink_Braid_ok n hC.lt hstrands_0 (hC.rd (i := 1) rfl) h33⟩) ?_
 rintro _ w43 ⟨A34, m35, c36, A38, m39, c40, rfl, hr42, hK⟩
 replace hC := hC.merge hK
 clear hK
 obtain ⟨rfl, hl44, hc45⟩ := (hC.ow (i := 0) rfl).sl_len
 obtain ⟨rfl, hl46, hc47⟩ := (hC.ow (i := 1) rfl).sl_len
 refine lp (.tuple #[.agg #[.slice A34 y32.1.length c36, .slice A38 y32.2.1.length c40], .int .i64 y32.2.2]) (pu_move rfl) ?_
 refine lp (.agg #[.slice A34 y32.1.length c36, .slice A38 y32.2.1.length c40]) (pu_extract rfl rfl) ?_
 refine lp (.int .i64 y32.2.2) (pu_extract rfl rfl) ?_
 refine lex.op (hC.alloc (cs := [.slice none 0 0, .slice none 0 0]) Try.zeroValue24 rfl) ?_
 rintro _ w49 ⟨g48, rfl, hC, hF, hG⟩
 clear hG
 refine lex.sk (hC.seta (i := 0) (ds := [.slice A34 y32.1.length c36, .slice A38 y32.2.1.length c40]) rfl Try.type24 rfl rfl rfl rfl rfl) ?_
 rintro w51 ⟨hC, hF⟩
 refine lp (.int .i64 y32.2.2) (pu_assign rfl) ?_
 refine ln ?_
 refine hK31 _ _ ?_
 refine Wc.seq fun K52 hK52 => ?_
 refine rg ?_
 refine lv (.agg #[.slice A34 y32.1.length c36, .slice A38 y32.2.1.length c40]) (ld_blk (hC.bx (i := 0) rfl) Try.isAgg24 Try.sizeOf24 rfl) ?_
 obtain ⟨y53, h54, hb⟩ := bd hb
 refine lex.cl (⟨_, _, op_call (vs := [.agg #[.slice A34 y32.1.length c36, .slice A38 y32.2.1.length c40]]) Try.call13 rfl rfl rfl, gridlink_Diagram_ok n (hC.lentLt [.slice A34 y32.1.length c36, .slice A38 y32.2.1.length c40]) ((hC.ow (i := 1) rfl).lend (vs := [.slice A34 y32.1.length c36, .slice A38 y32.2.1.length c40]) (by simp)) ((hC.ow (i := 2) rfl).lend (vs := [.slice A34 y32.1.length c36, .slice A38 y32.2.1.length c40]) (by simp)) h54⟩) ?_
 rintro _ w65 ⟨A55, m56, c57, A59, m60, c61, rfl, hr63, hr64, hK⟩
 replace hC := hC.mergeF hK rfl
 clear hK
 obtain ⟨rfl, hl66, hc67⟩ := (hC.ow (i := 0) rfl).sl_len
 obtain ⟨rfl, hl68, hc69⟩ := (hC.ow (i := 1) rfl).sl_len
 refine lp (.tuple #[.agg #[.slice A55 y53.1.length c57, .slice A59 y53.2.1.length c61, .int .i64 y53.2.2.1], .int .i64 y53.2.2.2]) (pu_move rfl) ?_
 refine lp (.agg #[.slice A55 y53.1.length c57, .slice A59 y53.2.1.length c61, .int .i64 y53.2.2.1]) (pu_extract rfl rfl) ?_
 refine lp (.int .i64 y53.2.2.2) (pu_extract rfl rfl) ?_
 refine lex.op (hC.alloc (cs := [.slice none 0 0, .slice none 0 0, .int .i64 0]) Try.zeroValue28 rfl) ?_
 rintro _ w71 ⟨g70, rfl, hC, hF, hG⟩
 clear hG
 refine lex.sk (hC.seta (i := 0) (ds := [.slice A55 y53.1.length c57, .slice A59 y53.2.1.length c61, .int .i64 y53.2.2.1]) rfl Try.type28 rfl rfl rfl rfl rfl) ?_
 rintro w73 ⟨hC, hF⟩
 refine lp (.int .i64 y53.2.2.2) (pu_assign rfl) ?_
 refine ln ?_
 refine hK52 _ _ ?_
 refine Wc.fresh fun E74 hE => ?_
 have e0 := (congrFun hE 0).trans e0
 have e1 := (congrFun hE 1).trans e1
 have e4 := (congrFun hE 4).trans e4
 have e6 : E74 6 = .pointer (some ⟨g48, 0, none⟩) := (congrFun hE 6).trans rfl
 have e7 : E74 7 = .int .i64 y32.2.2 := (congrFun hE 7).trans rfl
 have e8 : E74 8 = .pointer (some ⟨g70, 0, none⟩) := (congrFun hE 8).trans rfl
 have e9 : E74 9 = .int .i64 y53.2.2.2 := (congrFun hE 9).trans rfl
 clear hE
 refine Wc.seq fun K75 hK75 => ?_
 refine Wc.seq fun K76 hK76 => ?_
 refine rg ?_
 refine lp (.int .i64 y32.2.2) (pu_move e7) ?_
 refine lp (.bool (!(decide (y32.2.2 = 0)))) (pu_neq (k := .i64) (a := y32.2.2) (b := 0) rfl rfl) ?_
 refine lp (.bool (!(decide (y32.2.2 = 0)))) (pu_move rfl) ?_
 rcases bS (!(decide (y32.2.2 = 0))) with hq77 | hq77
 replace hb := tt hq77 hb
 refine gs rfl rfl (!(decide (y32.2.2 = 0))) rfl hq77 ?_
 refine gs rfl rfl (!(decide (y32.2.2 = 0))) rfl hq77 ?_
 refine lp (.bool true) (pu_pickT (q := (!(decide (y32.2.2 = 0)))) rfl hq77 rfl) ?_
 refine lp (.bool true) (pu_move rfl) ?_
 refine gs rfl rfl true rfl rfl ?_
 refine gs rfl rfl true rfl rfl ?_
 refine gs rfl rfl true rfl rfl ?_
 refine gs rfl rfl true rfl rfl ?_
 refine gs rfl rfl true rfl rfl ?_
 refine gs rfl rfl true rfl rfl ?_
 refine lp (.bool true) (pu_pickT (q := true) rfl rfl rfl) ?_
 refine lp (.bool true) (pu_move rfl) ?_
 refine gs rfl rfl true rfl rfl ?_
 refine gs rfl rfl true rfl rfl ?_
 refine gs rfl rfl true rfl rfl ?_
 refine gs rfl rfl true rfl rfl ?_
 refine gs rfl rfl true rfl rfl ?_
 refine gs rfl rfl true rfl rfl ?_
 refine gs rfl rfl true rfl rfl ?_
 refine gs rfl rfl true rfl rfl ?_
 refine gs rfl rfl true rfl rfl ?_
 refine lp (.bool true) (pu_pickT (q := true) rfl rfl rfl) ?_
 refine ln ?_
 refine hK76 _ _ ?_
 refine Wc.cond_true (rfl) ?_
 refine Wc.seq fun K78 hK78 => ?_
 refine rg ?_
 refine lp (.bool false) (pu_assign rfl) ?_
 refine ln ?_
 refine hK78 _ _ ?_
 obtain rfl := os hb
 refine Wc.ret ?_
 refine hKR _ _ ?_
 refine ⟨_, res1 Try.results5 (show RV _ _ _ (.tmp _) (.bool false) from rfl), _, rfl, rfl, hC.sel [] (by decide)⟩
 replace hb := tf hq77 hb
 refine gp rfl rfl (!(decide (y32.2.2 = 0))) rfl hq77 (.int .i64 y53.2.2.2) (pu_move e9) ?_
 refine gp rfl rfl (!(decide (y32.2.2 = 0))) rfl hq77 (.bool (!(decide (y53.2.2.2 = 0)))) (pu_neq (k := .i64) (a := y53.2.2.2) (b := 0) rfl rfl) ?_
 refine lp (.bool (!(decide (y53.2.2.2 = 0)))) (pu_pickF (q := (!(decide (y32.2.2 = 0)))) rfl hq77 rfl) ?_
 refine lp (.bool (!(decide (y53.2.2.2 = 0)))) (pu_move rfl) ?_
 rcases bS (!(decide (y53.2.2.2 = 0))) with hq79 | hq79
 replace hb := tt hq79 hb
 refine gs rfl rfl (!(decide (y53.2.2.2 = 0))) rfl hq79 ?_
 refine gs rfl rfl (!(decide (y53.2.2.2 = 0))) rfl hq79 ?_
 refine gs rfl rfl (!(decide (y53.2.2.2 = 0))) rfl hq79 ?_
 refine gs rfl rfl (!(decide (y53.2.2.2 = 0))) rfl hq79 ?_
 refine gs rfl rfl (!(decide (y53.2.2.2 = 0))) rfl hq79 ?_
 refine gs rfl rfl (!(decide (y53.2.2.2 = 0))) rfl hq79 ?_
 refine lp (.bool true) (pu_pickT (q := (!(decide (y53.2.2.2 = 0)))) rfl hq79 rfl) ?_
 refine lp (.bool true) (pu_move rfl) ?_
 refine gs rfl rfl true rfl rfl ?_
 refine gs rfl rfl true rfl rfl ?_
 refine gs rfl rfl true rfl rfl ?_
 refine gs rfl rfl true rfl rfl ?_
 refine gs rfl rfl true rfl rfl ?_
 refine gs rfl rfl true rfl rfl ?_
 refine gs rfl rfl true rfl rfl ?_
 refine gs rfl rfl true rfl rfl ?_
 refine gs rfl rfl true rfl rfl ?_
 refine lp (.bool true) (pu_pickT (q := true) rfl rfl rfl) ?_
 refine ln ?_
 refine hK76 _ _ ?_
 refine Wc.cond_true (rfl) ?_
 refine Wc.seq fun K80 hK80 => ?_
 refine rg ?_
 refine lp (.bool false) (pu_assign rfl) ?_
 refine ln ?_
 refine hK80 _ _ ?_
 obtain rfl := os hb
 refine Wc.ret ?_
 refine hKR _ _ ?_
 refine ⟨_, res1 Try.results5 (show RV _ _ _ (.tmp _) (.bool false) from rfl), _, rfl, rfl, hC.sel [] (by decide)⟩
 replace hb := tf hq79 hb
 refine gp rfl rfl (!(decide (y53.2.2.2 = 0))) rfl hq79 (.pointer (some ((⟨g70, 0, none⟩ : Addr).add 0))) (pu_field (sz := 1) Try.underlying28 rfl Try.sizeOf22 (by decide) rfl e8) ?_
 refine gv rfl rfl (!(decide (y53.2.2.2 = 0))) rfl hq79 (.slice A55 y53.1.length c57) (ld_fld (hC.bx (i := 0) rfl) Try.isAgg22 rfl rfl) ?_
 refine gp rfl rfl (!(decide (y53.2.2.2 = 0))) rfl hq79 (.int .i64 (y53.1.length : Int)) (pu_len (A := A55) (n := y53.1.length) (m := c57) Try.underlying22 rfl) ?_
 refine gp rfl rfl (!(decide (y53.2.2.2 = 0))) rfl hq79 (.slice Aword_1 word_1.length cword_1) (pu_move e1) ?_
 refine gp rfl rfl (!(decide (y53.2.2.2 = 0))) rfl hq79 (.int .i64 (word_1.length : Int)) (pu_len (A := Aword_1) (n := word_1.length) (m := cword_1) Try.underlying22 rfl) ?_
 refine gp rfl rfl (!(decide (y53.2.2.2 = 0))) rfl hq79 (.bool (!(decide ((y53.1.length : Int) = (word_1.length : Int))))) (pu_neq (k := .i64) (a := (y53.1.length : Int)) (b := (word_1.length : Int)) rfl rfl) ?_
 refine lp (.bool (!(decide ((y53.1.length : Int) = (word_1.length : Int))))) (pu_pickF (q := (!(decide (y53.2.2.2 = 0)))) rfl hq79 rfl) ?_
 refine lp (.bool (!(decide ((y53.1.length : Int) = (word_1.length : Int))))) (pu_move rfl) ?_
 rcases bS (!(decide ((y53.1.length : Int) = (word_1.length : Int)))) with hq81 | hq81
 replace hb := tt hq81 hb
 refine gs rfl rfl (!(decide ((y53.1.length : Int) = (word_1.length : Int)))) rfl hq81 ?_
 refine gs rfl rfl (!(decide ((y53.1.length : Int) = (word_1.length : Int)))) rfl hq81 ?_
 refine gs rfl rfl (!(decide ((y53.1.length : Int) = (word_1.length : Int)))) rfl hq81 ?_
 refine gs rfl rfl (!(decide ((y53.1.length : Int) = (word_1.length : Int)))) rfl hq81 ?_
 refine gs rfl rfl (!(decide ((y53.1.length : Int) = (word_1.length : Int)))) rfl hq81 ?_
 refine gs rfl rfl (!(decide ((y53.1.length : Int) = (word_1.length : Int)))) rfl hq81 ?_
 refine gs rfl rfl (!(decide ((y53.1.length : Int) = (word_1.length : Int)))) rfl hq81 ?_
 refine gs rfl rfl (!(decide ((y53.1.length : Int) = (word_1.length : Int)))) rfl hq81 ?_
 refine gs rfl rfl (!(decide ((y53.1.length : Int) = (word_1.length : Int)))) rfl hq81 ?_
 refine lp (.bool true) (pu_pickT (q := (!(decide ((y53.1.length : Int) = (word_1.length : Int))))) rfl hq81 rfl) ?_
 refine ln ?_
 refine hK76 _ _ ?_
 refine Wc.cond_true (rfl) ?_
 refine Wc.seq fun K82 hK82 => ?_
 refine rg ?_
 refine lp (.bool false) (pu_assign rfl) ?_
 refine ln ?_
 refine hK82 _ _ ?_
 obtain rfl := os hb
 refine Wc.ret ?_
 refine hKR _ _ ?_
 refine ⟨_, res1 Try.results5 (show RV _ _ _ (.tmp _) (.bool false) from rfl), _, rfl, rfl, hC.sel [] (by decide)⟩
 replace hb := tf hq81 hb
 refine gp rfl rfl (!(decide ((y53.1.length : Int) = (word_1.length : Int)))) rfl hq81 (.pointer (some ((⟨g48, 0, none⟩ : Addr).add 0))) (pu_field (sz := 1) Try.underlying24 rfl Try.sizeOf22 (by decide) rfl e6) ?_
 refine gv rfl rfl (!(decide ((y53.1.length : Int) = (word_1.length : Int)))) rfl hq81 (.slice A34 y32.1.length c36) (ld_fld (hC.bx (i := 3) rfl) Try.isAgg22 rfl rfl) ?_
 refine gp rfl rfl (!(decide ((y53.1.length : Int) = (word_1.length : Int)))) rfl hq81 (.int .i64 (y32.1.length : Int)) (pu_len (A := A34) (n := y32.1.length) (m := c36) Try.underlying22 rfl) ?_
 refine gp rfl rfl (!(decide ((y53.1.length : Int) = (word_1.length : Int)))) rfl hq81 (.int .i64 strands_0) (pu_move e0) ?_
 obtain ⟨z83, h84, hb⟩ := bd hb
 refine gp rfl rfl (!(decide ((y53.1.length : Int) = (word_1.length : Int)))) rfl hq81 (.int .i64 z83) (pu_mulc (a := 2) (b := strands_0) rfl rfl h84) ?_
 refine gp rfl rfl (!(decide ((y53.1.length : Int) = (word_1.length : Int)))) rfl hq81 (.slice Aword_1 word_1.length cword_1) (pu_move e1) ?_
 refine gp rfl rfl (!(decide ((y53.1.length : Int) = (word_1.length : Int)))) rfl hq81 (.int .i64 (word_1.length : Int)) (pu_len (A := Aword_1) (n := word_1.length) (m := cword_1) Try.underlying22 rfl) ?_
 obtain ⟨z85, h86, hb⟩ := bd hb
 refine gp rfl rfl (!(decide ((y53.1.length : Int) = (word_1.length : Int)))) rfl hq81 (.int .i64 z85) (pu_addc (a := z83) (b := (word_1.length : Int)) rfl rfl h86) ?_
 refine gp rfl rfl (!(decide ((y53.1.length : Int) = (word_1.length : Int)))) rfl hq81 (.bool (!(decide ((y32.1.length : Int) = z85)))) (pu_neq (k := .i64) (a := (y32.1.length : Int)) (b := z85) rfl rfl) ?_
 refine lp (.bool (!(decide ((y32.1.length : Int) = z85)))) (pu_pickF (q := (!(decide ((y53.1.length : Int) = (word_1.length : Int))))) rfl hq81 rfl) ?_
 refine ln ?_
 refine hK76 _ _ ?_
 refine Wc.cond (t := (!(decide ((y32.1.length : Int) = z85)))) (rfl) (fun hq87 => ?_) (fun hq87 => ?_)
 replace hb := tt hq87 hb
 refine Wc.seq fun K88 hK88 => ?_
 refine rg ?_
 refine lp (.bool false) (pu_assign rfl) ?_
 refine ln ?_
 refine hK88 _ _ ?_
 obtain rfl := os hb
 refine Wc.ret ?_
 refine hKR _ _ ?_
 refine ⟨_, res1 Try.results5 (show RV _ _ _ (.tmp _) (.bool false) from rfl), _, rfl, rfl, hC.sel [] (by decide)⟩
 replace hb := tf hq87 hb
 refine Wc.skip ?_
 refine hK75 _ _ ?_
 refine Wc.fresh fun E89 hE => ?_
 have e1 := (congrFun hE 1).trans e1
 have e4 := (congrFun hE 4).trans e4
 have e8 := (congrFun hE 8).trans e8
 clear hE
 refine Wc.seq fun K90 hK90 => ?_
 refine rg ?_
 refine lp (.int .i64 0) (pu_assign rfl) ?_
 refine ln ?_
 refine hK90 _ _ ?_
 refine Wc.seq fun K91 hK91 => ?_
 refine Wc.seq fun K92 hK92 => ?_
 refine rg ?_
 refine lp (.slice Aword_1 word_1.length cword_1) (pu_move e1) ?_
 refine lp (.int .i64 (word_1.length : Int)) (pu_len (A := Aword_1) (n := word_1.length) (m := cword_1) Try.underlying22 rfl) ?_
 refine lp (.int .i64 0) (pu_move rfl) ?_
 refine ln ?_
 refine hK92 _ _ ?_
 obtain ⟨o93, hl0, hb⟩ := bd hb
 refine Wc.cut (fun E wv => ∃ (v10_0 : Int) (v70_0 : Int), E 4 = .bool false ∧ E 10 = .int .i64 v10_0 ∧ I64 v10_0 ∧ I64 v70_0 ∧ Cx (fun _ => False) O0 w wv [] ∧ (some (decide (v10_0 = 0)) : Option (Bool)) = some r) (fun K94 hK94 => ?_) ?_
 refine Wc.block ?_
 refine Wc.loop (fun m E wv => ∃ (v10_0 : Int) (v70_0 : Int), E 1 = .slice Aword_1 word_1.length cword_1 ∧ E 4 = .bool false ∧ E 8 = .pointer (some ⟨g70, 0, none⟩) ∧ E 10 = .int .i64 v10_0 ∧ E 69 = .int .i64 (word_1.length : Int) ∧ E 70 = .int .i64 v70_0 ∧ I64 v10_0 ∧ I64 v70_0 ∧ Cx (fun _ => False) O0 w wv [.ro (.sl (.int .i64)) [.slice Aword_1 word_1.length cword_1] word_1, .box g70 28 [.slice A55 y53.1.length c57, .slice A59 y53.2.1.length c61, .int .i64 y53.2.2.1], .own 3 (.int .i64) (.slice A55 y53.1.length c57) y53.1, .own 3 (.int .i64) (.slice A59 y53.2.1.length c61) y53.2.1] ∧ loopN m (F.law44_GridlinkWrithe_b0 n word_1 y53) (v10_0, v70_0) = some o93) n ⟨0, 0, e1, e4, e8, rfl, rfl, rfl, (show I64 0 from by unfold I64; omega), (show I64 0 from by unfold I64; omega), hC.sel [7, 0, 1, 2] (by decide), hl0⟩ ?_
 have hbK0 := hb
 clear hb hC hl0
 rintro m96 E98 w97 ⟨v10_0, v70_0, e1, e4, e8, e10, e69, e70, hrv10_0, hrv70_0, hC, hl0⟩ K95 hK95
 obtain ⟨m96', o99, rfl, hb, hl0⟩ := loopN_some hl0
 unfold F.law44_GridlinkWrithe_b0 at hb
 refine Wc.seq fun K100 hK100 => ?_
 refine rg ?_
 refine lp (.bool (decide (v70_0 < (word_1.length : Int)))) (pu_lss (k := .i64) (a := v70_0) (b := (word_1.length : Int)) e70 e69) ?_
 refine ln ?_
 refine hK100 _ _ ?_
 refine Wc.seq fun K101 hK101 => ?_
 refine Wc.cond (t := (decide (v70_0 < (word_1.length : Int)))) (rfl) (fun hq102 => ?_) (fun hq102 => ?_)
 replace hb := tt hq102 hb
 refine Wc.skip ?_
 refine hK101 _ _ ?_
 refine Wc.seq fun K103 hK103 => ?_
 refine Wc.block ?_
 refine Wc.seq fun K104 hK104 => ?_
 refine rg ?_
 refine lp (.int .i64 v70_0) (pu_move e70) ?_
 refine lp (.int .i64 v70_0) (pu_assign rfl) ?_
 refine ln ?_
 refine hK104 _ _ ?_
 refine Wc.seq fun K105 hK105 => ?_
 refine rg ?_
 refine lp (.int .i64 v10_0) (pu_move e10) ?_
 refine lp (.pointer (some ((⟨g70, 0, none⟩ : Addr).add 0))) (pu_field (sz := 1) Try.underlying28 rfl Try.sizeOf22 (by decide) rfl e8) ?_
 refine lv (.slice A55 y53.1.length c57) (ld_fld (hC.bx (i := 1) rfl) Try.isAgg22 rfl rfl) ?_
 refine lp (.int .i64 v70_0) (pu_move rfl) ?_
 obtain ⟨x106, h107, hb⟩ := bd hb
 obtain ⟨ad108, cs109, hA, hc110, hr111⟩ := hC.elo (i := 2) rfl (get_some h107).2
 subst hA
 refine lp (.pointer (some (ad108.add (v70_0.toNat * 1)))) (pu_index (a := v70_0) Try.underlying22 Try.sizeOf3 rfl rfl (get_some h107).1) ?_
 obtain ⟨rfl, hr111'⟩ := hr111
 refine lv (.int .i64 x106) (ld_one Try.isAgg3 rfl (hc110 0 _ rfl)) ?_
 obtain ⟨z112, h113, hb⟩ := bd hb
 refine lp (.int .i64 z112) (pu_addc (a := v10_0) (b := x106) rfl rfl h113) ?_
 refine lp (.int .i64 z112) (pu_assign rfl) ?_
 refine ln ?_
 refine hK105 _ _ ?_
 refine Wc.fresh fun E114 hE => ?_
 have e1 := (congrFun hE 1).trans e1
 have e4 := (congrFun hE 4).trans e4
 have e8 := (congrFun hE 8).trans e8
 have e10 : E114 10 = .int .i64 z112 := (congrFun hE 10).trans rfl
 have e11 : E114 11 = .int .i64 v70_0 := (congrFun hE 11).trans rfl
 have e69 := (congrFun hE 69).trans e69
 have e70 := (congrFun hE 70).trans e70
 have e71 : E114 71 = .bool (decide (v70_0 < (word_1.length : Int))) := (congrFun hE 71).trans rfl
 clear hE
 refine Wc.seq fun K115 hK115 => ?_
 refine rg ?_
 refine lp (.slice Aword_1 word_1.length cword_1) (pu_move e1) ?_
 refine lp (.int .i64 v70_0) (pu_move e11) ?_
 obtain ⟨x116, h117, hb⟩ := bd hb
 obtain ⟨ad118, cs119, hA, hc120, hr121⟩ := hC.elr (i := 0) rfl (get_some h117).2
 subst hA
 refine lp (.pointer (some (ad118.add (v70_0.toNat * 1)))) (pu_index (a := v70_0) Try.underlying22 Try.sizeOf3 rfl rfl (get_some h117).1) ?_
 obtain ⟨rfl, hr121'⟩ := hr121
 refine lv (.int .i64 x116) (ld_one Try.isAgg3 rfl (hc120 0 _ rfl)) ?_
 refine lp (.bool (decide (0 < x116))) (pu_gtr (k := .i64) (a := x116) (b := 0) rfl rfl) ?_
 refine ln ?_
 refine hK115 _ _ ?_
 refine Wc.cond (t := (decide (0 < x116))) (rfl) (fun hq122 => ?_) (fun hq122 => ?_)
 replace hb := tt hq122 hb
 refine rg ?_
 refine lp (.int .i64 z112) (pu_move e10) ?_
 obtain ⟨z123, h124, hb⟩ := bd hb
 refine lp (.int .i64 z123) (pu_subc (a := z112) (b := 1) rfl rfl h124) ?_
 refine lp (.int .i64 z123) (pu_assign rfl) ?_
 refine ln ?_
 refine hK103 _ _ ?_
 refine rg ?_
 obtain ⟨z125, h126, hb⟩ := bd hb
 refine lp (.int .i64 z125) (pu_addc (a := v70_0) (b := 1) e70 rfl h126) ?_
 refine lp (.int .i64 z125) (pu_move rfl) ?_
 refine ln ?_
 obtain rfl := os hb
 exact hK95 m96' _ _ (Nat.lt_succ_self _) ⟨z123, z125, e1, e4, e8, rfl, e69, rfl, (chk_rng h124), (chk_rng h126), hC.sel [0, 1, 2, 3] (by decide), lN hl0⟩
 replace hb := tf hq122 hb
 refine rg ?_
 refine lp (.int .i64 z112) (pu_move e10) ?_
 obtain ⟨z127, h128, hb⟩ := bd hb
 refine lp (.int .i64 z127) (pu_addc (a := z112) (b := 1) rfl rfl h128) ?_
 refine lp (.int .i64 z127) (pu_assign rfl) ?_
 refine ln ?_
 refine hK103 _ _ ?_
 refine rg ?_
 obtain ⟨z129, h130, hb⟩ := bd hb
 refine lp (.int .i64 z129) (pu_addc (a := v70_0) (b := 1) e70 rfl h130) ?_
 refine lp (.int .i64 z129) (pu_move rfl) ?_
 refine ln ?_
 obtain rfl := os hb
 exact hK95 m96' _ _ (Nat.lt_succ_self _) ⟨z127, z129, e1, e4, e8, rfl, e69, rfl, (chk_rng h128), (chk_rng h130), hC.sel [0, 1, 2, 3] (by decide), lN hl0⟩
 replace hb := tf hq102 hb
 refine Wc.exit rfl ?_
 obtain rfl := os hb
 obtain rfl := (lX hl0).symm
 exact hK94 _ _ ⟨v10_0, v70_0, e4, e10, hrv10_0, hrv70_0, hC.sel [] (by decide), hbK0⟩
 clear hb hC hl0
 rintro E132 w131 ⟨v10_0, v70_0, e4, e10, hrv10_0, hrv70_0, hC, hb⟩
 refine hK91 _ _ ?_
 refine Wc.seq fun K133 hK133 => ?_
 refine rg ?_
 refine lp (.int .i64 v10_0) (pu_move e10) ?_
 refine lp (.bool (decide (v10_0 = 0))) (pu_eql (k := .i64) (a := v10_0) (b := 0) rfl rfl) ?_
 refine lp (.bool (decide (v10_0 = 0))) (pu_assign rfl) ?_
 refine ln ?_
 refine hK133 _ _ ?_
 obtain rfl := os hb
 refine Wc.ret ?_
 refine hKR _ _ ?_
 refine ⟨_, res1 Try.results5 (show RV _ _ _ (.tmp _) (.bool (decide (v10_0 = 0))) from rfl), _, rfl, rfl, hC.sel [] (by decide)⟩
end Go.Proofs.Yticemffhlapnnaa
