/- The walks: part 8. -/
import Derived.Test.YticemffhlapnnaaS
import Derived.Test.YticemffhlapnnaaG5
import Derived.Test.YticemffhlapnnaaG6
import Derived.Test.YticemffhlapnnaaG7
set_option linter.unusedVariables false
set_option linter.unusedSimpArgs false
namespace Go.Proofs.Yticemffhlapnnaa
open Ev
set_option maxRecDepth 100000 in
set_option maxHeartbeats 4000000 in
theorem law44_GridlinkBraid_ok (n : Nat) {w : World} {O0 : List Nat} (hO : ∀ k ∈ O0, k < w.heap.size) {strands_0 : Int} (hstrands_0 : I64 strands_0) {Aword_1 : Option Addr} {mword_1 cword_1 : Nat} {word_1 : List Int} (hword_1 : Rep O0 w (.sl (.int .i64)) [.slice Aword_1 mword_1 cword_1] word_1) {r : Bool} (hb : F.law44_GridlinkBraid n strands_0 word_1 = some r) :
    Calls Try.prog 4 #[.int .i64 strands_0, .slice Aword_1 mword_1 cword_1] w fun e w' => ∃ v, e = .returned v ∧ v = .bool r ∧ Cx (fun _ => False) O0 w w' [] := by
 unfold F.law44_GridlinkBraid at hb
 have hC := Cx.start hO
 replace hC := hC.arg rfl hword_1
 clear hO
 obtain ⟨rfl, hlword_1, hcword_1⟩ := hword_1.sl_len
 refine calls_of_Wc Try.func4 rfl (by rw [Try.ntmps4]; exact Nat.le_of_ble_eq_true rfl) fun KR hKR => ?_
 refine Wc.seq fun K2 hK2 => ?_
 refine rg ?_
 refine lp (.bool false) (pu_assign rfl) ?_
 refine ln ?_
 refine hK2 _ _ ?_
 refine Wc.seq fun K3 hK3 => ?_
 refine Wc.seq fun K4 hK4 => ?_
 refine rg ?_
 obtain ⟨y5, h6, hb⟩ := bd hb
 refine lex.cl (⟨_, _, op_call (vs := []) Try.call11 rfl rfl rfl, law44_awake_ok n hC.lt  h6⟩) ?_
 rintro _ w7 ⟨rfl, hK⟩
 replace hC := hC.merge hK
 clear hK
 refine lp (.bool (!y5)) (pu_not (q := y5) rfl) ?_
 refine ln ?_
 refine hK4 _ _ ?_
 refine Wc.cond (t := (!y5)) (rfl) (fun hq8 => ?_) (fun hq8 => ?_)
 replace hb := tt hq8 hb
 refine Wc.seq fun K9 hK9 => ?_
 refine rg ?_
 refine lp (.bool false) (pu_assign rfl) ?_
 refine ln ?_
 refine hK9 _ _ ?_
 obtain rfl := os hb
 refine Wc.ret ?_
 refine hKR _ _ ?_
 refine ⟨_, res1 Try.results4 (show RV _ _ _ (.tmp _) (.bool false) from rfl), _, rfl, rfl, hC.sel [] (by decide)⟩
 replace hb := tf hq8 hb
 refine Wc.skip ?_
 refine hK3 _ _ ?_
 refine Wc.seq fun K10 hK10 => ?_
 refine Wc.seq fun K11 hK11 => ?_
 refine rg ?_
 refine lp (.slice Aword_1 word_1.length cword_1) (pu_move rfl) ?_
 refine lp (.int .i64 (word_1.length : Int)) (pu_len (A := Aword_1) (n := word_1.length) (m := cword_1) Try.underlying22 rfl) ?_
 refine lp (.bool (decide (60 < (word_1.length : Int)))) (pu_gtr (k := .i64) (a := (word_1.length : Int)) (b := 60) rfl rfl) ?_
 refine ln ?_
 refine hK11 _ _ ?_
 refine Wc.cond (t := (decide (60 < (word_1.length : Int)))) (rfl) (fun hq12 => ?_) (fun hq12 => ?_)
 replace hb := tt hq12 hb
 refine Wc.seq fun K13 hK13 => ?_
 refine rg ?_
 refine lp (.bool true) (pu_assign rfl) ?_
 refine ln ?_
 refine hK13 _ _ ?_
 obtain rfl := os hb
 refine Wc.ret ?_
 refine hKR _ _ ?_
 refine ⟨_, res1 Try.results4 (show RV _ _ _ (.tmp _) (.bool true) from rfl), _, rfl, rfl, hC.sel [] (by decide)⟩
 replace hb := tf hq12 hb
 refine Wc.skip ?_
 refine hK10 _ _ ?_
 refine Wc.seq fun K14 hK14 => ?_
 refine rg ?_
 refine lp (.int .i64 strands_0) (pu_move rfl) ?_
 refine lp (.slice Aword_1 word_1.length cword_1) (pu_move rfl) ?_
 refine lp (.agg #[.int .i64 strands_0, .slice Aword_1 word_1.length cword_1]) (pu_builds (places := [(0, 1), (1, 1)]) (pv := [(0, .int .i64 strands_0), (1, .slice Aword_1 word_1.length cword_1)]) Try.type40 Try.underlying40 rfl (mp_cons Try.type3 (mp_cons Try.type22 mp_nil rfl rfl) rfl rfl) rfl (by simp [Instr.fill, Value.cells])) ?_
 obtain ⟨y15, h16, hb⟩ := bd hb
 refine lex.cl (⟨_, _, op_call (vs := [.agg #[.int .i64 strands_0, .slice Aword_1 word_1.length cword_1]]) Try.call18 rfl rfl rfl, gridlink_Braid_ok n hC.lt hstrands_0 (hC.rd (i := 0) rfl) h16⟩) ?_
 rintro _ w26 ⟨A17, m18, c19, A21, m22, c23, rfl, hr25, hK⟩
 replace hC := hC.merge hK
 clear hK
 obtain ⟨rfl, hl27, hc28⟩ := (hC.ow (i := 0) rfl).sl_len
 obtain ⟨rfl, hl29, hc30⟩ := (hC.ow (i := 1) rfl).sl_len
 refine lp (.tuple #[.agg #[.slice A17 y15.1.length c19, .slice A21 y15.2.1.length c23], .int .i64 y15.2.2]) (pu_move rfl) ?_
 refine lp (.agg #[.slice A17 y15.1.length c19, .slice A21 y15.2.1.length c23]) (pu_extract rfl rfl) ?_
 refine lp (.int .i64 y15.2.2) (pu_extract rfl rfl) ?_
 refine lex.op (hC.alloc (cs := [.slice none 0 0, .slice none 0 0]) Try.zeroValue24 rfl) ?_
 rintro _ w32 ⟨g31, rfl, hC, hF, hG⟩
 clear hG
 refine lex.sk (hC.seta (i := 0) (ds := [.slice A17 y15.1.length c19, .slice A21 y15.2.1.length c23]) rfl Try.type24 rfl rfl rfl rfl rfl) ?_
 rintro w34 ⟨hC, hF⟩
 refine lp (.int .i64 y15.2.2) (pu_assign rfl) ?_
 refine ln ?_
 refine hK14 _ _ ?_
 refine Wc.fresh fun E35 hE => ?_
 have e0 : E35 0 = .int .i64 strands_0 := (congrFun hE 0).trans rfl
 have e1 : E35 1 = .slice Aword_1 word_1.length cword_1 := (congrFun hE 1).trans rfl
 have e4 : E35 4 = .bool false := (congrFun hE 4).trans rfl
 have e5 : E35 5 = .pointer (some ⟨g31, 0, none⟩) := (congrFun hE 5).trans rfl
 have e6 : E35 6 = .int .i64 y15.2.2 := (congrFun hE 6).trans rfl
 clear hE
 refine Wc.seq fun K36 hK36 => ?_
 refine Wc.block ?_
 refine Wc.seq fun K37 hK37 => ?_
 refine rg ?_
 refine lp (.int .i64 strands_0) (pu_move e0) ?_
 refine lp (.slice Aword_1 word_1.length cword_1) (pu_move e1) ?_
 obtain ⟨y38, h39, hb⟩ := bd hb
 refine lex.cl (⟨_, _, op_call (vs := [.int .i64 strands_0, .slice Aword_1 word_1.length cword_1]) Try.call19 rfl rfl rfl, ref33_Valid_ok n hC.lt hstrands_0 (hC.rd (i := 3) rfl) h39⟩) ?_
 rintro _ w40 ⟨rfl, hK⟩
 replace hC := hC.merge hK
 clear hK
 refine lp (.bool (!y38)) (pu_not (q := y38) rfl) ?_
 refine lp (.bool (!y38)) (pu_assign rfl) ?_
 refine ln ?_
 refine hK37 _ _ ?_
 refine Wc.cond (t := (!y38)) (rfl) (fun hq41 => ?_) (fun hq41 => ?_)
 replace hb := tt hq41 hb
 refine Wc.seq fun K42 hK42 => ?_
 refine rg ?_
 refine lp (.int .i64 y15.2.2) (pu_move e6) ?_
 refine lp (.bool (decide (y15.2.2 = 1))) (pu_eql (k := .i64) (a := y15.2.2) (b := 1) rfl rfl) ?_
 refine lp (.bool (decide (y15.2.2 = 1))) (pu_move rfl) ?_
 rcases bS (decide (y15.2.2 = 1)) with hq43 | hq43
 replace hb := tt hq43 hb
 refine gp rfl rfl (decide (y15.2.2 = 1)) rfl hq43 (.pointer (some ((⟨g31, 0, none⟩ : Addr).add 0))) (pu_field (sz := 1) Try.underlying24 rfl Try.sizeOf22 (by decide) rfl e5) ?_
 refine gv rfl rfl (decide (y15.2.2 = 1)) rfl hq43 (.slice A17 y15.1.length c19) (ld_fld (hC.bx (i := 0) rfl) Try.isAgg22 rfl rfl) ?_
 refine gp rfl rfl (decide (y15.2.2 = 1)) rfl hq43 (.int .i64 (y15.1.length : Int)) (pu_len (A := A17) (n := y15.1.length) (m := c19) Try.underlying22 rfl) ?_
 refine gp rfl rfl (decide (y15.2.2 = 1)) rfl hq43 (.bool (decide ((y15.1.length : Int) = 0))) (pu_eql (k := .i64) (a := (y15.1.length : Int)) (b := 0) rfl rfl) ?_
 refine lp (.bool (decide ((y15.1.length : Int) = 0))) (pu_pickT (q := (decide (y15.2.2 = 1))) rfl hq43 rfl) ?_
 refine lp (.bool (decide ((y15.1.length : Int) = 0))) (pu_move rfl) ?_
 rcases bS (decide ((y15.1.length : Int) = 0)) with hq44 | hq44
 replace hb := tt hq44 hb
 refine gp rfl rfl (decide ((y15.1.length : Int) = 0)) rfl hq44 (.pointer (some ((⟨g31, 0, none⟩ : Addr).add 1))) (pu_field (sz := 1) Try.underlying24 rfl Try.sizeOf22 (by decide) rfl e5) ?_
 refine gv rfl rfl (decide ((y15.1.length : Int) = 0)) rfl hq44 (.slice A21 y15.2.1.length c23) (ld_fld (hC.bx (i := 0) rfl) Try.isAgg22 rfl rfl) ?_
 refine gp rfl rfl (decide ((y15.1.length : Int) = 0)) rfl hq44 (.int .i64 (y15.2.1.length : Int)) (pu_len (A := A21) (n := y15.2.1.length) (m := c23) Try.underlying22 rfl) ?_
 refine gp rfl rfl (decide ((y15.1.length : Int) = 0)) rfl hq44 (.bool (decide ((y15.2.1.length : Int) = 0))) (pu_eql (k := .i64) (a := (y15.2.1.length : Int)) (b := 0) rfl rfl) ?_
 refine lp (.bool (decide ((y15.2.1.length : Int) = 0))) (pu_pickT (q := (decide ((y15.1.length : Int) = 0))) rfl hq44 rfl) ?_
 refine lp (.bool (decide ((y15.2.1.length : Int) = 0))) (pu_assign rfl) ?_
 refine ln ?_
 refine hK42 _ _ ?_
 obtain rfl := os hb
 refine Wc.ret ?_
 refine hKR _ _ ?_
 refine ⟨_, res1 Try.results4 (show RV _ _ _ (.tmp _) (.bool (decide ((y15.2.1.length : Int) = 0))) from rfl), _, rfl, rfl, hC.sel [] (by decide)⟩
 replace hb := tf hq44 hb
 refine gs rfl rfl (decide ((y15.1.length : Int) = 0)) rfl hq44 ?_
 refine gs rfl rfl (decide ((y15.1.length : Int) = 0)) rfl hq44 ?_
 refine gs rfl rfl (decide ((y15.1.length : Int) = 0)) rfl hq44 ?_
 refine gs rfl rfl (decide ((y15.1.length : Int) = 0)) rfl hq44 ?_
 refine lp (.bool false) (pu_pickF (q := (decide ((y15.1.length : Int) = 0))) rfl hq44 rfl) ?_
 refine lp (.bool false) (pu_assign rfl) ?_
 refine ln ?_
 refine hK42 _ _ ?_
 obtain rfl := os hb
 refine Wc.ret ?_
 refine hKR _ _ ?_
 refine ⟨_, res1 Try.results4 (show RV _ _ _ (.tmp _) (.bool false) from rfl), _, rfl, rfl, hC.sel [] (by decide)⟩
 replace hb := tf hq43 hb
 refine gs rfl rfl (decide (y15.2.2 = 1)) rfl hq43 ?_
 refine gs rfl rfl (decide (y15.2.2 = 1)) rfl hq43 ?_
 refine gs rfl rfl (decide (y15.2.2 = 1)) rfl hq43 ?_
 refine gs rfl rfl (decide (y15.2.2 = 1)) rfl hq43 ?_
 refine lp (.bool false) (pu_pickF (q := (decide (y15.2.2 = 1))) rfl hq43 rfl) ?_
 refine lp (.bool false) (pu_move rfl) ?_
 refine gs rfl rfl false rfl rfl ?_
 refine gs rfl rfl false rfl rfl ?_
 refine gs rfl rfl false rfl rfl ?_
 refine gs rfl rfl false rfl rfl ?_
 refine lp (.bool false) (pu_pickF (q := false) rfl rfl rfl) ?_
 refine lp (.bool false) (pu_assign rfl) ?_
 refine ln ?_
 refine hK42 _ _ ?_
 obtain rfl := os hb
 refine Wc.ret ?_
 refine hKR _ _ ?_
 refine ⟨_, res1 Try.results4 (show RV _ _ _ (.tmp _) (.bool false) from rfl), _, rfl, rfl, hC.sel [] (by decide)⟩
 replace hb := tf hq41 hb
 refine Wc.seq fun K45 hK45 => ?_
 refine rg ?_
 refine lp (.int .i64 strands_0) (pu_move e0) ?_
 obtain ⟨z46, h47, hb⟩ := bd hb
 refine lp (.int .i64 z46) (pu_mulc (a := 2) (b := strands_0) rfl rfl h47) ?_
 refine lp (.slice Aword_1 word_1.length cword_1) (pu_move e1) ?_
 refine lp (.int .i64 (word_1.length : Int)) (pu_len (A := Aword_1) (n := word_1.length) (m := cword_1) Try.underlying22 rfl) ?_
 obtain ⟨z48, h49, hb⟩ := bd hb
 refine lp (.int .i64 z48) (pu_addc (a := z46) (b := (word_1.length : Int)) rfl rfl h49) ?_
 refine lp (.bool (decide (40 < z48))) (pu_gtr (k := .i64) (a := z48) (b := 40) rfl rfl) ?_
 refine lp (.bool (decide (40 < z48))) (pu_assign rfl) ?_
 refine ln ?_
 refine hK45 _ _ ?_
 refine Wc.fresh fun E50 hE => ?_
 have e0 := (congrFun hE 0).trans e0
 have e1 := (congrFun hE 1).trans e1
 have e4 := (congrFun hE 4).trans e4
 have e5 := (congrFun hE 5).trans e5
 have e6 := (congrFun hE 6).trans e6
 have e38 : E50 38 = .bool (decide (40 < z48)) := (congrFun hE 38).trans rfl
 clear hE
 refine Wc.cond (t := (decide (40 < z48))) (e38) (fun hq51 => ?_) (fun hq51 => ?_)
 replace hb := tt hq51 hb
 refine Wc.seq fun K52 hK52 => ?_
 refine rg ?_
 refine lp (.int .i64 y15.2.2) (pu_move e6) ?_
 refine lp (.bool (decide (y15.2.2 = 5))) (pu_eql (k := .i64) (a := y15.2.2) (b := 5) rfl rfl) ?_
 refine lp (.bool (decide (y15.2.2 = 5))) (pu_move rfl) ?_
 rcases bS (decide (y15.2.2 = 5)) with hq53 | hq53
 replace hb := tt hq53 hb
 refine gp rfl rfl (decide (y15.2.2 = 5)) rfl hq53 (.pointer (some ((⟨g31, 0, none⟩ : Addr).add 0))) (pu_field (sz := 1) Try.underlying24 rfl Try.sizeOf22 (by decide) rfl e5) ?_
 refine gv rfl rfl (decide (y15.2.2 = 5)) rfl hq53 (.slice A17 y15.1.length c19) (ld_fld (hC.bx (i := 0) rfl) Try.isAgg22 rfl rfl) ?_
 refine gp rfl rfl (decide (y15.2.2 = 5)) rfl hq53 (.int .i64 (y15.1.length : Int)) (pu_len (A := A17) (n := y15.1.length) (m := c19) Try.underlying22 rfl) ?_
 refine gp rfl rfl (decide (y15.2.2 = 5)) rfl hq53 (.bool (decide ((y15.1.length : Int) = 0))) (pu_eql (k := .i64) (a := (y15.1.length : Int)) (b := 0) rfl rfl) ?_
 refine lp (.bool (decide ((y15.1.length : Int) = 0))) (pu_pickT (q := (decide (y15.2.2 = 5))) rfl hq53 rfl) ?_
 refine lp (.bool (decide ((y15.1.length : Int) = 0))) (pu_move rfl) ?_
 rcases bS (decide ((y15.1.length : Int) = 0)) with hq54 | hq54
 replace hb := tt hq54 hb
 refine gp rfl rfl (decide ((y15.1.length : Int) = 0)) rfl hq54 (.pointer (some ((⟨g31, 0, none⟩ : Addr).add 1))) (pu_field (sz := 1) Try.underlying24 rfl Try.sizeOf22 (by decide) rfl e5) ?_
 refine gv rfl rfl (decide ((y15.1.length : Int) = 0)) rfl hq54 (.slice A21 y15.2.1.length c23) (ld_fld (hC.bx (i := 0) rfl) Try.isAgg22 rfl rfl) ?_
 refine gp rfl rfl (decide ((y15.1.length : Int) = 0)) rfl hq54 (.int .i64 (y15.2.1.length : Int)) (pu_len (A := A21) (n := y15.2.1.length) (m := c23) Try.underlying22 rfl) ?_
 refine gp rfl rfl (decide ((y15.1.length : Int) = 0)) rfl hq54 (.bool (decide ((y15.2.1.length : Int) = 0))) (pu_eql (k := .i64) (a := (y15.2.1.length : Int)) (b := 0) rfl rfl) ?_
 refine lp (.bool (decide ((y15.2.1.length : Int) = 0))) (pu_pickT (q := (decide ((y15.1.length : Int) = 0))) rfl hq54 rfl) ?_
 refine lp (.bool (decide ((y15.2.1.length : Int) = 0))) (pu_assign rfl) ?_
 refine ln ?_
 refine hK52 _ _ ?_
 obtain rfl := os hb
 refine Wc.ret ?_
 refine hKR _ _ ?_
 refine ⟨_, res1 Try.results4 (show RV _ _ _ (.tmp _) (.bool (decide ((y15.2.1.length : Int) = 0))) from rfl), _, rfl, rfl, hC.sel [] (by decide)⟩
 replace hb := tf hq54 hb
 refine gs rfl rfl (decide ((y15.1.length : Int) = 0)) rfl hq54 ?_
 refine gs rfl rfl (decide ((y15.1.length : Int) = 0)) rfl hq54 ?_
 refine gs rfl rfl (decide ((y15.1.length : Int) = 0)) rfl hq54 ?_
 refine gs rfl rfl (decide ((y15.1.length : Int) = 0)) rfl hq54 ?_
 refine lp (.bool false) (pu_pickF (q := (decide ((y15.1.length : Int) = 0))) rfl hq54 rfl) ?_
 refine lp (.bool false) (pu_assign rfl) ?_
 refine ln ?_
 refine hK52 _ _ ?_
 obtain rfl := os hb
 refine Wc.ret ?_
 refine hKR _ _ ?_
 refine ⟨_, res1 Try.results4 (show RV _ _ _ (.tmp _) (.bool false) from rfl), _, rfl, rfl, hC.sel [] (by decide)⟩
 replace hb := tf hq53 hb
 refine gs rfl rfl (decide (y15.2.2 = 5)) rfl hq53 ?_
 refine gs rfl rfl (decide (y15.2.2 = 5)) rfl hq53 ?_
 refine gs rfl rfl (decide (y15.2.2 = 5)) rfl hq53 ?_
 refine gs rfl rfl (decide (y15.2.2 = 5)) rfl hq53 ?_
 refine lp (.bool false) (pu_pickF (q := (decide (y15.2.2 = 5))) rfl hq53 rfl) ?_
 refine lp (.bool false) (pu_move rfl) ?_
 refine gs rfl rfl false rfl rfl ?_
 refine gs rfl rfl false rfl rfl ?_
 refine gs rfl rfl false rfl rfl ?_
 refine gs rfl rfl false rfl rfl ?_
 refine lp (.bool false) (pu_pickF (q := false) rfl rfl rfl) ?_
 refine lp (.bool false) (pu_assign rfl) ?_
 refine ln ?_
 refine hK52 _ _ ?_
 obtain rfl := os hb
 refine Wc.ret ?_
 refine hKR _ _ ?_
 refine ⟨_, res1 Try.results4 (show RV _ _ _ (.tmp _) (.bool false) from rfl), _, rfl, rfl, hC.sel [] (by decide)⟩
 replace hb := tf hq51 hb
 refine Wc.skip ?_
 refine hK36 _ _ ?_
 refine Wc.seq fun K55 hK55 => ?_
 refine Wc.regionMix [] (frm [] ([] : List Fact) ([] : List Fact)) (fun _ => rfl) mixed (by decide +kernel) (by decide +kernel) fun w57 hw56 => ?_
 replace hC := hC.step (Fr.of_drew hw56)
 have hM := Fr.refl (fun k => k ∈ blocks ([] : List Fact)) w57
 clear hw56
 have hS := hC
 refine mp (.int .i64 y15.2.2) (pu_move e6) ?_
 refine mp (.bool (decide (y15.2.2 = 0))) (pu_eql (k := .i64) (a := y15.2.2) (b := 0) rfl rfl) ?_
 refine mp (.bool (decide (y15.2.2 = 0))) (pu_move rfl) ?_
 rcases bS (decide (y15.2.2 = 0)) with hq58 | hq58
 replace hb := tt hq58 hb
 refine mixE.gload rfl (want_t rfl rfl (show _ = Value.bool (decide (y15.2.2 = 0)) from rfl) hq58) hM (v := .agg #[.slice A17 y15.1.length c19, .slice A21 y15.2.1.length c23]) (fun _ hF => ld_blk (hS.bx2 (i := 0) rfl [] (by decide) hF) Try.isAgg24 Try.sizeOf24 e5) ?_
 refine mixE.gpure rfl (want_t rfl rfl (show _ = Value.bool (decide (y15.2.2 = 0)) from rfl) hq58) (v := .int .i64 strands_0) (pu_move e0) ?_
 refine mixE.gpure rfl (want_t rfl rfl (show _ = Value.bool (decide (y15.2.2 = 0)) from rfl) hq58) (v := .slice Aword_1 word_1.length cword_1) (pu_move e1) ?_
 obtain ⟨y59, h60, hb⟩ := bd hb
 refine mixE.gcl rfl (want_t rfl rfl (show _ = Value.bool (decide (y15.2.2 = 0)) from rfl) hq58) hM (⟨_, _, op_call (vs := [.int .i64 strands_0, .slice Aword_1 word_1.length cword_1]) Try.call21 rfl rfl rfl, ref44_Braid_ok n hC.lt hstrands_0 (hC.rd (i := 3) rfl) h60⟩) ?_
 rintro _ w69 ⟨A61, m62, c63, A65, m66, c67, rfl, hK⟩
 have hBf64 := Beside.cl (i := 0) hM hK rfl
 have hBf68 := Beside.cl (i := 1) hM hK rfl
 replace hM := hM.none hK.fr
 refine ⟨hM, ?_⟩
 replace hC := hC.merge hK
 clear hK
 obtain ⟨rfl, hl70, hc71⟩ := (hC.ow (i := 0) rfl).sl_len
 obtain ⟨rfl, hl72, hc73⟩ := (hC.ow (i := 1) rfl).sl_len
 obtain ⟨y74, h75, hb⟩ := bd hb
 refine mixE.gcl rfl (want_t rfl rfl (show _ = Value.bool (decide (y15.2.2 = 0)) from rfl) hq58) hM (⟨_, _, op_call (vs := [.agg #[.slice A17 y15.1.length c19, .slice A21 y15.2.1.length c23], .agg #[.slice A61 y59.1.length c63, .slice A65 y59.2.length c67]]) Try.call20 rfl rfl rfl, ref42_Same_ok n (hC.lentLt [.slice A17 y15.1.length c19, .slice A21 y15.2.1.length c23, .slice A61 y59.1.length c63, .slice A65 y59.2.length c67]) ((hC.ow (i := 3) rfl).lend (vs := [.slice A17 y15.1.length c19, .slice A21 y15.2.1.length c23, .slice A61 y59.1.length c63, .slice A65 y59.2.length c67]) (by simp)) ((hC.ow (i := 4) rfl).lend (vs := [.slice A17 y15.1.length c19, .slice A21 y15.2.1.length c23, .slice A61 y59.1.length c63, .slice A65 y59.2.length c67]) (by simp)) ((hC.ow (i := 0) rfl).lend (vs := [.slice A17 y15.1.length c19, .slice A21 y15.2.1.length c23, .slice A61 y59.1.length c63, .slice A65 y59.2.length c67]) (by simp)) ((hC.ow (i := 1) rfl).lend (vs := [.slice A17 y15.1.length c19, .slice A21 y15.2.1.length c23, .slice A61 y59.1.length c63, .slice A65 y59.2.length c67]) (by simp)) h75⟩) ?_
 rintro _ w76 ⟨rfl, hK⟩
 replace hM := hM.none hK.fr
 refine ⟨hM, ?_⟩
 replace hC := hC.mergeF hK rfl
 clear hK
 refine mp (.bool y74) (pu_pickT (q := (decide (y15.2.2 = 0))) rfl hq58 rfl) ?_
 refine mp (.bool y74) (pu_assign rfl) ?_
 refine mixE.nil ?_
 clear hS hM
 refine hK55 _ _ ?_
 obtain rfl := os hb
 refine Wc.ret ?_
 refine hKR _ _ ?_
 refine ⟨_, res1 Try.results4 (show RV _ _ _ (.tmp _) (.bool y74) from rfl), _, rfl, rfl, hC.sel [] (by decide)⟩
 replace hb := tf hq58 hb
 refine mixE.gskip (want_f rfl rfl (show _ = Value.bool (decide (y15.2.2 = 0)) from rfl) hq58) ?_
 refine mixE.gskip (want_f rfl rfl (show _ = Value.bool (decide (y15.2.2 = 0)) from rfl) hq58) ?_
 refine mixE.gskip (want_f rfl rfl (show _ = Value.bool (decide (y15.2.2 = 0)) from rfl) hq58) ?_
 refine mixE.gskip (want_f rfl rfl (show _ = Value.bool (decide (y15.2.2 = 0)) from rfl) hq58) ?_
 refine mixE.gskip (want_f rfl rfl (show _ = Value.bool (decide (y15.2.2 = 0)) from rfl) hq58) ?_
 refine mp (.bool false) (pu_pickF (q := (decide (y15.2.2 = 0))) rfl hq58 rfl) ?_
 refine mp (.bool false) (pu_assign rfl) ?_
 refine mixE.nil ?_
 clear hS hM
 refine hK55 _ _ ?_
 obtain rfl := os hb
 refine Wc.ret ?_
 refine hKR _ _ ?_
 refine ⟨_, res1 Try.results4 (show RV _ _ _ (.tmp _) (.bool false) from rfl), _, rfl, rfl, hC.sel [] (by decide)⟩
end Go.Proofs.Yticemffhlapnnaa
