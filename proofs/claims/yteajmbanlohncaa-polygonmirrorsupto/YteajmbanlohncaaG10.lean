/- The walks: part 10. -/
import Derived.Test.YteajmbanlohncaaS
import Derived.Test.YteajmbanlohncaaG5
import Derived.Test.YteajmbanlohncaaG8
import Derived.Test.YteajmbanlohncaaG9
set_option linter.unusedVariables false
set_option linter.unusedSimpArgs false
namespace Go.Proofs.Yteajmbanlohncaa
open Ev
set_option maxRecDepth 100000 in
set_option maxHeartbeats 4000000 in
theorem mirror_exchange_mirror_Mirror_c1_ok (n : Nat) {w : World} {O0 : List Nat} (hO : ∀ k ∈ O0, k < w.heap.size) {Ad_0_0 : Option Addr} {md_0_0 cd_0_0 : Nat} {d_0_0 : List Int} (hd_0_0 : Rep O0 w (.sl (.int .i64)) [.slice Ad_0_0 md_0_0 cd_0_0] d_0_0) {Ad_0_1 : Option Addr} {md_0_1 cd_0_1 : Nat} {d_0_1 : List Int} (hd_0_1 : Rep O0 w (.sl (.int .i64)) [.slice Ad_0_1 md_0_1 cd_0_1] d_0_1) {d_0_2 : Int} (hd_0_2 : I64 d_0_2) {r : (List Int) × (List Int) × Int} (hb : F.mirror_exchange_mirror_Mirror_c1 n d_0_0 d_0_1 d_0_2 = some r) :
    Calls Try.prog 68 #[.agg #[.slice Ad_0_0 md_0_0 cd_0_0, .slice Ad_0_1 md_0_1 cd_0_1, .int .i64 d_0_2], .func (.func 69) #[] #[]] w fun e w' => ∃ v, e = .returned v ∧ ∃ (A0 : Option Addr) (m0 c0 : Nat) (A1 : Option Addr) (m1 c1 : Nat), v = .agg #[.slice A0 m0 c0, .slice A1 m1 c1, .int .i64 r.2.2] ∧ I64 r.2.2 ∧ Cx (fun _ => False) O0 w w' [.own 3 (.int .i64) (.slice A0 m0 c0) r.1, .own 3 (.int .i64) (.slice A1 m1 c1) r.2.1] := by
 unfold F.mirror_exchange_mirror_Mirror_c1 at hb
 have hC := Cx.start hO
 replace hC := hC.arg rfl hd_0_0
 replace hC := hC.arg rfl hd_0_1
 clear hO
 obtain ⟨rfl, hld_0_0, hcd_0_0⟩ := hd_0_0.sl_len
 obtain ⟨rfl, hld_0_1, hcd_0_1⟩ := hd_0_1.sl_len
 refine calls_of_Wc Try.func68 rfl (by rw [Try.ntmps68]; exact Nat.le_of_ble_eq_true rfl) fun KR hKR => ?_
 refine Wc.seq fun K3 hK3 => ?_
 refine rg ?_
 refine lex.op (hC.box (cs := [.slice Ad_0_0 d_0_0.length cd_0_0, .slice Ad_0_1 d_0_1.length cd_0_1, .int .i64 d_0_2]) rfl rfl) ?_
 rintro _ w5 ⟨g4, rfl, hC, hF, hG⟩
 clear hG
 refine lex.op (hC.box (cs := [.func (.func 69) #[] #[]]) rfl rfl) ?_
 rintro _ w8 ⟨g7, rfl, hC, hF, hG⟩
 clear hG
 refine lex.op (hC.alloc (cs := [.slice none 0 0, .slice none 0 0, .int .i64 0]) Try.zeroValue32 rfl) ?_
 rintro _ w11 ⟨g10, rfl, hC, hF, hG⟩
 clear hG
 refine ln ?_
 refine hK3 _ _ ?_
 refine Wc.seq fun K13 hK13 => ?_
 refine rg ?_
 refine lp (.func (.func 94) #[] #[.pointer (some ⟨g7, 0, none⟩), .pointer (some ⟨g4, 0, none⟩)]) (pu_funcc rfl) ?_
 refine lp (.func (.func 94) #[] #[.pointer (some ⟨g7, 0, none⟩), .pointer (some ⟨g4, 0, none⟩)]) (pu_assign rfl) ?_
 refine ln ?_
 refine hK13 _ _ ?_
 refine Wc.seq fun K14 hK14 => ?_
 refine rg ?_
 refine lv (.agg #[.slice Ad_0_0 d_0_0.length cd_0_0, .slice Ad_0_1 d_0_1.length cd_0_1, .int .i64 d_0_2]) (ld_blk (hC.bx (i := 2) rfl) Try.isAgg32 Try.sizeOf32 rfl) ?_
 refine lp (.func (.func 94) #[] #[.pointer (some ⟨g7, 0, none⟩), .pointer (some ⟨g4, 0, none⟩)]) (pu_move rfl) ?_
 refine lp (.func (.func 95) #[] #[.pointer (some ⟨g7, 0, none⟩)]) (pu_funcc rfl) ?_
 replace hC : Cx (fun _ => False) O0 w w11 ([.box g7 96 [.func (.func 69) #[] #[]], .box g4 32 [.slice Ad_0_0 d_0_0.length cd_0_0, .slice Ad_0_1 d_0_1.length cd_0_1, .int .i64 d_0_2]] ++ [.box g10 32 [.slice none 0 0, .slice none 0 0, .int .i64 0], .ro (.sl (.int .i64)) [.slice Ad_0_1 d_0_1.length cd_0_1] d_0_1, .ro (.sl (.int .i64)) [.slice Ad_0_0 d_0_0.length cd_0_0] d_0_0]) := hC.sel [1, 2, 0, 3, 4] (by decide)
 obtain ⟨y15, h16, hb⟩ := bd hb
 refine lex.cl (⟨_, _, op_call (vs := [.agg #[.slice Ad_0_0 d_0_0.length cd_0_0, .slice Ad_0_1 d_0_1.length cd_0_1, .int .i64 d_0_2], .func (.func 94) #[] #[.pointer (some ⟨g7, 0, none⟩), .pointer (some ⟨g4, 0, none⟩)], .func (.func 95) #[] #[.pointer (some ⟨g7, 0, none⟩)]]) Try.call71 rfl rfl rfl, mirror_move_mirror_exchange_c1_mirror_exchange_c2_ok n hC.lt (hC.rd (i := 4) rfl) (hC.rd (i := 3) rfl) hd_0_2 (hC.rd (i := 4) rfl) (hC.rd (i := 3) rfl) hd_0_2 hC.give h16⟩) ?_
 rintro _ w26 ⟨A17, m18, c19, A21, m22, c23, rfl, hr25, hK⟩
 replace hC := hC.back hK
 clear hK
 obtain ⟨rfl, hl27, hc28⟩ := (hC.ow (i := 0) rfl).sl_len
 obtain ⟨rfl, hl29, hc30⟩ := (hC.ow (i := 1) rfl).sl_len
 refine lex.sk (hC.seta (i := 4) (ds := [.slice A17 y15.1.length c19, .slice A21 y15.2.1.length c23, .int .i64 y15.2.2]) rfl Try.type32 rfl rfl rfl rfl rfl) ?_
 rintro w31 ⟨hC, hF⟩
 refine ln ?_
 refine hK14 _ _ ?_
 obtain rfl := os hb
 refine Wc.ret ?_
 refine hKR _ _ ?_
 refine ⟨_, res1 Try.results68 ⟨_, rfl, loadVar_blk (hC.bx (i := 4) rfl) Try.isAgg32 Try.sizeOf32⟩, _, rfl, A17, y15.1.length, c19, A21, y15.2.1.length, c23, rfl, hr25, hC.sel [0, 1] (by decide)⟩

set_option maxRecDepth 100000 in
set_option maxHeartbeats 4000000 in
theorem mirror_Mirror_ok (n : Nat) {w : World} {O0 : List Nat} (hO : ∀ k ∈ O0, k < w.heap.size) {Ad_0_0 : Option Addr} {md_0_0 cd_0_0 : Nat} {d_0_0 : List Int} (hd_0_0 : Rep O0 w (.sl (.int .i64)) [.slice Ad_0_0 md_0_0 cd_0_0] d_0_0) {Ad_0_1 : Option Addr} {md_0_1 cd_0_1 : Nat} {d_0_1 : List Int} (hd_0_1 : Rep O0 w (.sl (.int .i64)) [.slice Ad_0_1 md_0_1 cd_0_1] d_0_1) {d_0_2 : Int} (hd_0_2 : I64 d_0_2) {r : (List Int) × (List Int) × Int × Int} (hb : F.mirror_Mirror n d_0_0 d_0_1 d_0_2 = some r) :
    Calls Try.prog 31 #[.agg #[.slice Ad_0_0 md_0_0 cd_0_0, .slice Ad_0_1 md_0_1 cd_0_1, .int .i64 d_0_2]] w fun e w' => ∃ v, e = .returned v ∧ ∃ (A0 : Option Addr) (m0 c0 : Nat) (A1 : Option Addr) (m1 c1 : Nat), v = .tuple #[.agg #[.slice A0 m0 c0, .slice A1 m1 c1, .int .i64 r.2.2.1], .int .i64 r.2.2.2] ∧ I64 r.2.2.1 ∧ I64 r.2.2.2 ∧ Cx (fun _ => False) O0 w w' [.own 3 (.int .i64) (.slice A0 m0 c0) r.1, .own 3 (.int .i64) (.slice A1 m1 c1) r.2.1] := by
 unfold F.mirror_Mirror at hb
 have hC := Cx.start hO
 replace hC := hC.arg rfl hd_0_0
 replace hC := hC.arg rfl hd_0_1
 clear hO
 obtain ⟨rfl, hld_0_0, hcd_0_0⟩ := hd_0_0.sl_len
 obtain ⟨rfl, hld_0_1, hcd_0_1⟩ := hd_0_1.sl_len
 refine calls_of_Wc Try.func31 rfl (by rw [Try.ntmps31]; exact Nat.le_of_ble_eq_true rfl) fun KR hKR => ?_
 refine Wc.seq fun K3 hK3 => ?_
 refine rg ?_
 refine lex.op (hC.box (cs := [.slice Ad_0_0 d_0_0.length cd_0_0, .slice Ad_0_1 d_0_1.length cd_0_1, .int .i64 d_0_2]) rfl rfl) ?_
 rintro _ w5 ⟨g4, rfl, hC, hF, hG⟩
 clear hG
 refine lex.op (hC.alloc (cs := [.slice none 0 0, .slice none 0 0, .int .i64 0]) Try.zeroValue32 rfl) ?_
 rintro _ w8 ⟨g7, rfl, hC, hF, hG⟩
 clear hG
 refine lp (.int .i64 0) (pu_assign rfl) ?_
 refine ln ?_
 refine hK3 _ _ ?_
 refine Wc.seq fun K10 hK10 => ?_
 refine Wc.seq fun K11 hK11 => ?_
 refine rg ?_
 refine lv (.agg #[.slice Ad_0_0 d_0_0.length cd_0_0, .slice Ad_0_1 d_0_1.length cd_0_1, .int .i64 d_0_2]) (ld_blk (hC.bx (i := 1) rfl) Try.isAgg32 Try.sizeOf32 rfl) ?_
 obtain ⟨y12, h13, hb⟩ := bd hb
 refine lex.cl (⟨_, _, op_call (vs := [.agg #[.slice Ad_0_0 d_0_0.length cd_0_0, .slice Ad_0_1 d_0_1.length cd_0_1, .int .i64 d_0_2]]) Try.call27 rfl rfl rfl, diagram_Valid_ok n hC.lt (hC.rd (i := 3) rfl) (hC.rd (i := 2) rfl) hd_0_2 h13⟩) ?_
 rintro _ w14 ⟨rfl, hK⟩
 replace hC := hC.merge hK
 clear hK
 refine lp (.bool (!y12)) (pu_not (q := y12) rfl) ?_
 refine ln ?_
 refine hK11 _ _ ?_
 refine Wc.cond (t := (!y12)) (rfl) (fun hq15 => ?_) (fun hq15 => ?_)
 replace hb := tt hq15 hb
 refine Wc.seq fun K16 hK16 => ?_
 refine rg ?_
 refine lp (.agg #[.slice none 0 0, .slice none 0 0, .int .i64 0]) (pu_builds (places := [(0, 1), (1, 1), (2, 1)]) (pv := []) Try.type32 Try.underlying32 rfl (mp_cons Try.type30 (mp_cons Try.type30 (mp_cons Try.type3 mp_nil rfl rfl) rfl rfl) rfl rfl) rfl (by simp [Instr.fill, Value.cells])) ?_
 refine lex.sk (hC.seta (i := 0) (ds := [.slice none 0 0, .slice none 0 0, .int .i64 0]) rfl Try.type32 rfl rfl rfl rfl rfl) ?_
 rintro w17 ⟨hC, hF⟩
 refine lp (.int .i64 1) (pu_assign rfl) ?_
 refine ln ?_
 refine hK16 _ _ ?_
 replace hC := hC.nil 3 (.int .i64)
 replace hC := hC.nil 3 (.int .i64)
 obtain rfl := os hb
 refine Wc.ret ?_
 refine hKR _ _ ?_
 refine ⟨_, res2 Try.results31 ⟨_, rfl, loadVar_blk (hC.bx (i := 2) rfl) Try.isAgg32 Try.sizeOf32⟩ (show RV _ _ _ (.tmp _) (.int .i64 1) from rfl), _, rfl, none, 0, 0, none, 0, 0, rfl, (show I64 0 from by unfold I64; omega), (show I64 1 from by unfold I64; omega), hC.sel [1, 0] (by decide)⟩
 replace hb := tf hq15 hb
 refine Wc.skip ?_
 refine hK10 _ _ ?_
 refine Wc.seq fun K20 hK20 => ?_
 refine rg ?_
 refine lv (.agg #[.slice Ad_0_0 d_0_0.length cd_0_0, .slice Ad_0_1 d_0_1.length cd_0_1, .int .i64 d_0_2]) (ld_blk (hC.bx (i := 1) rfl) Try.isAgg32 Try.sizeOf32 rfl) ?_
 obtain ⟨y21, h22, hb⟩ := bd hb
 refine lex.cl (⟨_, _, op_call (vs := [.agg #[.slice Ad_0_0 d_0_0.length cd_0_0, .slice Ad_0_1 d_0_1.length cd_0_1, .int .i64 d_0_2], .func (.func 69) #[] #[]]) Try.call68 rfl rfl rfl, mirror_exchange_mirror_Mirror_c1_ok n hC.lt (hC.rd (i := 3) rfl) (hC.rd (i := 2) rfl) hd_0_2 h22⟩) ?_
 rintro _ w32 ⟨A23, m24, c25, A27, m28, c29, rfl, hr31, hK⟩
 replace hC := hC.merge hK
 clear hK
 obtain ⟨rfl, hl33, hc34⟩ := (hC.ow (i := 0) rfl).sl_len
 obtain ⟨rfl, hl35, hc36⟩ := (hC.ow (i := 1) rfl).sl_len
 refine lex.sk (hC.seta (i := 2) (ds := [.slice A23 y21.1.length c25, .slice A27 y21.2.1.length c29, .int .i64 y21.2.2]) rfl Try.type32 rfl rfl rfl rfl rfl) ?_
 rintro w37 ⟨hC, hF⟩
 refine lp (.int .i64 0) (pu_assign rfl) ?_
 refine ln ?_
 refine hK20 _ _ ?_
 obtain rfl := os hb
 refine Wc.ret ?_
 refine hKR _ _ ?_
 refine ⟨_, res2 Try.results31 ⟨_, rfl, loadVar_blk (hC.bx (i := 2) rfl) Try.isAgg32 Try.sizeOf32⟩ (show RV _ _ _ (.tmp _) (.int .i64 0) from rfl), _, rfl, A23, y21.1.length, c25, A27, y21.2.1.length, c29, rfl, hr31, (show I64 0 from by unfold I64; omega), hC.sel [0, 1] (by decide)⟩

set_option maxRecDepth 100000 in
set_option maxHeartbeats 4000000 in
theorem mirror_Reflect_c2_ok (n : Nat) {w : World} {O0 : List Nat} (hO : ∀ k ∈ O0, k < w.heap.size) {a_0 : Int} (ha_0 : I64 a_0) {r : Int} (hb : F.mirror_Reflect_c2 n a_0 = some r) :
    Calls Try.prog 72 #[.int .i64 a_0] w fun e w' => ∃ v, e = .returned v ∧ v = .int .i64 r ∧ I64 r ∧ Cx (fun _ => False) O0 w w' [] := by
 unfold F.mirror_Reflect_c2 at hb
 have hC := Cx.start hO
 clear hO
 refine calls_of_Wc Try.func72 rfl (by rw [Try.ntmps72]; exact Nat.le_of_ble_eq_true rfl) fun KR hKR => ?_
 refine Wc.seq fun K1 hK1 => ?_
 refine rg ?_
 refine lp (.int .i64 0) (pu_assign rfl) ?_
 refine ln ?_
 refine hK1 _ _ ?_
 refine Wc.seq fun K2 hK2 => ?_
 refine rg ?_
 refine lp (.int .i64 (-1)) (pu_assign rfl) ?_
 refine ln ?_
 refine hK2 _ _ ?_
 obtain rfl := os hb
 refine Wc.ret ?_
 refine hKR _ _ ?_
 refine ⟨_, res1 Try.results72 (show RV _ _ _ (.tmp _) (.int .i64 (-1)) from rfl), _, rfl, rfl, (show I64 (-1) from by unfold I64; omega), hC.sel [] (by decide)⟩

set_option maxRecDepth 100000 in
set_option maxHeartbeats 4000000 in
theorem mirror_Reflect_c1_ok (n : Nat) {w : World} {O0 : List Nat} (hO : ∀ k ∈ O0, k < w.heap.size) {c_0 : Int} (hc_0 : I64 c_0) {x_1 : Int} (hx_1 : I64 x_1) {r : Int} (hb : F.mirror_Reflect_c1 n c_0 x_1 = some r) :
    Calls Try.prog 70 #[.int .i64 c_0, .int .i64 x_1] w fun e w' => ∃ v, e = .returned v ∧ v = .int .i64 r ∧ I64 r ∧ Cx (fun _ => False) O0 w w' [] := by
 unfold F.mirror_Reflect_c1 at hb
 have hC := Cx.start hO
 clear hO
 refine calls_of_Wc Try.func70 rfl (by rw [Try.ntmps70]; exact Nat.le_of_ble_eq_true rfl) fun KR hKR => ?_
 refine Wc.seq fun K1 hK1 => ?_
 refine rg ?_
 refine lp (.int .i64 0) (pu_assign rfl) ?_
 refine ln ?_
 refine hK1 _ _ ?_
 refine Wc.seq fun K2 hK2 => ?_
 refine rg ?_
 refine lp (.int .i64 x_1) (pu_move rfl) ?_
 obtain ⟨z3, h4, hb⟩ := bd hb
 refine lp (.int .i64 z3) (pu_mulc (a := 2) (b := x_1) rfl rfl h4) ?_
 obtain ⟨z5, h6, hb⟩ := bd hb
 refine lp (.int .i64 z5) (pu_subc (a := 4) (b := z3) rfl rfl h6) ?_
 refine lp (.int .i64 z5) (pu_assign rfl) ?_
 refine ln ?_
 refine hK2 _ _ ?_
 obtain rfl := os hb
 refine Wc.ret ?_
 refine hKR _ _ ?_
 refine ⟨_, res1 Try.results70 (show RV _ _ _ (.tmp _) (.int .i64 z5) from rfl), _, rfl, rfl, (chk_rng h6), hC.sel [] (by decide)⟩

set_option maxRecDepth 100000 in
set_option maxHeartbeats 4000000 in
theorem mirror_move_c1_v2_ok (n : Nat) {w : World} {O0 : List Nat} (hO : ∀ k ∈ O0, k < w.heap.size) {h_0 : Int} (hh_0 : I64 h_0) {gu_1 : Nat} (hio : Tk O0 w [.box gu_1 97 [.func (.func 70) #[] #[]]]) {r : Int} (hb : F.mirror_move_c1_v2 n h_0 = some r) :
    Calls Try.prog 96 #[.int .i64 h_0, .pointer (some ⟨gu_1, 0, none⟩)] w fun e w' => ∃ v, e = .returned v ∧ v = .int .i64 r ∧ I64 r ∧ Cx (fun k => k ∈ blocks [.box gu_1 97 [.func (.func 70) #[] #[]]]) O0 w w' [.box gu_1 97 [.func (.func 70) #[] #[]]] := by
 unfold F.mirror_move_c1_v2 at hb
 have hC := Cx.startTk hO hio
 have hsub := hio.2.2
 clear hO
 clear hio hsub
 obtain ⟨I, hI, hC⟩ : ∃ I : Nat → Prop, I = (fun k => k ∈ blocks [.box gu_1 97 [.func (.func 70) #[] #[]]]) ∧ Cx I O0 w w ([.box gu_1 97 [.func (.func 70) #[] #[]]]) := ⟨_, rfl, hC⟩
 refine calls_of_Wc Try.func96 rfl (by rw [Try.ntmps96]; exact Nat.le_of_ble_eq_true rfl) fun KR hKR => ?_
 refine Wc.seq fun K2 hK2 => ?_
 refine rg ?_
 refine lp (.int .i64 0) (pu_assign rfl) ?_
 refine ln ?_
 refine hK2 _ _ ?_
 refine Wc.seq fun K3 hK3 => ?_
 refine rg ?_
 refine lp (.int .i64 h_0) (pu_move rfl) ?_
 refine lv (.func (.func 70) #[] #[]) (ld_one Try.isAgg97 rfl ((hC.bx (i := 0) rfl).cell (j := 0) rfl)) ?_
 refine lp (.int .i64 h_0) (pu_move rfl) ?_
 obtain ⟨u4, h5, hb⟩ := bd hb
 obtain ⟨z6, h7, hb⟩ := bd hb
 refine lp (.int .i64 z6) (pu_quoc (a := h_0) (b := 4) rfl rfl h5 h7) ?_
 refine lp (.int .i64 h_0) (pu_move rfl) ?_
 obtain ⟨u8, h9, hb⟩ := bd hb
 refine lp (.int .i64 (Int.tmod h_0 4)) (pu_remc (a := h_0) (b := 4) rfl rfl h9) ?_
 obtain ⟨y10, h11, hb⟩ := bd hb
 refine lex.cl (⟨_, _, op_callv (vs := [.int .i64 z6, .int .i64 (Int.tmod h_0 4)]) (ca := #[]) Try.call70 rfl rfl rfl, mirror_Reflect_c1_ok n hC.lt (chk_rng h7) (I64.rem hh_0) h11⟩) ?_
 rintro _ w13 ⟨rfl, hr12, hK⟩
 replace hC := hC.merge hK
 clear hK
 obtain ⟨y14, h15, hb⟩ := bd hb
 refine lex.cl (⟨_, _, op_call (vs := [.int .i64 h_0, .int .i64 y10]) Try.call89 rfl rfl rfl, diagram_Turn_ok n hC.lt hh_0 hr12 h15⟩) ?_
 rintro _ w17 ⟨rfl, hr16, hK⟩
 replace hC := hC.merge hK
 clear hK
 refine lp (.int .i64 y14) (pu_assign rfl) ?_
 refine ln ?_
 refine hK3 _ _ ?_
 obtain rfl := os hb
 subst hI
 refine Wc.ret ?_
 refine hKR _ _ ?_
 refine ⟨_, res1 Try.results96 (show RV _ _ _ (.tmp _) (.int .i64 y14) from rfl), _, rfl, rfl, hr16, hC.sel [0] (by decide)⟩

set_option maxRecDepth 100000 in
set_option maxHeartbeats 4000000 in
theorem mirror_move_mirror_Reflect_c1_mirror_Reflect_c2_ok (n : Nat) {w : World} {O0 : List Nat} (hO : ∀ k ∈ O0, k < w.heap.size) {Ad_0_0 : Option Addr} {md_0_0 cd_0_0 : Nat} {d_0_0 : List Int} (hd_0_0 : Rep O0 w (.sl (.int .i64)) [.slice Ad_0_0 md_0_0 cd_0_0] d_0_0) {Ad_0_1 : Option Addr} {md_0_1 cd_0_1 : Nat} {d_0_1 : List Int} (hd_0_1 : Rep O0 w (.sl (.int .i64)) [.slice Ad_0_1 md_0_1 cd_0_1] d_0_1) {d_0_2 : Int} (hd_0_2 : I64 d_0_2) {r : (List Int) × (List Int) × Int} (hb : F.mirror_move_mirror_Reflect_c1_mirror_Reflect_c2 n d_0_0 d_0_1 d_0_2 = some r) :
    Calls Try.prog 71 #[.agg #[.slice Ad_0_0 md_0_0 cd_0_0, .slice Ad_0_1 md_0_1 cd_0_1, .int .i64 d_0_2], .func (.func 70) #[] #[], .func (.func 72) #[] #[]] w fun e w' => ∃ v, e = .returned v ∧ ∃ (A0 : Option Addr) (m0 c0 : Nat) (A1 : Option Addr) (m1 c1 : Nat), v = .agg #[.slice A0 m0 c0, .slice A1 m1 c1, .int .i64 r.2.2] ∧ I64 r.2.2 ∧ Cx (fun _ => False) O0 w w' [.own 3 (.int .i64) (.slice A0 m0 c0) r.1, .own 3 (.int .i64) (.slice A1 m1 c1) r.2.1] := by
 unfold F.mirror_move_mirror_Reflect_c1_mirror_Reflect_c2 at hb
 have hC := Cx.start hO
 replace hC := hC.arg rfl hd_0_0
 replace hC := hC.arg rfl hd_0_1
 clear hO
 obtain ⟨rfl, hld_0_0, hcd_0_0⟩ := hd_0_0.sl_len
 obtain ⟨rfl, hld_0_1, hcd_0_1⟩ := hd_0_1.sl_len
 refine calls_of_Wc Try.func71 rfl (by rw [Try.ntmps71]; exact Nat.le_of_ble_eq_true rfl) fun KR hKR => ?_
 refine Wc.seq fun K3 hK3 => ?_
 refine rg ?_
 refine lex.op (hC.box (cs := [.slice Ad_0_0 d_0_0.length cd_0_0, .slice Ad_0_1 d_0_1.length cd_0_1, .int .i64 d_0_2]) rfl rfl) ?_
 rintro _ w5 ⟨g4, rfl, hC, hF, hG⟩
 clear hG
 refine lex.op (hC.box (cs := [.func (.func 70) #[] #[]]) rfl rfl) ?_
 rintro _ w8 ⟨g7, rfl, hC, hF, hG⟩
 clear hG
 refine lex.op (hC.alloc (cs := [.slice none 0 0, .slice none 0 0, .int .i64 0]) Try.zeroValue32 rfl) ?_
 rintro _ w11 ⟨g10, rfl, hC, hF, hG⟩
 clear hG
 refine ln ?_
 refine hK3 _ _ ?_
 refine Wc.seq fun K13 hK13 => ?_
 refine rg ?_
 refine lp (.func (.func 96) #[] #[.pointer (some ⟨g7, 0, none⟩)]) (pu_funcc rfl) ?_
 refine lp (.func (.func 96) #[] #[.pointer (some ⟨g7, 0, none⟩)]) (pu_assign rfl) ?_
 refine ln ?_
 refine hK13 _ _ ?_
 refine Wc.seqJ (fun E wv => ∃ (gP8 : Nat) (kP8_0_0 : List Int) (kP8_1_0 : List Int) (AkP8_0_0 : Option Addr) (mkP8_0_0 ckP8_0_0 : Nat) (AkP8_1_0 : Option Addr) (mkP8_1_0 ckP8_1_0 : Nat), E 2 = .func (.func 72) #[] #[] ∧ E 3 = .pointer (some ⟨g4, 0, none⟩) ∧ E 6 = .pointer (some ⟨g10, 0, none⟩) ∧ E 7 = .func (.func 96) #[] #[.pointer (some ⟨g7, 0, none⟩)] ∧ E 8 = .pointer (some ⟨gP8, 0, none⟩) ∧ Cx (fun _ => False) O0 w wv [.box g4 32 [.slice Ad_0_0 d_0_0.length cd_0_0, .slice Ad_0_1 d_0_1.length cd_0_1, .int .i64 d_0_2], .ro (.sl (.int .i64)) [.slice Ad_0_0 d_0_0.length cd_0_0] d_0_0, .ro (.sl (.int .i64)) [.slice Ad_0_1 d_0_1.length cd_0_1] d_0_1, .box g10 32 [.slice none 0 0, .slice none 0 0, .int .i64 0], .box g7 97 [.func (.func 70) #[] #[]], .box gP8 32 [.slice AkP8_0_0 mkP8_0_0 ckP8_0_0, .slice AkP8_1_0 mkP8_1_0 ckP8_1_0, .int .i64 d_0_2], .own 3 (.int .i64) (.slice AkP8_0_0 mkP8_0_0 ckP8_0_0) kP8_0_0, .own 3 (.int .i64) (.slice AkP8_1_0 mkP8_1_0 ckP8_1_0) kP8_1_0] ∧ F.mirror_move_mirror_Reflect_c1_mirror_Reflect_c2_j0 n d_0_0 d_0_1 d_0_2 kP8_0_0 kP8_1_0 = some r) (fun K14 hK14 => ?_) ?_
 refine Wc.regionPlan [15, 19, 23] (frm [15, 19, 23] ([] : List Fact) ([] : List Fact)) (chainP [0, 1, 2, 4, 5, 6, 8, 9] (.alt (chainP [3] (.alt (chainP [7] (chainP [10, 11, 12] .done)) (chainP [11] (chainP [7, 10, 12] .done)))) (.alt (chainP [7] (.alt (chainP [3] (chainP [10, 11, 12] .done)) (chainP [11] (chainP [3, 10, 12] .done)))) (chainP [11] (.alt (chainP [3] (chainP [7, 10, 12] .done)) (chainP [7] (chainP [3, 10, 12] .done))))))) (fun _ => rfl) mixed (by decide +kernel) (by decide +kernel) fun w16 hw15 => ?_
 replace hC := hC.step (Fr.of_drew hw15)
 have hM := Fr.refl (fun k => k ∈ blocks ([] : List Fact)) w16
 clear hw15
 have hS := hC
 have hD : Fr (fun k => k ∈ blocks (([] : List Fact) ++ ([] : List Fact))) w16 w16 := hM.wide
 refine mixPE_chain ?_
 refine mp (.pointer (some ((⟨g4, 0, none⟩ : Addr).add 0))) (pu_field (sz := 1) Try.underlying32 rfl Try.sizeOf30 (by decide) rfl rfl) ?_
 refine mixE.steady hD (v := .slice Ad_0_0 d_0_0.length cd_0_0) (fun _ hF => ld_fld (hS.bx2 (i := 2) rfl [] (by decide) hF) Try.isAgg30 rfl rfl) ?_
 refine mp (.int .i64 (d_0_0.length : Int)) (pu_len (A := Ad_0_0) (n := d_0_0.length) (m := cd_0_0) Try.underlying30 rfl) ?_
 refine mp (.pointer (some ((⟨g4, 0, none⟩ : Addr).add 1))) (pu_field (sz := 1) Try.underlying32 rfl Try.sizeOf30 (by decide) rfl rfl) ?_
 refine mixE.steady hD (v := .slice Ad_0_1 d_0_1.length cd_0_1) (fun _ hF => ld_fld (hS.bx2 (i := 2) rfl [] (by decide) hF) Try.isAgg30 rfl rfl) ?_
 refine mp (.int .i64 (d_0_1.length : Int)) (pu_len (A := Ad_0_1) (n := d_0_1.length) (m := cd_0_1) Try.underlying30 rfl) ?_
 refine mp (.pointer (some ((⟨g4, 0, none⟩ : Addr).add 2))) (pu_field (sz := 1) Try.underlying32 rfl Try.sizeOf3 (by decide) rfl rfl) ?_
 refine mixE.steady hD (v := .int .i64 d_0_2) (fun _ hF => ld_fld (hS.bx2 (i := 2) rfl [] (by decide) hF) Try.isAgg3 rfl rfl) ?_
 refine mixE.nil ?_
 refine mixPE_alt ?_ ?_
 refine mixPE_chain ?_
 obtain ⟨u17, h18, hb⟩ := bd hb
 refine mixE.op hM (hC.make (s := (.int .i64)) (n := (d_0_0.length : Int)) Try.underlying30 Try.type3 rfl rfl rfl rfl rfl (pos_some h18).1 (pos_some h18).2 (by decide)) ?_
 rintro _ w23 ⟨A19, c20, rfl, hl21, hc22, hC, hF, hN⟩
 have hBf24 := Beside.new hM hN
 have hUf24 := Beside.new (hM.wide (H := ([] : List Fact))) hN
 replace hM := hM.none hF
 replace hD := hM.wide (H := ([] : List Fact))
 refine ⟨hM, ?_⟩
 clear hF hN
 refine mixE.nil ?_
 refine mixPE_alt ?_ ?_
 refine mixPE_chain ?_
 obtain ⟨u25, h26, hb⟩ := bd hb
 refine mixE.op hM (hC.make (s := (.int .i64)) (n := (d_0_1.length : Int)) Try.underlying30 Try.type3 rfl rfl rfl rfl rfl (pos_some h26).1 (pos_some h26).2 (by decide)) ?_
 rintro _ w31 ⟨A27, c28, rfl, hl29, hc30, hC, hF, hN⟩
 have hBf32 := Beside.new hM hN
 have hUf32 := Beside.new (hM.wide (H := ([] : List Fact))) hN
 replace hM := hM.none hF
 replace hD := hM.wide (H := ([] : List Fact))
 refine ⟨hM, ?_⟩
 clear hF hN
 refine mixE.nil ?_
 refine mixPE_chain ?_
 refine mp (.agg #[.slice A19 (((List.replicate (d_0_0.length : Int).toNat (0 : Int))).length) c20, .slice A27 (((List.replicate (d_0_1.length : Int).toNat (0 : Int))).length) c28, .int .i64 d_0_2]) (pu_builds (places := [(0, 1), (1, 1), (2, 1)]) (pv := [(0, .slice A19 (((List.replicate (d_0_0.length : Int).toNat (0 : Int))).length) c20), (1, .slice A27 (((List.replicate (d_0_1.length : Int).toNat (0 : Int))).length) c28), (2, .int .i64 d_0_2)]) Try.type32 Try.underlying32 rfl (mp_cons Try.type30 (mp_cons Try.type30 (mp_cons Try.type3 mp_nil rfl rfl) rfl rfl) rfl rfl) rfl (by simp [Instr.fill, Value.cells])) ?_
 refine mixE.op hM (hC.alloc (cs := [.slice none 0 0, .slice none 0 0, .int .i64 0]) Try.zeroValue32 rfl) ?_
 rintro _ w34 ⟨g33, rfl, hC, hF, hG⟩
 have hUf35 : g33 < w16.heap.size → g33 ∈ blocks (([] : List Fact) ++ ([] : List Fact)) := fun h => absurd (Nat.lt_of_lt_of_le h (Nat.le_trans hM.size hG)) (Nat.lt_irrefl _)
 clear hG
 replace hM := hM.none hF
 replace hD := hM.wide (H := ([] : List Fact))
 refine ⟨hM, ?_⟩
 refine mixE.sk hD (hC.seta (i := 0) (ds := [.slice A19 (((List.replicate (d_0_0.length : Int).toNat (0 : Int))).length) c20, .slice A27 (((List.replicate (d_0_1.length : Int).toNat (0 : Int))).length) c28, .int .i64 d_0_2]) rfl Try.type32 rfl rfl rfl rfl rfl) ?_
 rintro w36 ⟨hC, hF⟩
 replace hD := hD.besideG hUf35 hF
 clear hF
 refine ⟨hD, ?_⟩
 refine mixE.nil ?_
 clear hS hM
 clear hD
 exact hK14 _ _ ⟨g33, (List.replicate (d_0_0.length : Int).toNat (0 : Int)), (List.replicate (d_0_1.length : Int).toNat (0 : Int)), A19, ((List.replicate (d_0_0.length : Int).toNat (0 : Int))).length, c20, A27, ((List.replicate (d_0_1.length : Int).toNat (0 : Int))).length, c28, rfl, rfl, rfl, rfl, rfl, hC.sel [5, 7, 6, 3, 4, 0, 2, 1] (by decide), hb⟩
 refine mixPE_chain ?_
 refine mixE.op hM (hC.alloc (cs := [.slice none 0 0, .slice none 0 0, .int .i64 0]) Try.zeroValue32 rfl) ?_
 rintro _ w38 ⟨g37, rfl, hC, hF, hG⟩
 have hUf39 : g37 < w16.heap.size → g37 ∈ blocks (([] : List Fact) ++ ([] : List Fact)) := fun h => absurd (Nat.lt_of_lt_of_le h (Nat.le_trans hM.size hG)) (Nat.lt_irrefl _)
 clear hG
 replace hM := hM.none hF
 replace hD := hM.wide (H := ([] : List Fact))
 refine ⟨hM, ?_⟩
 refine mixE.nil ?_
 refine mixPE_chain ?_
 obtain ⟨u25, h41, hb⟩ := bd hb
 refine mixE.op hM (hC.make (s := (.int .i64)) (n := (d_0_1.length : Int)) Try.underlying30 Try.type3 rfl rfl rfl rfl rfl (pos_some h41).1 (pos_some h41).2 (by decide)) ?_
 rintro _ w46 ⟨A42, c43, rfl, hl44, hc45, hC, hF, hN⟩
 have hBf47 := Beside.new hM hN
 have hUf47 := Beside.new (hM.wide (H := ([] : List Fact))) hN
 replace hM := hM.none hF
 replace hD := hM.wide (H := ([] : List Fact))
 refine ⟨hM, ?_⟩
 clear hF hN
 refine mp (.agg #[.slice A19 (((List.replicate (d_0_0.length : Int).toNat (0 : Int))).length) c20, .slice A42 (((List.replicate (d_0_1.length : Int).toNat (0 : Int))).length) c43, .int .i64 d_0_2]) (pu_builds (places := [(0, 1), (1, 1), (2, 1)]) (pv := [(0, .slice A19 (((List.replicate (d_0_0.length : Int).toNat (0 : Int))).length) c20), (1, .slice A42 (((List.replicate (d_0_1.length : Int).toNat (0 : Int))).length) c43), (2, .int .i64 d_0_2)]) Try.type32 Try.underlying32 rfl (mp_cons Try.type30 (mp_cons Try.type30 (mp_cons Try.type3 mp_nil rfl rfl) rfl rfl) rfl rfl) rfl (by simp [Instr.fill, Value.cells])) ?_
 refine mixE.sk hD (hC.seta (i := 1) (ds := [.slice A19 (((List.replicate (d_0_0.length : Int).toNat (0 : Int))).length) c20, .slice A42 (((List.replicate (d_0_1.length : Int).toNat (0 : Int))).length) c43, .int .i64 d_0_2]) rfl Try.type32 rfl rfl rfl rfl rfl) ?_
 rintro w48 ⟨hC, hF⟩
 replace hD := hD.besideG hUf39 hF
 clear hF
 refine ⟨hD, ?_⟩
 refine mixE.nil ?_
 clear hS hM
 clear hD
 exact hK14 _ _ ⟨g37, (List.replicate (d_0_0.length : Int).toNat (0 : Int)), (List.replicate (d_0_1.length : Int).toNat (0 : Int)), A19, ((List.replicate (d_0_0.length : Int).toNat (0 : Int))).length, c20, A42, ((List.replicate (d_0_1.length : Int).toNat (0 : Int))).length, c43, rfl, rfl, rfl, rfl, rfl, hC.sel [5, 7, 6, 3, 4, 1, 2, 0] (by decide), hb⟩
 replace hb := (gcomm0 _ _ _).symm.trans hb
 refine mixPE_alt ?_ ?_
 refine mixPE_chain ?_
 obtain ⟨u25, h50, hb⟩ := bd hb
 refine mixE.op hM (hC.make (s := (.int .i64)) (n := (d_0_1.length : Int)) Try.underlying30 Try.type3 rfl rfl rfl rfl rfl (pos_some h50).1 (pos_some h50).2 (by decide)) ?_
 rintro _ w55 ⟨A51, c52, rfl, hl53, hc54, hC, hF, hN⟩
 have hBf56 := Beside.new hM hN
 have hUf56 := Beside.new (hM.wide (H := ([] : List Fact))) hN
 replace hM := hM.none hF
 replace hD := hM.wide (H := ([] : List Fact))
 refine ⟨hM, ?_⟩
 clear hF hN
 refine mixE.nil ?_
 refine mixPE_alt ?_ ?_
 refine mixPE_chain ?_
 obtain ⟨u17, h58, hb⟩ := bd hb
 refine mixE.op hM (hC.make (s := (.int .i64)) (n := (d_0_0.length : Int)) Try.underlying30 Try.type3 rfl rfl rfl rfl rfl (pos_some h58).1 (pos_some h58).2 (by decide)) ?_
 rintro _ w63 ⟨A59, c60, rfl, hl61, hc62, hC, hF, hN⟩
 have hBf64 := Beside.new hM hN
 have hUf64 := Beside.new (hM.wide (H := ([] : List Fact))) hN
 replace hM := hM.none hF
 replace hD := hM.wide (H := ([] : List Fact))
 refine ⟨hM, ?_⟩
 clear hF hN
 refine mixE.nil ?_
 refine mixPE_chain ?_
 refine mp (.agg #[.slice A59 (((List.replicate (d_0_0.length : Int).toNat (0 : Int))).length) c60, .slice A51 (((List.replicate (d_0_1.length : Int).toNat (0 : Int))).length) c52, .int .i64 d_0_2]) (pu_builds (places := [(0, 1), (1, 1), (2, 1)]) (pv := [(0, .slice A59 (((List.replicate (d_0_0.length : Int).toNat (0 : Int))).length) c60), (1, .slice A51 (((List.replicate (d_0_1.length : Int).toNat (0 : Int))).length) c52), (2, .int .i64 d_0_2)]) Try.type32 Try.underlying32 rfl (mp_cons Try.type30 (mp_cons Try.type30 (mp_cons Try.type3 mp_nil rfl rfl) rfl rfl) rfl rfl) rfl (by simp [Instr.fill, Value.cells])) ?_
 refine mixE.op hM (hC.alloc (cs := [.slice none 0 0, .slice none 0 0, .int .i64 0]) Try.zeroValue32 rfl) ?_
 rintro _ w66 ⟨g65, rfl, hC, hF, hG⟩
 have hUf67 : g65 < w16.heap.size → g65 ∈ blocks (([] : List Fact) ++ ([] : List Fact)) := fun h => absurd (Nat.lt_of_lt_of_le h (Nat.le_trans hM.size hG)) (Nat.lt_irrefl _)
 clear hG
 replace hM := hM.none hF
 replace hD := hM.wide (H := ([] : List Fact))
 refine ⟨hM, ?_⟩
 refine mixE.sk hD (hC.seta (i := 0) (ds := [.slice A59 (((List.replicate (d_0_0.length : Int).toNat (0 : Int))).length) c60, .slice A51 (((List.replicate (d_0_1.length : Int).toNat (0 : Int))).length) c52, .int .i64 d_0_2]) rfl Try.type32 rfl rfl rfl rfl rfl) ?_
 rintro w68 ⟨hC, hF⟩
 replace hD := hD.besideG hUf67 hF
 clear hF
 refine ⟨hD, ?_⟩
 refine mixE.nil ?_
 clear hS hM
 clear hD
 exact hK14 _ _ ⟨g65, (List.replicate (d_0_0.length : Int).toNat (0 : Int)), (List.replicate (d_0_1.length : Int).toNat (0 : Int)), A59, ((List.replicate (d_0_0.length : Int).toNat (0 : Int))).length, c60, A51, ((List.replicate (d_0_1.length : Int).toNat (0 : Int))).length, c52, rfl, rfl, rfl, rfl, rfl, hC.sel [5, 7, 6, 3, 4, 0, 1, 2] (by decide), hb⟩
 refine mixPE_chain ?_
 refine mixE.op hM (hC.alloc (cs := [.slice none 0 0, .slice none 0 0, .int .i64 0]) Try.zeroValue32 rfl) ?_
 rintro _ w70 ⟨g69, rfl, hC, hF, hG⟩
 have hUf71 : g69 < w16.heap.size → g69 ∈ blocks (([] : List Fact) ++ ([] : List Fact)) := fun h => absurd (Nat.lt_of_lt_of_le h (Nat.le_trans hM.size hG)) (Nat.lt_irrefl _)
 clear hG
 replace hM := hM.none hF
 replace hD := hM.wide (H := ([] : List Fact))
 refine ⟨hM, ?_⟩
 refine mixE.nil ?_
 refine mixPE_chain ?_
 obtain ⟨u17, h73, hb⟩ := bd hb
 refine mixE.op hM (hC.make (s := (.int .i64)) (n := (d_0_0.length : Int)) Try.underlying30 Try.type3 rfl rfl rfl rfl rfl (pos_some h73).1 (pos_some h73).2 (by decide)) ?_
 rintro _ w78 ⟨A74, c75, rfl, hl76, hc77, hC, hF, hN⟩
 have hBf79 := Beside.new hM hN
 have hUf79 := Beside.new (hM.wide (H := ([] : List Fact))) hN
 replace hM := hM.none hF
 replace hD := hM.wide (H := ([] : List Fact))
 refine ⟨hM, ?_⟩
 clear hF hN
 refine mp (.agg #[.slice A74 (((List.replicate (d_0_0.length : Int).toNat (0 : Int))).length) c75, .slice A51 (((List.replicate (d_0_1.length : Int).toNat (0 : Int))).length) c52, .int .i64 d_0_2]) (pu_builds (places := [(0, 1), (1, 1), (2, 1)]) (pv := [(0, .slice A74 (((List.replicate (d_0_0.length : Int).toNat (0 : Int))).length) c75), (1, .slice A51 (((List.replicate (d_0_1.length : Int).toNat (0 : Int))).length) c52), (2, .int .i64 d_0_2)]) Try.type32 Try.underlying32 rfl (mp_cons Try.type30 (mp_cons Try.type30 (mp_cons Try.type3 mp_nil rfl rfl) rfl rfl) rfl rfl) rfl (by simp [Instr.fill, Value.cells])) ?_
 refine mixE.sk hD (hC.seta (i := 1) (ds := [.slice A74 (((List.replicate (d_0_0.length : Int).toNat (0 : Int))).length) c75, .slice A51 (((List.replicate (d_0_1.length : Int).toNat (0 : Int))).length) c52, .int .i64 d_0_2]) rfl Try.type32 rfl rfl rfl rfl rfl) ?_
 rintro w80 ⟨hC, hF⟩
 replace hD := hD.besideG hUf71 hF
 clear hF
 refine ⟨hD, ?_⟩
 refine mixE.nil ?_
 clear hS hM
 clear hD
 exact hK14 _ _ ⟨g69, (List.replicate (d_0_0.length : Int).toNat (0 : Int)), (List.replicate (d_0_1.length : Int).toNat (0 : Int)), A74, ((List.replicate (d_0_0.length : Int).toNat (0 : Int))).length, c75, A51, ((List.replicate (d_0_1.length : Int).toNat (0 : Int))).length, c52, rfl, rfl, rfl, rfl, rfl, hC.sel [5, 7, 6, 3, 4, 1, 0, 2] (by decide), hb⟩
 replace hb := (gcomm0 _ _ _).symm.trans hb
 refine mixPE_chain ?_
 refine mixE.op hM (hC.alloc (cs := [.slice none 0 0, .slice none 0 0, .int .i64 0]) Try.zeroValue32 rfl) ?_
 rintro _ w82 ⟨g81, rfl, hC, hF, hG⟩
 have hUf83 : g81 < w16.heap.size → g81 ∈ blocks (([] : List Fact) ++ ([] : List Fact)) := fun h => absurd (Nat.lt_of_lt_of_le h (Nat.le_trans hM.size hG)) (Nat.lt_irrefl _)
 clear hG
 replace hM := hM.none hF
 replace hD := hM.wide (H := ([] : List Fact))
 refine ⟨hM, ?_⟩
 refine mixE.nil ?_
 refine mixPE_alt ?_ ?_
 refine mixPE_chain ?_
 obtain ⟨u17, h85, hb⟩ := bd hb
 refine mixE.op hM (hC.make (s := (.int .i64)) (n := (d_0_0.length : Int)) Try.underlying30 Try.type3 rfl rfl rfl rfl rfl (pos_some h85).1 (pos_some h85).2 (by decide)) ?_
 rintro _ w90 ⟨A86, c87, rfl, hl88, hc89, hC, hF, hN⟩
 have hBf91 := Beside.new hM hN
 have hUf91 := Beside.new (hM.wide (H := ([] : List Fact))) hN
 replace hM := hM.none hF
 replace hD := hM.wide (H := ([] : List Fact))
 refine ⟨hM, ?_⟩
 clear hF hN
 refine mixE.nil ?_
 refine mixPE_chain ?_
 obtain ⟨u25, h93, hb⟩ := bd hb
 refine mixE.op hM (hC.make (s := (.int .i64)) (n := (d_0_1.length : Int)) Try.underlying30 Try.type3 rfl rfl rfl rfl rfl (pos_some h93).1 (pos_some h93).2 (by decide)) ?_
 rintro _ w98 ⟨A94, c95, rfl, hl96, hc97, hC, hF, hN⟩
 have hBf99 := Beside.new hM hN
 have hUf99 := Beside.new (hM.wide (H := ([] : List Fact))) hN
 replace hM := hM.none hF
 replace hD := hM.wide (H := ([] : List Fact))
 refine ⟨hM, ?_⟩
 clear hF hN
 refine mp (.agg #[.slice A86 (((List.replicate (d_0_0.length : Int).toNat (0 : Int))).length) c87, .slice A94 (((List.replicate (d_0_1.length : Int).toNat (0 : Int))).length) c95, .int .i64 d_0_2]) (pu_builds (places := [(0, 1), (1, 1), (2, 1)]) (pv := [(0, .slice A86 (((List.replicate (d_0_0.length : Int).toNat (0 : Int))).length) c87), (1, .slice A94 (((List.replicate (d_0_1.length : Int).toNat (0 : Int))).length) c95), (2, .int .i64 d_0_2)]) Try.type32 Try.underlying32 rfl (mp_cons Try.type30 (mp_cons Try.type30 (mp_cons Try.type3 mp_nil rfl rfl) rfl rfl) rfl rfl) rfl (by simp [Instr.fill, Value.cells])) ?_
 refine mixE.sk hD (hC.seta (i := 2) (ds := [.slice A86 (((List.replicate (d_0_0.length : Int).toNat (0 : Int))).length) c87, .slice A94 (((List.replicate (d_0_1.length : Int).toNat (0 : Int))).length) c95, .int .i64 d_0_2]) rfl Try.type32 rfl rfl rfl rfl rfl) ?_
 rintro w100 ⟨hC, hF⟩
 replace hD := hD.besideG hUf83 hF
 clear hF
 refine ⟨hD, ?_⟩
 refine mixE.nil ?_
 clear hS hM
 clear hD
 exact hK14 _ _ ⟨g81, (List.replicate (d_0_0.length : Int).toNat (0 : Int)), (List.replicate (d_0_1.length : Int).toNat (0 : Int)), A86, ((List.replicate (d_0_0.length : Int).toNat (0 : Int))).length, c87, A94, ((List.replicate (d_0_1.length : Int).toNat (0 : Int))).length, c95, rfl, rfl, rfl, rfl, rfl, hC.sel [5, 7, 6, 3, 4, 2, 1, 0] (by decide), hb⟩
 replace hb := (gcomm0 _ _ _).symm.trans hb
 refine mixPE_chain ?_
 obtain ⟨u25, h102, hb⟩ := bd hb
 refine mixE.op hM (hC.make (s := (.int .i64)) (n := (d_0_1.length : Int)) Try.underlying30 Try.type3 rfl rfl rfl rfl rfl (pos_some h102).1 (pos_some h102).2 (by decide)) ?_
 rintro _ w107 ⟨A103, c104, rfl, hl105, hc106, hC, hF, hN⟩
 have hBf108 := Beside.new hM hN
 have hUf108 := Beside.new (hM.wide (H := ([] : List Fact))) hN
 replace hM := hM.none hF
 replace hD := hM.wide (H := ([] : List Fact))
 refine ⟨hM, ?_⟩
 clear hF hN
 refine mixE.nil ?_
 refine mixPE_chain ?_
 obtain ⟨u17, h110, hb⟩ := bd hb
 refine mixE.op hM (hC.make (s := (.int .i64)) (n := (d_0_0.length : Int)) Try.underlying30 Try.type3 rfl rfl rfl rfl rfl (pos_some h110).1 (pos_some h110).2 (by decide)) ?_
 rintro _ w115 ⟨A111, c112, rfl, hl113, hc114, hC, hF, hN⟩
 have hBf116 := Beside.new hM hN
 have hUf116 := Beside.new (hM.wide (H := ([] : List Fact))) hN
 replace hM := hM.none hF
 replace hD := hM.wide (H := ([] : List Fact))
 refine ⟨hM, ?_⟩
 clear hF hN
 refine mp (.agg #[.slice A111 (((List.replicate (d_0_0.length : Int).toNat (0 : Int))).length) c112, .slice A103 (((List.replicate (d_0_1.length : Int).toNat (0 : Int))).length) c104, .int .i64 d_0_2]) (pu_builds (places := [(0, 1), (1, 1), (2, 1)]) (pv := [(0, .slice A111 (((List.replicate (d_0_0.length : Int).toNat (0 : Int))).length) c112), (1, .slice A103 (((List.replicate (d_0_1.length : Int).toNat (0 : Int))).length) c104), (2, .int .i64 d_0_2)]) Try.type32 Try.underlying32 rfl (mp_cons Try.type30 (mp_cons Try.type30 (mp_cons Try.type3 mp_nil rfl rfl) rfl rfl) rfl rfl) rfl (by simp [Instr.fill, Value.cells])) ?_
 refine mixE.sk hD (hC.seta (i := 2) (ds := [.slice A111 (((List.replicate (d_0_0.length : Int).toNat (0 : Int))).length) c112, .slice A103 (((List.replicate (d_0_1.length : Int).toNat (0 : Int))).length) c104, .int .i64 d_0_2]) rfl Try.type32 rfl rfl rfl rfl rfl) ?_
 rintro w117 ⟨hC, hF⟩
 replace hD := hD.besideG hUf83 hF
 clear hF
 refine ⟨hD, ?_⟩
 refine mixE.nil ?_
 clear hS hM
 clear hD
 exact hK14 _ _ ⟨g81, (List.replicate (d_0_0.length : Int).toNat (0 : Int)), (List.replicate (d_0_1.length : Int).toNat (0 : Int)), A111, ((List.replicate (d_0_0.length : Int).toNat (0 : Int))).length, c112, A103, ((List.replicate (d_0_1.length : Int).toNat (0 : Int))).length, c104, rfl, rfl, rfl, rfl, rfl, hC.sel [5, 7, 6, 3, 4, 2, 0, 1] (by decide), hb⟩
 clear hb hC
 rintro E119 w118 ⟨gP8, kP8_0_0, kP8_1_0, AkP8_0_0, mkP8_0_0, ckP8_0_0, AkP8_1_0, mkP8_1_0, ckP8_1_0, e2, e3, e6, e7, e8, hC, hb⟩
 unfold F.mirror_move_mirror_Reflect_c1_mirror_Reflect_c2_j0 at hb
 obtain ⟨rfl, hlkP8_0_0, hckP8_0_0⟩ := (hC.ow (i := 6) rfl).sl_len
 obtain ⟨rfl, hlkP8_1_0, hckP8_1_0⟩ := (hC.ow (i := 7) rfl).sl_len
 refine Wc.seq fun K120 hK120 => ?_
 refine Wc.seq fun K121 hK121 => ?_
 refine rg ?_
 refine lp (.pointer (some ((⟨g4, 0, none⟩ : Addr).add 0))) (pu_field (sz := 1) Try.underlying32 rfl Try.sizeOf30 (by decide) rfl e3) ?_
 refine lv (.slice Ad_0_0 d_0_0.length cd_0_0) (ld_fld (hC.bx (i := 0) rfl) Try.isAgg30 rfl rfl) ?_
 refine lp (.int .i64 (d_0_0.length : Int)) (pu_len (A := Ad_0_0) (n := d_0_0.length) (m := cd_0_0) Try.underlying30 rfl) ?_
 refine lp (.int .i64 0) (pu_move rfl) ?_
 refine ln ?_
 refine hK121 _ _ ?_
 obtain ⟨o122, hl1, hb⟩ := bd hb
 refine Wc.cut (fun E wv => ∃ (v28_1 : Int) (qFP8_0_0_1 : List Int), E 3 = .pointer (some ⟨g4, 0, none⟩) ∧ E 6 = .pointer (some ⟨g10, 0, none⟩) ∧ E 7 = .func (.func 96) #[] #[.pointer (some ⟨g7, 0, none⟩)] ∧ E 8 = .pointer (some ⟨gP8, 0, none⟩) ∧ I64 v28_1 ∧ Cx (fun _ => False) O0 w wv [.box g4 32 [.slice Ad_0_0 d_0_0.length cd_0_0, .slice Ad_0_1 d_0_1.length cd_0_1, .int .i64 d_0_2], .ro (.sl (.int .i64)) [.slice Ad_0_0 d_0_0.length cd_0_0] d_0_0, .ro (.sl (.int .i64)) [.slice Ad_0_1 d_0_1.length cd_0_1] d_0_1, .box g10 32 [.slice none 0 0, .slice none 0 0, .int .i64 0], .box g7 97 [.func (.func 70) #[] #[]], .box gP8 32 [.slice AkP8_0_0 kP8_0_0.length ckP8_0_0, .slice AkP8_1_0 kP8_1_0.length ckP8_1_0, .int .i64 d_0_2], .own 3 (.int .i64) (.slice AkP8_0_0 kP8_0_0.length ckP8_0_0) qFP8_0_0_1, .own 3 (.int .i64) (.slice AkP8_1_0 kP8_1_0.length ckP8_1_0) kP8_1_0] ∧ (((loopN n (F.mirror_move_mirror_Reflect_c1_mirror_Reflect_c2_b2 n d_0_1) (0, kP8_1_0)).bind fun o162 => match o162 with     | (v46_2, qFP8_1_0_2) => some (qFP8_0_0_1, qFP8_1_0_2, d_0_2)) : Option ((List Int) × (List Int) × Int)) = some r) (fun K123 hK123 => ?_) ?_
 refine Wc.block ?_
 refine Wc.loop (fun m E wv => ∃ (v28_1 : Int) (qFP8_0_0_1 : List Int), E 2 = .func (.func 72) #[] #[] ∧ E 3 = .pointer (some ⟨g4, 0, none⟩) ∧ E 6 = .pointer (some ⟨g10, 0, none⟩) ∧ E 7 = .func (.func 96) #[] #[.pointer (some ⟨g7, 0, none⟩)] ∧ E 8 = .pointer (some ⟨gP8, 0, none⟩) ∧ E 26 = .slice Ad_0_0 d_0_0.length cd_0_0 ∧ E 27 = .int .i64 (d_0_0.length : Int) ∧ E 28 = .int .i64 v28_1 ∧ I64 v28_1 ∧ Cx (fun _ => False) O0 w wv [.box g4 32 [.slice Ad_0_0 d_0_0.length cd_0_0, .slice Ad_0_1 d_0_1.length cd_0_1, .int .i64 d_0_2], .ro (.sl (.int .i64)) [.slice Ad_0_0 d_0_0.length cd_0_0] d_0_0, .ro (.sl (.int .i64)) [.slice Ad_0_1 d_0_1.length cd_0_1] d_0_1, .box g10 32 [.slice none 0 0, .slice none 0 0, .int .i64 0], .box g7 97 [.func (.func 70) #[] #[]], .box gP8 32 [.slice AkP8_0_0 kP8_0_0.length ckP8_0_0, .slice AkP8_1_0 kP8_1_0.length ckP8_1_0, .int .i64 d_0_2], .own 3 (.int .i64) (.slice AkP8_0_0 kP8_0_0.length ckP8_0_0) qFP8_0_0_1, .own 3 (.int .i64) (.slice AkP8_1_0 kP8_1_0.length ckP8_1_0) kP8_1_0] ∧ loopN m (F.mirror_move_mirror_Reflect_c1_mirror_Reflect_c2_b1 n d_0_0) (v28_1, qFP8_0_0_1) = some o122) n ⟨0, kP8_0_0, e2, e3, e6, e7, e8, rfl, rfl, rfl, (show I64 0 from by unfold I64; omega), hC.sel [0, 1, 2, 3, 4, 5, 6, 7] (by decide), hl1⟩ ?_
 have hbK1 := hb
 clear hb hC hl1
 rintro m125 E127 w126 ⟨v28_1, qFP8_0_0_1, e2, e3, e6, e7, e8, e26, e27, e28, hrv28_1, hC, hl1⟩ K124 hK124
 obtain ⟨m125', o128, rfl, hb, hl1⟩ := loopN_some hl1
 unfold F.mirror_move_mirror_Reflect_c1_mirror_Reflect_c2_b1 at hb
 refine Wc.seq fun K129 hK129 => ?_
 refine rg ?_
 refine lp (.bool (decide (v28_1 < (d_0_0.length : Int)))) (pu_lss (k := .i64) (a := v28_1) (b := (d_0_0.length : Int)) e28 e27) ?_
 refine ln ?_
 refine hK129 _ _ ?_
 refine Wc.seq fun K130 hK130 => ?_
 refine Wc.cond (t := (decide (v28_1 < (d_0_0.length : Int)))) (rfl) (fun hq131 => ?_) (fun hq131 => ?_)
 replace hb := tt hq131 hb
 refine Wc.skip ?_
 refine hK130 _ _ ?_
 refine Wc.seq fun K132 hK132 => ?_
 refine Wc.block ?_
 refine Wc.seq fun K133 hK133 => ?_
 refine rg ?_
 refine lp (.int .i64 v28_1) (pu_move e28) ?_
 obtain ⟨x134, h135, hb⟩ := bd hb
 obtain ⟨ad136, cs137, hA, hc138, hr139⟩ := hC.elr (i := 1) rfl (get_some h135).2
 subst hA
 refine lp (.pointer (some (ad136.add (v28_1.toNat * 1)))) (pu_index (a := v28_1) Try.underlying30 Try.sizeOf3 e26 e28 (get_some h135).1) ?_
 obtain ⟨rfl, hr139'⟩ := hr139
 refine lv (.int .i64 x134) (ld_one Try.isAgg3 rfl (hc138 0 _ rfl)) ?_
 refine lp (.int .i64 v28_1) (pu_assign rfl) ?_
 refine lp (.int .i64 x134) (pu_assign rfl) ?_
 refine ln ?_
 refine hK133 _ _ ?_
 refine Wc.regionMix [34] (frm [34] ([] : List Fact) [.own 3 (.int .i64) (.slice AkP8_0_0 kP8_0_0.length ckP8_0_0) qFP8_0_0_1]) (fun _ => rfl) mixed (by decide +kernel) (by decide +kernel) fun w141 hw140 => ?_
 replace hC := hC.step (Fr.of_drew hw140)
 have hM := Fr.refl (fun k => k ∈ blocks ([] : List Fact)) w141
 clear hw140
 have hS := hC
 have hD : Fr (fun k => k ∈ blocks (([] : List Fact) ++ [.own 3 (.int .i64) (.slice AkP8_0_0 kP8_0_0.length ckP8_0_0) qFP8_0_0_1])) w141 w141 := hM.wide
 have hUFP8_0_0 : Beside (([] : List Fact) ++ [.own 3 (.int .i64) (.slice AkP8_0_0 kP8_0_0.length ckP8_0_0) qFP8_0_0_1]) w141 (.slice AkP8_0_0 kP8_0_0.length ckP8_0_0) := Beside.of (i := 0) rfl
 refine mp (.pointer (some ((⟨gP8, 0, none⟩ : Addr).add 0))) (pu_field (sz := 1) Try.underlying32 rfl Try.sizeOf30 (by decide) rfl e8) ?_
 refine mixE.steady hD (v := .slice AkP8_0_0 kP8_0_0.length ckP8_0_0) (fun _ hF => ld_fld (hS.bx2 (i := 5) rfl [6] (by decide) hF) Try.isAgg30 rfl rfl) ?_
 refine mp (.int .i64 v28_1) (pu_move rfl) ?_
 refine mp (.int .i64 x134) (pu_move rfl) ?_
 refine mp (.func (.func 72) #[] #[]) (pu_move e2) ?_
 refine mp (.int .i64 v28_1) (pu_move rfl) ?_
 obtain ⟨y142, h143, hb⟩ := bd hb
 refine mixE.cl hM (⟨_, _, op_callv (vs := [.int .i64 v28_1]) (ca := #[]) Try.call72 rfl rfl rfl, mirror_Reflect_c2_ok n hC.lt hrv28_1 h143⟩) ?_
 rintro _ w145 ⟨rfl, hr144, hK⟩
 replace hM := hM.none hK.fr
 replace hD := hM.wide (H := [.own 3 (.int .i64) (.slice AkP8_0_0 kP8_0_0.length ckP8_0_0) qFP8_0_0_1])
 refine ⟨hM, ?_⟩
 replace hC := hC.merge hK
 clear hK
 obtain ⟨z146, h147, hb⟩ := bd hb
 refine mp (.int .i64 z146) (pu_mulc (a := x134) (b := y142) rfl rfl h147) ?_
 obtain ⟨x148, h149, hb⟩ := bd hb
 obtain ⟨ad150, cs151, hA, ho154, hc152, hr153⟩ := hS.elo2 (i := 6) rfl (get_some h149).2 [] (by decide)
 subst hA
 refine mp (.pointer (some (ad150.add (v28_1.toNat * 1)))) (pu_index (a := v28_1) Try.underlying30 Try.sizeOf3 rfl rfl (by rw [(hC.ow (i := 6) rfl).sl_len.1]; exact (get_some h149).1)) ?_
 refine mixE.sk hD (hC.put (i := 6) rfl rfl Try.sizeOf3 (k := v28_1.toNat) (a := z146) (by have := (get_some h149).1; simp at this ⊢; omega) (⟨rfl, I64.wr (chk_rng h147)⟩) rfl rfl rfl) ?_
 rintro w155 ⟨hC, hF⟩
 replace hD := hD.beside hUFP8_0_0 hF
 clear hF
 refine ⟨hD, ?_⟩
 refine mixE.nil ?_
 clear hS hM
 clear hD
 refine hK132 _ _ ?_
 refine rg ?_
 obtain ⟨z156, h157, hb⟩ := bd hb
 refine lp (.int .i64 z156) (pu_addc (a := v28_1) (b := 1) e28 rfl h157) ?_
 refine lp (.int .i64 z156) (pu_move rfl) ?_
 refine ln ?_
 obtain rfl := os hb
 exact hK124 m125' _ _ (Nat.lt_succ_self _) ⟨z156, (qFP8_0_0_1.set v28_1.toNat z146), e2, e3, e6, e7, e8, e26, e27, rfl, (chk_rng h157), hC.sel [0, 1, 2, 3, 4, 5, 6, 7] (by decide), lN hl1⟩
 replace hb := tf hq131 hb
 refine Wc.exit rfl ?_
 obtain rfl := os hb
 obtain rfl := (lX hl1).symm
 exact hK123 _ _ ⟨v28_1, qFP8_0_0_1, e3, e6, e7, e8, hrv28_1, hC.sel [0, 1, 2, 3, 4, 5, 6, 7] (by decide), hbK1⟩
 clear hb hC hl1
 rintro E159 w158 ⟨v28_1, qFP8_0_0_1, e3, e6, e7, e8, hrv28_1, hC, hb⟩
 refine hK120 _ _ ?_
 refine Wc.seq fun K160 hK160 => ?_
 refine Wc.seq fun K161 hK161 => ?_
 refine rg ?_
 refine lp (.pointer (some ((⟨g4, 0, none⟩ : Addr).add 1))) (pu_field (sz := 1) Try.underlying32 rfl Try.sizeOf30 (by decide) rfl e3) ?_
 refine lv (.slice Ad_0_1 d_0_1.length cd_0_1) (ld_fld (hC.bx (i := 0) rfl) Try.isAgg30 rfl rfl) ?_
 refine lp (.int .i64 (d_0_1.length : Int)) (pu_len (A := Ad_0_1) (n := d_0_1.length) (m := cd_0_1) Try.underlying30 rfl) ?_
 refine lp (.int .i64 0) (pu_move rfl) ?_
 refine ln ?_
 refine hK161 _ _ ?_
 obtain ⟨o162, hl2, hb⟩ := bd hb
 refine Wc.cut (fun E wv => ∃ (v46_2 : Int) (qFP8_1_0_2 : List Int), E 6 = .pointer (some ⟨g10, 0, none⟩) ∧ E 8 = .pointer (some ⟨gP8, 0, none⟩) ∧ I64 v46_2 ∧ Cx (fun _ => False) O0 w wv [.box g10 32 [.slice none 0 0, .slice none 0 0, .int .i64 0], .box gP8 32 [.slice AkP8_0_0 kP8_0_0.length ckP8_0_0, .slice AkP8_1_0 kP8_1_0.length ckP8_1_0, .int .i64 d_0_2], .own 3 (.int .i64) (.slice AkP8_0_0 kP8_0_0.length ckP8_0_0) qFP8_0_0_1, .own 3 (.int .i64) (.slice AkP8_1_0 kP8_1_0.length ckP8_1_0) qFP8_1_0_2] ∧ (some (qFP8_0_0_1, qFP8_1_0_2, d_0_2) : Option ((List Int) × (List Int) × Int)) = some r) (fun K163 hK163 => ?_) ?_
 refine Wc.block ?_
 refine Wc.loop (fun m E wv => ∃ (v46_2 : Int) (qFP8_1_0_2 : List Int), E 6 = .pointer (some ⟨g10, 0, none⟩) ∧ E 7 = .func (.func 96) #[] #[.pointer (some ⟨g7, 0, none⟩)] ∧ E 8 = .pointer (some ⟨gP8, 0, none⟩) ∧ E 44 = .slice Ad_0_1 d_0_1.length cd_0_1 ∧ E 45 = .int .i64 (d_0_1.length : Int) ∧ E 46 = .int .i64 v46_2 ∧ I64 v46_2 ∧ Cx (fun _ => False) O0 w wv [.box g10 32 [.slice none 0 0, .slice none 0 0, .int .i64 0], .box g7 97 [.func (.func 70) #[] #[]], .box gP8 32 [.slice AkP8_0_0 kP8_0_0.length ckP8_0_0, .slice AkP8_1_0 kP8_1_0.length ckP8_1_0, .int .i64 d_0_2], .own 3 (.int .i64) (.slice AkP8_0_0 kP8_0_0.length ckP8_0_0) qFP8_0_0_1, .own 3 (.int .i64) (.slice AkP8_1_0 kP8_1_0.length ckP8_1_0) qFP8_1_0_2, .ro (.sl (.int .i64)) [.slice Ad_0_1 d_0_1.length cd_0_1] d_0_1] ∧ loopN m (F.mirror_move_mirror_Reflect_c1_mirror_Reflect_c2_b2 n d_0_1) (v46_2, qFP8_1_0_2) = some o162) n ⟨0, kP8_1_0, e6, e7, e8, rfl, rfl, rfl, (show I64 0 from by unfold I64; omega), hC.sel [3, 4, 5, 6, 7, 2] (by decide), hl2⟩ ?_
 have hbK2 := hb
 clear hb hC hl2
 rintro m165 E167 w166 ⟨v46_2, qFP8_1_0_2, e6, e7, e8, e44, e45, e46, hrv46_2, hC, hl2⟩ K164 hK164
 obtain ⟨m165', o168, rfl, hb, hl2⟩ := loopN_some hl2
 unfold F.mirror_move_mirror_Reflect_c1_mirror_Reflect_c2_b2 at hb
 refine Wc.seq fun K169 hK169 => ?_
 refine rg ?_
 refine lp (.bool (decide (v46_2 < (d_0_1.length : Int)))) (pu_lss (k := .i64) (a := v46_2) (b := (d_0_1.length : Int)) e46 e45) ?_
 refine ln ?_
 refine hK169 _ _ ?_
 refine Wc.seq fun K170 hK170 => ?_
 refine Wc.cond (t := (decide (v46_2 < (d_0_1.length : Int)))) (rfl) (fun hq171 => ?_) (fun hq171 => ?_)
 replace hb := tt hq171 hb
 refine Wc.skip ?_
 refine hK170 _ _ ?_
 refine Wc.seq fun K172 hK172 => ?_
 refine Wc.block ?_
 refine Wc.seq fun K173 hK173 => ?_
 refine rg ?_
 refine lp (.int .i64 v46_2) (pu_move e46) ?_
 obtain ⟨x174, h175, hb⟩ := bd hb
 obtain ⟨ad176, cs177, hA, hc178, hr179⟩ := hC.elr (i := 5) rfl (get_some h175).2
 subst hA
 refine lp (.pointer (some (ad176.add (v46_2.toNat * 1)))) (pu_index (a := v46_2) Try.underlying30 Try.sizeOf3 e44 e46 (get_some h175).1) ?_
 obtain ⟨rfl, hr179'⟩ := hr179
 refine lv (.int .i64 x174) (ld_one Try.isAgg3 rfl (hc178 0 _ rfl)) ?_
 refine lp (.int .i64 v46_2) (pu_assign rfl) ?_
 refine lp (.int .i64 x174) (pu_assign rfl) ?_
 refine ln ?_
 refine hK173 _ _ ?_
 refine Wc.regionMix [52] (frm [52] [.box g7 97 [.func (.func 70) #[] #[]]] [.own 3 (.int .i64) (.slice AkP8_1_0 kP8_1_0.length ckP8_1_0) qFP8_1_0_2]) (fun _ => rfl) mixed (by decide +kernel) (by decide +kernel) fun w181 hw180 => ?_
 replace hC := hC.step (Fr.of_drew hw180)
 have hM := Fr.refl (fun k => k ∈ blocks [.box g7 97 [.func (.func 70) #[] #[]]]) w181
 clear hw180
 have hS := hC
 have hBf9 : ∀ g, g < w181.heap.size → some g7 = some g → g ∈ blocks [.box g7 97 [.func (.func 70) #[] #[]]] := fun g _ hg => Option.some.inj hg ▸ box_in (i := 0) rfl
 have hD : Fr (fun k => k ∈ blocks ([.box g7 97 [.func (.func 70) #[] #[]]] ++ [.own 3 (.int .i64) (.slice AkP8_1_0 kP8_1_0.length ckP8_1_0) qFP8_1_0_2])) w181 w181 := hM.wide
 have hUf9 : g7 < w181.heap.size → g7 ∈ blocks ([.box g7 97 [.func (.func 70) #[] #[]]] ++ [.own 3 (.int .i64) (.slice AkP8_1_0 kP8_1_0.length ckP8_1_0) qFP8_1_0_2]) := fun _ => box_in (i := 0) rfl
 have hUFP8_1_0 : Beside ([.box g7 97 [.func (.func 70) #[] #[]]] ++ [.own 3 (.int .i64) (.slice AkP8_1_0 kP8_1_0.length ckP8_1_0) qFP8_1_0_2]) w181 (.slice AkP8_1_0 kP8_1_0.length ckP8_1_0) := Beside.of (i := 1) rfl
 refine mp (.pointer (some ((⟨gP8, 0, none⟩ : Addr).add 1))) (pu_field (sz := 1) Try.underlying32 rfl Try.sizeOf30 (by decide) rfl e8) ?_
 refine mixE.steady hD (v := .slice AkP8_1_0 kP8_1_0.length ckP8_1_0) (fun _ hF => ld_fld (hS.bx2 (i := 2) rfl [1, 4] (by decide) hF) Try.isAgg30 rfl rfl) ?_
 refine mp (.func (.func 96) #[] #[.pointer (some ⟨g7, 0, none⟩)]) (pu_move e7) ?_
 refine mp (.int .i64 v46_2) (pu_move rfl) ?_
 replace hC : Cx (fun _ => False) O0 w w181 ([.box g7 97 [.func (.func 70) #[] #[]]] ++ [.box g10 32 [.slice none 0 0, .slice none 0 0, .int .i64 0], .box gP8 32 [.slice AkP8_0_0 kP8_0_0.length ckP8_0_0, .slice AkP8_1_0 kP8_1_0.length ckP8_1_0, .int .i64 d_0_2], .own 3 (.int .i64) (.slice AkP8_0_0 kP8_0_0.length ckP8_0_0) qFP8_0_0_1, .own 3 (.int .i64) (.slice AkP8_1_0 kP8_1_0.length ckP8_1_0) qFP8_1_0_2, .ro (.sl (.int .i64)) [.slice (some ad176) d_0_1.length cd_0_1] d_0_1]) := hC.sel [1, 0, 2, 3, 4, 5] (by decide)
 obtain ⟨y182, h183, hb⟩ := bd hb
 refine mixE.cl hM (⟨_, _, op_callv (vs := [.int .i64 v46_2, .pointer (some ⟨g7, 0, none⟩)]) (ca := #[.pointer (some ⟨g7, 0, none⟩)]) Try.call96 rfl rfl rfl, mirror_move_c1_v2_ok n hC.lt hrv46_2 hC.give h183⟩) ?_
 rintro _ w185 ⟨rfl, hr184, hK⟩
 have hL186 : ∀ f ∈ ([.box g7 97 [.func (.func 70) #[] #[]]] : List Fact), ∀ g, g < w181.heap.size → f.blk = some g → g ∈ blocks [.box g7 97 [.func (.func 70) #[] #[]]] := List.forall_mem_cons.2 ⟨hBf9, fun _ h => absurd h List.not_mem_nil⟩
 replace hM := hM.besideL hL186 hK.fr
 replace hD := hM.wide (H := [.own 3 (.int .i64) (.slice AkP8_1_0 kP8_1_0.length ckP8_1_0) qFP8_1_0_2])
 refine ⟨hM, ?_⟩
 replace hC := hC.back hK
 clear hK
 refine mp (.func (.func 96) #[] #[.pointer (some ⟨g7, 0, none⟩)]) (pu_move e7) ?_
 refine mp (.int .i64 x174) (pu_move rfl) ?_
 replace hC : Cx (fun _ => False) O0 w w185 ([.box g7 97 [.func (.func 70) #[] #[]]] ++ [.box g10 32 [.slice none 0 0, .slice none 0 0, .int .i64 0], .box gP8 32 [.slice AkP8_0_0 kP8_0_0.length ckP8_0_0, .slice AkP8_1_0 kP8_1_0.length ckP8_1_0, .int .i64 d_0_2], .own 3 (.int .i64) (.slice AkP8_0_0 kP8_0_0.length ckP8_0_0) qFP8_0_0_1, .own 3 (.int .i64) (.slice AkP8_1_0 kP8_1_0.length ckP8_1_0) qFP8_1_0_2, .ro (.sl (.int .i64)) [.slice (some ad176) d_0_1.length cd_0_1] d_0_1]) := hC.sel [0, 1, 2, 3, 4, 5] (by decide)
 obtain ⟨y187, h188, hb⟩ := bd hb
 refine mixE.cl hM (⟨_, _, op_callv (vs := [.int .i64 x174, .pointer (some ⟨g7, 0, none⟩)]) (ca := #[.pointer (some ⟨g7, 0, none⟩)]) Try.call96 rfl rfl rfl, mirror_move_c1_v2_ok n hC.lt (wrap_I64 hr179') hC.give h188⟩) ?_
 rintro _ w190 ⟨rfl, hr189, hK⟩
 have hL191 : ∀ f ∈ ([.box g7 97 [.func (.func 70) #[] #[]]] : List Fact), ∀ g, g < w181.heap.size → f.blk = some g → g ∈ blocks [.box g7 97 [.func (.func 70) #[] #[]]] := List.forall_mem_cons.2 ⟨hBf9, fun _ h => absurd h List.not_mem_nil⟩
 replace hM := hM.besideL hL191 hK.fr
 replace hD := hM.wide (H := [.own 3 (.int .i64) (.slice AkP8_1_0 kP8_1_0.length ckP8_1_0) qFP8_1_0_2])
 refine ⟨hM, ?_⟩
 replace hC := hC.back hK
 clear hK
 obtain ⟨x192, h193, hb⟩ := bd hb
 obtain ⟨ad194, cs195, hA, ho198, hc196, hr197⟩ := hS.elo2 (i := 4) rfl (get_some h193).2 [1] (by decide)
 subst hA
 refine mp (.pointer (some (ad194.add (y182.toNat * 1)))) (pu_index (a := y182) Try.underlying30 Try.sizeOf3 rfl rfl (by rw [(hC.ow (i := 4) rfl).sl_len.1]; exact (get_some h193).1)) ?_
 refine mixE.sk hD (hC.put (i := 4) rfl rfl Try.sizeOf3 (k := y182.toNat) (a := y187) (by have := (get_some h193).1; simp at this ⊢; omega) (⟨rfl, I64.wr hr189⟩) rfl rfl rfl) ?_
 rintro w199 ⟨hC, hF⟩
 replace hD := hD.beside hUFP8_1_0 hF
 clear hF
 refine ⟨hD, ?_⟩
 refine mixE.nil ?_
 clear hS hM
 clear hD
 refine hK172 _ _ ?_
 refine rg ?_
 obtain ⟨z200, h201, hb⟩ := bd hb
 refine lp (.int .i64 z200) (pu_addc (a := v46_2) (b := 1) e46 rfl h201) ?_
 refine lp (.int .i64 z200) (pu_move rfl) ?_
 refine ln ?_
 obtain rfl := os hb
 exact hK164 m165' _ _ (Nat.lt_succ_self _) ⟨z200, (qFP8_1_0_2.set y182.toNat y187), e6, e7, e8, e44, e45, rfl, (chk_rng h201), hC.sel [1, 0, 2, 3, 4, 5] (by decide), lN hl2⟩
 replace hb := tf hq171 hb
 refine Wc.exit rfl ?_
 obtain rfl := os hb
 obtain rfl := (lX hl2).symm
 exact hK163 _ _ ⟨v46_2, qFP8_1_0_2, e6, e8, hrv46_2, hC.sel [0, 2, 3, 4] (by decide), hbK2⟩
 clear hb hC hl2
 rintro E203 w202 ⟨v46_2, qFP8_1_0_2, e6, e8, hrv46_2, hC, hb⟩
 refine hK160 _ _ ?_
 refine Wc.seq fun K204 hK204 => ?_
 refine rg ?_
 refine lv (.agg #[.slice AkP8_0_0 kP8_0_0.length ckP8_0_0, .slice AkP8_1_0 kP8_1_0.length ckP8_1_0, .int .i64 d_0_2]) (ld_blk (hC.bx (i := 1) rfl) Try.isAgg32 Try.sizeOf32 e8) ?_
 refine lex.sk (hC.seta (i := 0) (ds := [.slice AkP8_0_0 kP8_0_0.length ckP8_0_0, .slice AkP8_1_0 kP8_1_0.length ckP8_1_0, .int .i64 d_0_2]) rfl Try.type32 rfl rfl rfl e6 rfl) ?_
 rintro w205 ⟨hC, hF⟩
 refine ln ?_
 refine hK204 _ _ ?_
 obtain rfl := os hb
 refine Wc.ret ?_
 refine hKR _ _ ?_
 refine ⟨_, res1 Try.results71 ⟨_, e6, loadVar_blk (hC.bx (i := 0) rfl) Try.isAgg32 Try.sizeOf32⟩, _, rfl, AkP8_0_0, kP8_0_0.length, ckP8_0_0, AkP8_1_0, kP8_1_0.length, ckP8_1_0, rfl, hd_0_2, hC.sel [2, 3] (by decide)⟩

set_option maxRecDepth 100000 in
set_option maxHeartbeats 4000000 in
theorem mirror_Reflect_ok (n : Nat) {w : World} {O0 : List Nat} (hO : ∀ k ∈ O0, k < w.heap.size) {Ad_0_0 : Option Addr} {md_0_0 cd_0_0 : Nat} {d_0_0 : List Int} (hd_0_0 : Rep O0 w (.sl (.int .i64)) [.slice Ad_0_0 md_0_0 cd_0_0] d_0_0) {Ad_0_1 : Option Addr} {md_0_1 cd_0_1 : Nat} {d_0_1 : List Int} (hd_0_1 : Rep O0 w (.sl (.int .i64)) [.slice Ad_0_1 md_0_1 cd_0_1] d_0_1) {d_0_2 : Int} (hd_0_2 : I64 d_0_2) {r : (List Int) × (List Int) × Int × Int} (hb : F.mirror_Reflect n d_0_0 d_0_1 d_0_2 = some r) :
    Calls Try.prog 32 #[.agg #[.slice Ad_0_0 md_0_0 cd_0_0, .slice Ad_0_1 md_0_1 cd_0_1, .int .i64 d_0_2]] w fun e w' => ∃ v, e = .returned v ∧ ∃ (A0 : Option Addr) (m0 c0 : Nat) (A1 : Option Addr) (m1 c1 : Nat), v = .tuple #[.agg #[.slice A0 m0 c0, .slice A1 m1 c1, .int .i64 r.2.2.1], .int .i64 r.2.2.2] ∧ I64 r.2.2.1 ∧ I64 r.2.2.2 ∧ Cx (fun _ => False) O0 w w' [.own 3 (.int .i64) (.slice A0 m0 c0) r.1, .own 3 (.int .i64) (.slice A1 m1 c1) r.2.1] := by
 unfold F.mirror_Reflect at hb
 have hC := Cx.start hO
 replace hC := hC.arg rfl hd_0_0
 replace hC := hC.arg rfl hd_0_1
 clear hO
 obtain ⟨rfl, hld_0_0, hcd_0_0⟩ := hd_0_0.sl_len
 obtain ⟨rfl, hld_0_1, hcd_0_1⟩ := hd_0_1.sl_len
 refine calls_of_Wc Try.func32 rfl (by rw [Try.ntmps32]; exact Nat.le_of_ble_eq_true rfl) fun KR hKR => ?_
 refine Wc.seq fun K3 hK3 => ?_
 refine rg ?_
 refine lex.op (hC.box (cs := [.slice Ad_0_0 d_0_0.length cd_0_0, .slice Ad_0_1 d_0_1.length cd_0_1, .int .i64 d_0_2]) rfl rfl) ?_
 rintro _ w5 ⟨g4, rfl, hC, hF, hG⟩
 clear hG
 refine lex.op (hC.alloc (cs := [.slice none 0 0, .slice none 0 0, .int .i64 0]) Try.zeroValue32 rfl) ?_
 rintro _ w8 ⟨g7, rfl, hC, hF, hG⟩
 clear hG
 refine lp (.int .i64 0) (pu_assign rfl) ?_
 refine ln ?_
 refine hK3 _ _ ?_
 refine Wc.seq fun K10 hK10 => ?_
 refine Wc.seq fun K11 hK11 => ?_
 refine rg ?_
 refine lv (.agg #[.slice Ad_0_0 d_0_0.length cd_0_0, .slice Ad_0_1 d_0_1.length cd_0_1, .int .i64 d_0_2]) (ld_blk (hC.bx (i := 1) rfl) Try.isAgg32 Try.sizeOf32 rfl) ?_
 obtain ⟨y12, h13, hb⟩ := bd hb
 refine lex.cl (⟨_, _, op_call (vs := [.agg #[.slice Ad_0_0 d_0_0.length cd_0_0, .slice Ad_0_1 d_0_1.length cd_0_1, .int .i64 d_0_2]]) Try.call27 rfl rfl rfl, diagram_Valid_ok n hC.lt (hC.rd (i := 3) rfl) (hC.rd (i := 2) rfl) hd_0_2 h13⟩) ?_
 rintro _ w14 ⟨rfl, hK⟩
 replace hC := hC.merge hK
 clear hK
 refine lp (.bool (!y12)) (pu_not (q := y12) rfl) ?_
 refine ln ?_
 refine hK11 _ _ ?_
 refine Wc.cond (t := (!y12)) (rfl) (fun hq15 => ?_) (fun hq15 => ?_)
 replace hb := tt hq15 hb
 refine Wc.seq fun K16 hK16 => ?_
 refine rg ?_
 refine lp (.agg #[.slice none 0 0, .slice none 0 0, .int .i64 0]) (pu_builds (places := [(0, 1), (1, 1), (2, 1)]) (pv := []) Try.type32 Try.underlying32 rfl (mp_cons Try.type30 (mp_cons Try.type30 (mp_cons Try.type3 mp_nil rfl rfl) rfl rfl) rfl rfl) rfl (by simp [Instr.fill, Value.cells])) ?_
 refine lex.sk (hC.seta (i := 0) (ds := [.slice none 0 0, .slice none 0 0, .int .i64 0]) rfl Try.type32 rfl rfl rfl rfl rfl) ?_
 rintro w17 ⟨hC, hF⟩
 refine lp (.int .i64 1) (pu_assign rfl) ?_
 refine ln ?_
 refine hK16 _ _ ?_
 replace hC := hC.nil 3 (.int .i64)
 replace hC := hC.nil 3 (.int .i64)
 obtain rfl := os hb
 refine Wc.ret ?_
 refine hKR _ _ ?_
 refine ⟨_, res2 Try.results32 ⟨_, rfl, loadVar_blk (hC.bx (i := 2) rfl) Try.isAgg32 Try.sizeOf32⟩ (show RV _ _ _ (.tmp _) (.int .i64 1) from rfl), _, rfl, none, 0, 0, none, 0, 0, rfl, (show I64 0 from by unfold I64; omega), (show I64 1 from by unfold I64; omega), hC.sel [1, 0] (by decide)⟩
 replace hb := tf hq15 hb
 refine Wc.skip ?_
 refine hK10 _ _ ?_
 refine Wc.seq fun K20 hK20 => ?_
 refine rg ?_
 refine lp (.func (.func 70) #[] #[]) (pu_assign rfl) ?_
 refine ln ?_
 refine hK20 _ _ ?_
 refine Wc.seq fun K21 hK21 => ?_
 refine rg ?_
 refine lv (.agg #[.slice Ad_0_0 d_0_0.length cd_0_0, .slice Ad_0_1 d_0_1.length cd_0_1, .int .i64 d_0_2]) (ld_blk (hC.bx (i := 1) rfl) Try.isAgg32 Try.sizeOf32 rfl) ?_
 refine lp (.func (.func 70) #[] #[]) (pu_move rfl) ?_
 obtain ⟨y22, h23, hb⟩ := bd hb
 refine lex.cl (⟨_, _, op_call (vs := [.agg #[.slice Ad_0_0 d_0_0.length cd_0_0, .slice Ad_0_1 d_0_1.length cd_0_1, .int .i64 d_0_2], .func (.func 70) #[] #[], .func (.func 72) #[] #[]]) Try.call71 rfl rfl rfl, mirror_move_mirror_Reflect_c1_mirror_Reflect_c2_ok n hC.lt (hC.rd (i := 3) rfl) (hC.rd (i := 2) rfl) hd_0_2 h23⟩) ?_
 rintro _ w33 ⟨A24, m25, c26, A28, m29, c30, rfl, hr32, hK⟩
 replace hC := hC.merge hK
 clear hK
 obtain ⟨rfl, hl34, hc35⟩ := (hC.ow (i := 0) rfl).sl_len
 obtain ⟨rfl, hl36, hc37⟩ := (hC.ow (i := 1) rfl).sl_len
 refine lex.sk (hC.seta (i := 2) (ds := [.slice A24 y22.1.length c26, .slice A28 y22.2.1.length c30, .int .i64 y22.2.2]) rfl Try.type32 rfl rfl rfl rfl rfl) ?_
 rintro w38 ⟨hC, hF⟩
 refine lp (.int .i64 0) (pu_assign rfl) ?_
 refine ln ?_
 refine hK21 _ _ ?_
 obtain rfl := os hb
 refine Wc.ret ?_
 refine hKR _ _ ?_
 refine ⟨_, res2 Try.results32 ⟨_, rfl, loadVar_blk (hC.bx (i := 2) rfl) Try.isAgg32 Try.sizeOf32⟩ (show RV _ _ _ (.tmp _) (.int .i64 0) from rfl), _, rfl, A24, y22.1.length, c26, A28, y22.2.1.length, c30, rfl, hr32, (show I64 0 from by unfold I64; omega), hC.sel [0, 1] (by decide)⟩
end Go.Proofs.Yteajmbanlohncaa
