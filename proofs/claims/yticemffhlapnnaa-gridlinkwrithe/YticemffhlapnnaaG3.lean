/- The walks: part 3. -/
import Derived.Test.YticemffhlapnnaaS
import Derived.Test.YticemffhlapnnaaG0
import Derived.Test.YticemffhlapnnaaG1
import Derived.Test.YticemffhlapnnaaG2
set_option linter.unusedVariables false
set_option linter.unusedSimpArgs false
namespace Go.Proofs.Yticemffhlapnnaa
open Ev
set_option maxRecDepth 100000 in
set_option maxHeartbeats 4000000 in
theorem gridlink_join_c1_ok (n : Nat) {w : World} {O0 : List Nat} (hO : ∀ k ∈ O0, k < w.heap.size) {k_0 : Int} (hk_0 : I64 k_0) {gu_1 : Nat} {Au_1_0 : Option Addr} {mu_1_0 cu_1_0 : Nat} {u_1_0 : List (Int × Int)} (hu_1_0 : Rep O0 w (.sl (.pr (.int .i64) (.int .i64))) [.slice Au_1_0 mu_1_0 cu_1_0] u_1_0) (hio : Tk O0 w [.box gu_1 56 [.slice Au_1_0 mu_1_0 cu_1_0]]) {r : Int} (hb : F.gridlink_join_c1 n k_0 u_1_0 = some r) :
    Calls Try.prog 69 #[.int .i64 k_0, .pointer (some ⟨gu_1, 0, none⟩)] w fun e w' => ∃ v, e = .returned v ∧ v = .int .i64 r ∧ I64 r ∧ Cx (fun k => k ∈ blocks [.box gu_1 56 [.slice Au_1_0 mu_1_0 cu_1_0]]) O0 w w' [.box gu_1 56 [.slice Au_1_0 mu_1_0 cu_1_0]] := by
 unfold F.gridlink_join_c1 at hb
 have hC := Cx.startTk hO hio
 have hsub := hio.2.2
 replace hC := hC.argTk (by first | exact hsub | exact fun k hk => hsub k (by simpa [blocks, Fact.blk] using hk)) hu_1_0
 clear hO
 obtain ⟨rfl, hlu_1_0, hcu_1_0⟩ := hu_1_0.sl_len
 clear hio hsub
 obtain ⟨I, hI, hC⟩ : ∃ I : Nat → Prop, I = (fun k => k ∈ blocks [.box gu_1 56 [.slice Au_1_0 u_1_0.length cu_1_0]]) ∧ Cx I O0 w w ([.ro (.sl (.pr (.int .i64) (.int .i64))) [.slice Au_1_0 u_1_0.length cu_1_0] u_1_0, .box gu_1 56 [.slice Au_1_0 u_1_0.length cu_1_0]]) := ⟨_, rfl, hC⟩
 refine calls_of_Wc Try.func69 rfl (by rw [Try.ntmps69]; exact Nat.le_of_ble_eq_true rfl) fun KR hKR => ?_
 refine Wc.seq fun K3 hK3 => ?_
 refine rg ?_
 refine lp (.int .i64 0) (pu_assign rfl) ?_
 refine ln ?_
 refine hK3 _ _ ?_
 refine Wc.seq fun K4 hK4 => ?_
 refine rg ?_
 refine lp (.int .i64 k_0) (pu_move rfl) ?_
 obtain ⟨z5, h6, hb⟩ := bd hb
 refine lp (.int .i64 z5) (pu_addc (a := k_0) (b := 1) rfl rfl h6) ?_
 refine lv (.slice Au_1_0 u_1_0.length cu_1_0) (ld_one Try.isAgg56 rfl ((hC.bx (i := 1) rfl).cell (j := 0) rfl)) ?_
 refine lp (.int .i64 (u_1_0.length : Int)) (pu_len (A := Au_1_0) (n := u_1_0.length) (m := cu_1_0) Try.underlying56 rfl) ?_
 obtain ⟨u7, h8, hb⟩ := bd hb
 refine lp (.int .i64 (Int.tmod z5 (u_1_0.length : Int))) (pu_remc (a := z5) (b := (u_1_0.length : Int)) rfl rfl h8) ?_
 refine lp (.int .i64 (Int.tmod z5 (u_1_0.length : Int))) (pu_assign rfl) ?_
 refine ln ?_
 refine hK4 _ _ ?_
 obtain rfl := os hb
 subst hI
 refine Wc.ret ?_
 refine hKR _ _ ?_
 refine ⟨_, res1 Try.results69 (show RV _ _ _ (.tmp _) (.int .i64 (Int.tmod z5 (u_1_0.length : Int))) from rfl), _, rfl, rfl, (I64.rem (chk_rng h6)), hC.sel [1] (by decide)⟩

set_option maxRecDepth 100000 in
set_option maxHeartbeats 4000000 in
theorem gridlink_join_ok (n : Nat) {w : World} {O0 : List Nat} (hO : ∀ k ∈ O0, k < w.heap.size) {gd_0 : Nat} {Ad_0_0 : Option Addr} {md_0_0 cd_0_0 : Nat} {d_0_0 : List Int} (hd_0_0 : Rep O0 w (.sl (.int .i64)) [.slice Ad_0_0 md_0_0 cd_0_0] d_0_0) {Ad_0_1 : Option Addr} {md_0_1 cd_0_1 : Nat} {d_0_1 : List Int} {d_0_2 : Int} (hd_0_2 : I64 d_0_2) {Alist_1 : Option Addr} {mlist_1 clist_1 : Nat} {list_1 : List (Int × Int)} (hlist_1 : Rep O0 w (.sl (.pr (.int .i64) (.int .i64))) [.slice Alist_1 mlist_1 clist_1] list_1) (hio : Tk O0 w [.own 3 (.int .i64) (.slice Ad_0_1 md_0_1 cd_0_1) d_0_1, .box gd_0 28 [.slice Ad_0_0 md_0_0 cd_0_0, .slice Ad_0_1 md_0_1 cd_0_1, .int .i64 d_0_2]]) {r : (List Int) × Int} (hb : F.gridlink_join n d_0_0 d_0_1 d_0_2 list_1 = some r) :
    Calls Try.prog 41 #[.pointer (some ⟨gd_0, 0, none⟩), .slice Alist_1 mlist_1 clist_1] w fun e w' => ∃ v, e = .returned v ∧ v = .tuple #[] ∧ I64 r.2 ∧ Cx (fun k => k ∈ blocks [.own 3 (.int .i64) (.slice Ad_0_1 md_0_1 cd_0_1) d_0_1, .box gd_0 28 [.slice Ad_0_0 md_0_0 cd_0_0, .slice Ad_0_1 md_0_1 cd_0_1, .int .i64 d_0_2]]) O0 w w' [.own 3 (.int .i64) (.slice Ad_0_1 md_0_1 cd_0_1) r.1, .box gd_0 28 [.slice Ad_0_0 md_0_0 cd_0_0, .slice Ad_0_1 md_0_1 cd_0_1, .int .i64 r.2]] := by
 unfold F.gridlink_join at hb
 have hC := Cx.startTk hO hio
 have hsub := hio.2.2
 replace hC := hC.argTk (by first | exact hsub | exact fun k hk => hsub k (by simpa [blocks, Fact.blk] using hk)) hd_0_0
 replace hC := hC.argTk (by first | exact hsub | exact fun k hk => hsub k (by simpa [blocks, Fact.blk] using hk)) hlist_1
 clear hO
 obtain ⟨rfl, hld_0_0, hcd_0_0⟩ := hd_0_0.sl_len
 obtain ⟨rfl, hllist_1, hclist_1⟩ := hlist_1.sl_len
 obtain ⟨rfl, hld_0_1, hcd_0_1⟩ := (hC.ow (i := 2) rfl).sl_len
 clear hio hsub
 obtain ⟨I, hI, hC⟩ : ∃ I : Nat → Prop, I = (fun k => k ∈ blocks [.own 3 (.int .i64) (.slice Ad_0_1 d_0_1.length cd_0_1) d_0_1, .box gd_0 28 [.slice Ad_0_0 d_0_0.length cd_0_0, .slice Ad_0_1 d_0_1.length cd_0_1, .int .i64 d_0_2]]) ∧ Cx I O0 w w ([.ro (.sl (.pr (.int .i64) (.int .i64))) [.slice Alist_1 list_1.length clist_1] list_1, .ro (.sl (.int .i64)) [.slice Ad_0_0 d_0_0.length cd_0_0] d_0_0, .own 3 (.int .i64) (.slice Ad_0_1 d_0_1.length cd_0_1) d_0_1, .box gd_0 28 [.slice Ad_0_0 d_0_0.length cd_0_0, .slice Ad_0_1 d_0_1.length cd_0_1, .int .i64 d_0_2]]) := ⟨_, rfl, hC⟩
 refine calls_of_Wc Try.func41 rfl (by rw [Try.ntmps41]; exact Nat.le_of_ble_eq_true rfl) fun KR hKR => ?_
 refine Wc.seq fun K5 hK5 => ?_
 refine rg ?_
 refine lex.op (hC.box (cs := [.slice Alist_1 list_1.length clist_1]) rfl rfl) ?_
 rintro _ w7 ⟨g6, rfl, hC, hF, hG⟩
 clear hG
 refine ln ?_
 refine hK5 _ _ ?_
 refine Wc.seqJ (fun E wv => ∃ (bf1_2_0 : Int), E 0 = .pointer (some ⟨gd_0, 0, none⟩) ∧ E 3 = .pointer (some ⟨g6, 0, none⟩) ∧ I64 bf1_2_0 ∧ Cx I O0 w wv [.box gd_0 28 [.slice Ad_0_0 d_0_0.length cd_0_0, .slice Ad_0_1 d_0_1.length cd_0_1, .int .i64 bf1_2_0], .ro (.sl (.int .i64)) [.slice Ad_0_0 d_0_0.length cd_0_0] d_0_0, .own 3 (.int .i64) (.slice Ad_0_1 d_0_1.length cd_0_1) d_0_1, .box g6 56 [.slice Alist_1 list_1.length clist_1], .ro (.sl (.pr (.int .i64) (.int .i64))) [.slice Alist_1 list_1.length clist_1] list_1] ∧ F.gridlink_join_j0 n d_0_1 list_1 bf1_2_0 = some r) (fun K9 hK9 => ?_) ?_
 refine Wc.seq fun K10 hK10 => ?_
 refine rg ?_
 refine lv (.slice Alist_1 list_1.length clist_1) (ld_one Try.isAgg56 rfl ((hC.bx (i := 0) rfl).cell (j := 0) rfl)) ?_
 refine lp (.int .i64 (list_1.length : Int)) (pu_len (A := Alist_1) (n := list_1.length) (m := clist_1) Try.underlying56 rfl) ?_
 refine lp (.bool (decide ((list_1.length : Int) = 0))) (pu_eql (k := .i64) (a := (list_1.length : Int)) (b := 0) rfl rfl) ?_
 refine ln ?_
 refine hK10 _ _ ?_
 refine Wc.cond (t := (decide ((list_1.length : Int) = 0))) (rfl) (fun hq11 => ?_) (fun hq11 => ?_)
 replace hb := tt hq11 hb
 refine rg ?_
 refine lp (.pointer (some ⟨gd_0, 0, none⟩)) (pu_move rfl) ?_
 refine lp (.pointer (some ⟨gd_0, 0, none⟩)) (pu_nilp rfl) ?_
 refine lp (.pointer (some ((⟨gd_0, 0, none⟩ : Addr).add 2))) (pu_field (sz := 1) Try.underlying28 rfl Try.sizeOf3 (by decide) rfl rfl) ?_
 refine lv (.int .i64 d_0_2) (ld_fld (hC.bx (i := 4) rfl) Try.isAgg3 rfl rfl) ?_
 obtain ⟨z12, h13, hb⟩ := bd hb
 refine lp (.int .i64 z12) (pu_addc (a := d_0_2) (b := 1) rfl rfl h13) ?_
 refine lp (.pointer (some ⟨gd_0, 0, none⟩)) (pu_nilp rfl) ?_
 refine lp (.pointer (some ((⟨gd_0, 0, none⟩ : Addr).add 2))) (pu_field (sz := 1) Try.underlying28 rfl Try.sizeOf3 (by decide) rfl rfl) ?_
 refine lex.sk (hC.setf (i := 4) (k := 2) (v := .int .i64 z12) rfl Try.sizeOf3 rfl rfl rfl rfl) ?_
 rintro w14 ⟨hC, hF⟩
 refine ln ?_
 exact hK9 _ _ ⟨z12, rfl, rfl, (chk_rng h13), hC.sel [4, 2, 3, 0, 1] (by decide), hb⟩
 replace hb := tf hq11 hb
 refine Wc.skip ?_
 exact hK9 _ _ ⟨d_0_2, rfl, rfl, hd_0_2, hC.sel [4, 2, 3, 0, 1] (by decide), hb⟩
 clear hb hC
 rintro E16 w15 ⟨bf1_2_0, e0, e3, hrbf1_2_0, hC, hb⟩
 unfold F.gridlink_join_j0 at hb
 refine Wc.seq fun K17 hK17 => ?_
 refine rg ?_
 refine lp (.func (.func 69) #[] #[.pointer (some ⟨g6, 0, none⟩)]) (pu_funcc (map_of (m2_cons e3 m2_nil))) ?_
 refine lp (.func (.func 69) #[] #[.pointer (some ⟨g6, 0, none⟩)]) (pu_assign rfl) ?_
 refine ln ?_
 refine hK17 _ _ ?_
 refine Wc.seq fun K18 hK18 => ?_
 refine rg ?_
 refine lv (.slice Alist_1 list_1.length clist_1) (ld_one Try.isAgg56 e3 ((hC.bx (i := 3) rfl).cell (j := 0) rfl)) ?_
 refine lp (.int .i64 (list_1.length : Int)) (pu_len (A := Alist_1) (n := list_1.length) (m := clist_1) Try.underlying56 rfl) ?_
 refine lp (.int .i64 0) (pu_move rfl) ?_
 refine ln ?_
 refine hK18 _ _ ?_
 obtain ⟨o19, hl1, hb⟩ := bd hb
 refine Wc.cut (fun E wv => ∃ (v21_1 : Int) (qf3_1 : List Int), I64 v21_1 ∧ Cx I O0 w wv [.own 3 (.int .i64) (.slice Ad_0_1 d_0_1.length cd_0_1) qf3_1, .box gd_0 28 [.slice Ad_0_0 d_0_0.length cd_0_0, .slice Ad_0_1 d_0_1.length cd_0_1, .int .i64 bf1_2_0], .ro (.sl (.int .i64)) [.slice Ad_0_0 d_0_0.length cd_0_0] d_0_0] ∧ (some (qf3_1, bf1_2_0) : Option ((List Int) × Int)) = some r) (fun K20 hK20 => ?_) ?_
 refine Wc.block ?_
 refine Wc.loop (fun m E wv => ∃ (v21_1 : Int) (qf3_1 : List Int), E 0 = .pointer (some ⟨gd_0, 0, none⟩) ∧ E 3 = .pointer (some ⟨g6, 0, none⟩) ∧ E 4 = .func (.func 69) #[] #[.pointer (some ⟨g6, 0, none⟩)] ∧ E 19 = .slice Alist_1 list_1.length clist_1 ∧ E 20 = .int .i64 (list_1.length : Int) ∧ E 21 = .int .i64 v21_1 ∧ I64 v21_1 ∧ Cx I O0 w wv [.box gd_0 28 [.slice Ad_0_0 d_0_0.length cd_0_0, .slice Ad_0_1 d_0_1.length cd_0_1, .int .i64 bf1_2_0], .ro (.sl (.int .i64)) [.slice Ad_0_0 d_0_0.length cd_0_0] d_0_0, .own 3 (.int .i64) (.slice Ad_0_1 d_0_1.length cd_0_1) qf3_1, .box g6 56 [.slice Alist_1 list_1.length clist_1], .ro (.sl (.pr (.int .i64) (.int .i64))) [.slice Alist_1 list_1.length clist_1] list_1] ∧ loopN m (F.gridlink_join_b1 n list_1) (v21_1, qf3_1) = some o19) n ⟨0, d_0_1, e0, e3, rfl, rfl, rfl, rfl, (show I64 0 from by unfold I64; omega), hC.sel [0, 1, 2, 3, 4] (by decide), hl1⟩ ?_
 have hbK1 := hb
 clear hb hC hl1
 rintro m22 E24 w23 ⟨v21_1, qf3_1, e0, e3, e4, e19, e20, e21, hrv21_1, hC, hl1⟩ K21 hK21
 obtain ⟨m22', o25, rfl, hb, hl1⟩ := loopN_some hl1
 unfold F.gridlink_join_b1 at hb
 refine Wc.seq fun K26 hK26 => ?_
 refine rg ?_
 refine lp (.bool (decide (v21_1 < (list_1.length : Int)))) (pu_lss (k := .i64) (a := v21_1) (b := (list_1.length : Int)) e21 e20) ?_
 refine ln ?_
 refine hK26 _ _ ?_
 refine Wc.seq fun K27 hK27 => ?_
 refine Wc.cond (t := (decide (v21_1 < (list_1.length : Int)))) (rfl) (fun hq28 => ?_) (fun hq28 => ?_)
 replace hb := tt hq28 hb
 refine Wc.skip ?_
 refine hK27 _ _ ?_
 refine Wc.seq fun K29 hK29 => ?_
 refine Wc.block ?_
 refine Wc.seq fun K30 hK30 => ?_
 refine rg ?_
 refine lp (.int .i64 v21_1) (pu_move e21) ?_
 obtain ⟨x31, h32, hb⟩ := bd hb
 obtain ⟨ad33, cs34, hA, hc35, hr36⟩ := hC.elr (i := 4) rfl (get_some h32).2
 subst hA
 refine lp (.pointer (some (ad33.add (v21_1.toNat * 2)))) (pu_index (a := v21_1) Try.underlying56 Try.sizeOf58 e19 e21 (get_some h32).1) ?_
 obtain ⟨k37, k38, rfl, hr39, hr40⟩ := hr36
 obtain ⟨rfl, hr39⟩ := hr39
 obtain ⟨rfl, hr40⟩ := hr40
 refine lv (.agg #[.int .i64 x31.1, .int .i64 x31.2]) (ld_agg Try.isAgg58 Try.sizeOf58 rfl rfl hc35) ?_
 refine lex.op (hC.alloc (cs := [.int .i64 0, .int .i64 0]) Try.zeroValue58 rfl) ?_
 rintro _ w42 ⟨g41, rfl, hC, hF, hG⟩
 clear hG
 refine lp (.int .i64 v21_1) (pu_assign rfl) ?_
 refine lex.sk (hC.seta (i := 0) (ds := [.int .i64 x31.1, .int .i64 x31.2]) rfl Try.type58 rfl rfl rfl rfl rfl) ?_
 rintro w44 ⟨hC, hF⟩
 refine ln ?_
 refine hK30 _ _ ?_
 refine Wc.seq fun K45 hK45 => ?_
 refine Wc.regionMix [] (frm [] ([] : List Fact) ([] : List Fact)) (fun _ => rfl) mixed (by decide +kernel) (by decide +kernel) fun w47 hw46 => ?_
 replace hC := hC.step (Fr.of_drew hw46)
 have hM := Fr.refl (fun k => k ∈ blocks ([] : List Fact)) w47
 clear hw46
 have hS := hC
 refine mixE.load hM (v := .slice (some ad33) list_1.length clist_1) (fun _ hF => ld_one Try.isAgg56 e3 ((hS.bx2 (i := 4) rfl [] (by decide) hF).cell (j := 0) rfl)) ?_
 refine mp (.func (.func 69) #[] #[.pointer (some ⟨g6, 0, none⟩)]) (pu_move e4) ?_
 refine mp (.int .i64 v21_1) (pu_move rfl) ?_
 replace hC : Cx I O0 w w47 ([.box g6 56 [.slice (some ad33) list_1.length clist_1]] ++ [.box g41 58 [.int .i64 x31.1, .int .i64 x31.2], .box gd_0 28 [.slice Ad_0_0 d_0_0.length cd_0_0, .slice Ad_0_1 d_0_1.length cd_0_1, .int .i64 bf1_2_0], .ro (.sl (.int .i64)) [.slice Ad_0_0 d_0_0.length cd_0_0] d_0_0, .own 3 (.int .i64) (.slice Ad_0_1 d_0_1.length cd_0_1) qf3_1, .ro (.sl (.pr (.int .i64) (.int .i64))) [.slice (some ad33) list_1.length clist_1] list_1]) := hC.sel [4, 0, 1, 2, 3, 5] (by decide)
 obtain ⟨y48, h49, hb⟩ := bd hb
 refine mixE.cl hM (⟨_, _, op_callv (vs := [.int .i64 v21_1, .pointer (some ⟨g6, 0, none⟩)]) (ca := #[.pointer (some ⟨g6, 0, none⟩)]) Try.call69 rfl rfl rfl, gridlink_join_c1_ok n hC.lt hrv21_1 (hC.rd (i := 5) rfl) hC.give h49⟩) ?_
 rintro _ w51 ⟨rfl, hr50, hK⟩
 replace hM := hM.none (Cx.still (hC.bx (i := 0) rfl) hK)
 refine ⟨hM, ?_⟩
 replace hC := hC.back hK
 clear hK
 obtain ⟨x52, h53, hb⟩ := bd hb
 obtain ⟨ad54, cs55, hA, ho58, hc56, hr57⟩ := hS.elr2 (i := 5) rfl (get_some h53).2 []
 obtain rfl := Option.some.inj hA
 refine mp (.pointer (some (ad33.add (y48.toNat * 2)))) (pu_index (a := y48) Try.underlying56 Try.sizeOf58 rfl rfl (get_some h53).1) ?_
 obtain ⟨k59, k60, rfl, hr61, hr62⟩ := hr57
 obtain ⟨rfl, hr61⟩ := hr61
 obtain ⟨rfl, hr62⟩ := hr62
 refine mp (.pointer (some ((ad33.add (y48.toNat * 2)).add 0))) (pu_field (A := (ad33.add (y48.toNat * 2))) (off := 0) (sz := 1) Try.underlying58 rfl Try.sizeOf3 (by decide) rfl rfl) ?_
 refine mixE.load hM (v := .int .i64 x52.1) (fun _ hF => ld_one Try.isAgg3 rfl (hF.cell (hc56 0 _ rfl) (off2 ho58))) ?_
 refine mp (.int .i64 x52.1) (pu_assign rfl) ?_
 refine mixE.nil ?_
 clear hS hM
 refine hK45 _ _ ?_
 refine Wc.fresh fun E63 hE => ?_
 have e0 := (congrFun hE 0).trans e0
 have e3 := (congrFun hE 3).trans e3
 have e4 := (congrFun hE 4).trans e4
 have e5 : E63 5 = .int .i64 v21_1 := (congrFun hE 5).trans rfl
 have e6 : E63 6 = .pointer (some ⟨g41, 0, none⟩) := (congrFun hE 6).trans rfl
 have e7 : E63 7 = .int .i64 x52.1 := (congrFun hE 7).trans rfl
 have e19 := (congrFun hE 19).trans e19
 have e20 := (congrFun hE 20).trans e20
 have e21 := (congrFun hE 21).trans e21
 have e22 : E63 22 = .bool (decide (v21_1 < (list_1.length : Int))) := (congrFun hE 22).trans rfl
 clear hE
 refine Wc.regionMix [36, 38, 42, 46] (frm [36, 38, 42, 46] ([] : List Fact) [.own 3 (.int .i64) (.slice Ad_0_1 d_0_1.length cd_0_1) qf3_1]) (fun _ => rfl) mixed (by decide +kernel) (by decide +kernel) fun w65 hw64 => ?_
 replace hC := hC.step (Fr.of_drew hw64)
 have hM := Fr.refl (fun k => k ∈ blocks ([] : List Fact)) w65
 clear hw64
 have hS := hC
 have hD : Fr (fun k => k ∈ blocks (([] : List Fact) ++ [.own 3 (.int .i64) (.slice Ad_0_1 d_0_1.length cd_0_1) qf3_1])) w65 w65 := hM.wide
 have hUf3 : Beside (([] : List Fact) ++ [.own 3 (.int .i64) (.slice Ad_0_1 d_0_1.length cd_0_1) qf3_1]) w65 (.slice Ad_0_1 d_0_1.length cd_0_1) := Beside.of (i := 0) rfl
 refine mp (.pointer (some ⟨gd_0, 0, none⟩)) (pu_move e0) ?_
 refine mp (.pointer (some ⟨gd_0, 0, none⟩)) (pu_nilp rfl) ?_
 refine mp (.pointer (some ((⟨gd_0, 0, none⟩ : Addr).add 1))) (pu_field (sz := 1) Try.underlying28 rfl Try.sizeOf22 (by decide) rfl rfl) ?_
 refine mixE.steady hD (v := .slice Ad_0_1 d_0_1.length cd_0_1) (fun _ hF => ld_fld (hS.bx2 (i := 2) rfl [4] (by decide) hF) Try.isAgg22 rfl rfl) ?_
 refine mp (.pointer (some ((⟨g41, 0, none⟩ : Addr).add 1))) (pu_field (sz := 1) Try.underlying58 rfl Try.sizeOf3 (by decide) rfl e6) ?_
 refine mixE.steady hD (v := .int .i64 x31.2) (fun _ hF => ld_fld (hS.bx2 (i := 1) rfl [4] (by decide) hF) Try.isAgg3 rfl rfl) ?_
 refine mp (.pointer (some ⟨gd_0, 0, none⟩)) (pu_move e0) ?_
 refine mp (.pointer (some ⟨gd_0, 0, none⟩)) (pu_nilp rfl) ?_
 refine mp (.pointer (some ((⟨gd_0, 0, none⟩ : Addr).add 1))) (pu_field (sz := 1) Try.underlying28 rfl Try.sizeOf22 (by decide) rfl rfl) ?_
 refine mixE.steady hD (v := .slice Ad_0_1 d_0_1.length cd_0_1) (fun _ hF => ld_fld (hS.bx2 (i := 2) rfl [4] (by decide) hF) Try.isAgg22 rfl rfl) ?_
 refine mp (.int .i64 x52.1) (pu_move e7) ?_
 refine mp (.int .i64 x52.1) (pu_move e7) ?_
 refine mp (.pointer (some ((⟨g41, 0, none⟩ : Addr).add 1))) (pu_field (sz := 1) Try.underlying58 rfl Try.sizeOf3 (by decide) rfl e6) ?_
 refine mixE.steady hD (v := .int .i64 x31.2) (fun _ hF => ld_fld (hS.bx2 (i := 1) rfl [4] (by decide) hF) Try.isAgg3 rfl rfl) ?_
 obtain ⟨x66, h67, hb⟩ := bd hb
 obtain ⟨ad68, cs69, hA, ho72, hc70, hr71⟩ := hS.elo2 (i := 4) rfl (get_some h67).2 [] (by decide)
 subst hA
 refine mp (.pointer (some (ad68.add (x31.2.toNat * 1)))) (pu_index (a := x31.2) Try.underlying22 Try.sizeOf3 rfl rfl (by rw [(hC.ow (i := 4) rfl).sl_len.1]; exact (get_some h67).1)) ?_
 refine mixE.sk hD (hC.put (i := 4) rfl rfl Try.sizeOf3 (k := x31.2.toNat) (a := x52.1) (by have := (get_some h67).1; simp at this ⊢; omega) (⟨rfl, I64.wr (wrap_I64 hr61)⟩) rfl rfl rfl) ?_
 rintro w73 ⟨hC, hF⟩
 replace hD := hD.beside hUf3 hF
 clear hF
 refine ⟨hD, ?_⟩
 obtain ⟨x74, h75, hb⟩ := bd hb
 obtain ⟨ad76, cs77, hA, hc78, hr79⟩ := hC.elo (i := 4) rfl (get_some h75).2
 obtain rfl := Option.some.inj hA
 refine mp (.pointer (some (ad68.add (x52.1.toNat * 1)))) (pu_index (a := x52.1) Try.underlying22 Try.sizeOf3 rfl rfl (by rw [(hC.ow (i := 4) rfl).sl_len.1]; exact (get_some h75).1)) ?_
 refine mixE.sk hD (hC.put (i := 4) rfl rfl Try.sizeOf3 (k := x52.1.toNat) (a := x31.2) (by have := (get_some h75).1; simp at this ⊢; omega) (⟨rfl, I64.wr (wrap_I64 hr40)⟩) rfl rfl rfl) ?_
 rintro w80 ⟨hC, hF⟩
 replace hD := hD.beside hUf3 hF
 clear hF
 refine ⟨hD, ?_⟩
 refine mixE.nil ?_
 clear hS hM
 clear hD
 refine hK29 _ _ ?_
 refine rg ?_
 obtain ⟨z81, h82, hb⟩ := bd hb
 refine lp (.int .i64 z81) (pu_addc (a := v21_1) (b := 1) e21 rfl h82) ?_
 refine lp (.int .i64 z81) (pu_move rfl) ?_
 refine ln ?_
 obtain rfl := os hb
 exact hK21 m22' _ _ (Nat.lt_succ_self _) ⟨z81, ((qf3_1.set x31.2.toNat x52.1).set x52.1.toNat x31.2), e0, e3, e4, e19, e20, rfl, (chk_rng h82), hC.sel [2, 3, 4, 0, 5] (by decide), lN hl1⟩
 replace hb := tf hq28 hb
 refine Wc.exit rfl ?_
 obtain rfl := os hb
 obtain rfl := (lX hl1).symm
 exact hK20 _ _ ⟨v21_1, qf3_1, hrv21_1, hC.sel [2, 0, 1] (by decide), hbK1⟩
 clear hb hC hl1
 rintro E84 w83 ⟨v21_1, qf3_1, hrv21_1, hC, hb⟩
 obtain rfl := os hb
 subst hI
 refine hKR _ _ ?_
 refine ⟨_, res0 Try.results41, _, rfl, rfl, hrbf1_2_0, hC.sel [0, 1] (by decide)⟩

set_option maxRecDepth 100000 in
set_option maxHeartbeats 4000000 in
theorem gridlink_Diagram_ok (n : Nat) {w : World} {O0 : List Nat} (hO : ∀ k ∈ O0, k < w.heap.size) {Ag_0_0 : Option Addr} {mg_0_0 cg_0_0 : Nat} {g_0_0 : List Int} (hg_0_0 : Rep O0 w (.sl (.int .i64)) [.slice Ag_0_0 mg_0_0 cg_0_0] g_0_0) {Ag_0_1 : Option Addr} {mg_0_1 cg_0_1 : Nat} {g_0_1 : List Int} (hg_0_1 : Rep O0 w (.sl (.int .i64)) [.slice Ag_0_1 mg_0_1 cg_0_1] g_0_1) {r : (List Int) × (List Int) × Int × Int} (hb : F.gridlink_Diagram n g_0_0 g_0_1 = some r) :
    Calls Try.prog 13 #[.agg #[.slice Ag_0_0 mg_0_0 cg_0_0, .slice Ag_0_1 mg_0_1 cg_0_1]] w fun e w' => ∃ v, e = .returned v ∧ ∃ (A0 : Option Addr) (m0 c0 : Nat) (A1 : Option Addr) (m1 c1 : Nat), v = .tuple #[.agg #[.slice A0 m0 c0, .slice A1 m1 c1, .int .i64 r.2.2.1], .int .i64 r.2.2.2] ∧ I64 r.2.2.1 ∧ I64 r.2.2.2 ∧ Cx (fun _ => False) O0 w w' [.own 3 (.int .i64) (.slice A0 m0 c0) r.1, .own 3 (.int .i64) (.slice A1 m1 c1) r.2.1] := by
 unfold F.gridlink_Diagram at hb
 have hC := Cx.start hO
 replace hC := hC.arg rfl hg_0_0
 replace hC := hC.arg rfl hg_0_1
 clear hO
 obtain ⟨rfl, hlg_0_0, hcg_0_0⟩ := hg_0_0.sl_len
 obtain ⟨rfl, hlg_0_1, hcg_0_1⟩ := hg_0_1.sl_len
 refine calls_of_Wc Try.func13 rfl (by rw [Try.ntmps13]; exact Nat.le_of_ble_eq_true rfl) fun KR hKR => ?_
 refine Wc.seq fun K3 hK3 => ?_
 refine rg ?_
 refine lex.op (hC.box (cs := [.slice Ag_0_0 g_0_0.length cg_0_0, .slice Ag_0_1 g_0_1.length cg_0_1]) rfl rfl) ?_
 rintro _ w5 ⟨g4, rfl, hC, hF, hG⟩
 clear hG
 refine lex.op (hC.alloc (cs := [.slice none 0 0, .slice none 0 0, .int .i64 0]) Try.zeroValue28 rfl) ?_
 rintro _ w8 ⟨g7, rfl, hC, hF, hG⟩
 clear hG
 refine lp (.int .i64 0) (pu_assign rfl) ?_
 refine ln ?_
 refine hK3 _ _ ?_
 refine Wc.seq fun K10 hK10 => ?_
 refine Wc.seq fun K11 hK11 => ?_
 refine rg ?_
 refine lv (.agg #[.slice Ag_0_0 g_0_0.length cg_0_0, .slice Ag_0_1 g_0_1.length cg_0_1]) (ld_blk (hC.bx (i := 1) rfl) Try.isAgg24 Try.sizeOf24 rfl) ?_
 obtain ⟨y12, h13, hb⟩ := bd hb
 refine lex.cl (⟨_, _, op_call (vs := [.agg #[.slice Ag_0_0 g_0_0.length cg_0_0, .slice Ag_0_1 g_0_1.length cg_0_1]]) Try.call26 rfl rfl rfl, grid_Valid_ok n hC.lt (hC.rd (i := 3) rfl) (hC.rd (i := 2) rfl) h13⟩) ?_
 rintro _ w14 ⟨rfl, hK⟩
 replace hC := hC.merge hK
 clear hK
 refine lp (.bool (!y12)) (pu_not (q := y12) rfl) ?_
 refine ln ?_
 refine hK11 _ _ ?_
 refine Wc.cond (t := (!y12)) (rfl) (fun hq15 => ?_) (fun hq15 => ?_)
 replace hb := tt hq15 hb
 refine Wc.seq fun K16 hK16 => ?_
 refine rg ?_
 refine lp (.agg #[.slice none 0 0, .slice none 0 0, .int .i64 0]) (pu_builds (places := [(0, 1), (1, 1), (2, 1)]) (pv := []) Try.type28 Try.underlying28 rfl (mp_cons Try.type22 (mp_cons Try.type22 (mp_cons Try.type3 mp_nil rfl rfl) rfl rfl) rfl rfl) rfl (by simp [Instr.fill, Value.cells])) ?_
 refine lex.sk (hC.seta (i := 0) (ds := [.slice none 0 0, .slice none 0 0, .int .i64 0]) rfl Try.type28 rfl rfl rfl rfl rfl) ?_
 rintro w17 ⟨hC, hF⟩
 refine lp (.int .i64 1) (pu_assign rfl) ?_
 refine ln ?_
 refine hK16 _ _ ?_
 replace hC := hC.nil 3 (.int .i64)
 replace hC := hC.nil 3 (.int .i64)
 obtain rfl := os hb
 refine Wc.ret ?_
 refine hKR _ _ ?_
 refine ⟨_, res2 Try.results13 ⟨_, rfl, loadVar_blk (hC.bx (i := 2) rfl) Try.isAgg28 Try.sizeOf28⟩ (show RV _ _ _ (.tmp _) (.int .i64 1) from rfl), _, rfl, none, 0, 0, none, 0, 0, rfl, (show I64 0 from by unfold I64; omega), (show I64 1 from by unfold I64; omega), hC.sel [1, 0] (by decide)⟩
 replace hb := tf hq15 hb
 refine Wc.skip ?_
 refine hK10 _ _ ?_
 refine Wc.seq fun K20 hK20 => ?_
 refine rg ?_
 refine lv (.agg #[.slice Ag_0_0 g_0_0.length cg_0_0, .slice Ag_0_1 g_0_1.length cg_0_1]) (ld_blk (hC.bx (i := 1) rfl) Try.isAgg24 Try.sizeOf24 rfl) ?_
 obtain ⟨y21, h22, hb⟩ := bd hb
 refine lex.cl (⟨_, _, op_call (vs := [.agg #[.slice Ag_0_0 g_0_0.length cg_0_0, .slice Ag_0_1 g_0_1.length cg_0_1]]) Try.call27 rfl rfl rfl, grid_Crossings_ok n hC.lt (hC.rd (i := 3) rfl) (hC.rd (i := 2) rfl) h22⟩) ?_
 rintro _ w27 ⟨A23, m24, c25, rfl, hK⟩
 replace hC := hC.merge hK
 clear hK
 obtain ⟨rfl, hl28, hc29⟩ := (hC.ow (i := 0) rfl).sl_len
 refine lp (.slice A23 y21.length c25) (pu_assign rfl) ?_
 refine ln ?_
 refine hK20 _ _ ?_
 refine Wc.seq fun K30 hK30 => ?_
 refine Wc.seq fun K31 hK31 => ?_
 refine rg ?_
 refine lp (.slice A23 y21.length c25) (pu_move rfl) ?_
 refine lp (.int .i64 (y21.length : Int)) (pu_len (A := A23) (n := y21.length) (m := c25) Try.underlying33 rfl) ?_
 refine lp (.bool (decide (64 < (y21.length : Int)))) (pu_gtr (k := .i64) (a := (y21.length : Int)) (b := 64) rfl rfl) ?_
 refine ln ?_
 refine hK31 _ _ ?_
 refine Wc.fresh fun E32 hE => ?_
 have e1 : E32 1 = .pointer (some ⟨g4, 0, none⟩) := (congrFun hE 1).trans rfl
 have e2 : E32 2 = .pointer (some ⟨g7, 0, none⟩) := (congrFun hE 2).trans rfl
 have e3 : E32 3 = .int .i64 0 := (congrFun hE 3).trans rfl
 have e4 : E32 4 = .slice A23 y21.length c25 := (congrFun hE 4).trans rfl
 have e26 : E32 26 = .bool (decide (64 < (y21.length : Int))) := (congrFun hE 26).trans rfl
 clear hE
 refine Wc.cond (t := (decide (64 < (y21.length : Int)))) (e26) (fun hq33 => ?_) (fun hq33 => ?_)
 replace hb := tt hq33 hb
 refine Wc.seq fun K34 hK34 => ?_
 refine rg ?_
 refine lp (.agg #[.slice none 0 0, .slice none 0 0, .int .i64 0]) (pu_builds (places := [(0, 1), (1, 1), (2, 1)]) (pv := []) Try.type28 Try.underlying28 rfl (mp_cons Try.type22 (mp_cons Try.type22 (mp_cons Try.type3 mp_nil rfl rfl) rfl rfl) rfl rfl) rfl (by simp [Instr.fill, Value.cells])) ?_
 refine lex.sk (hC.seta (i := 1) (ds := [.slice none 0 0, .slice none 0 0, .int .i64 0]) rfl Try.type28 rfl rfl rfl e2 rfl) ?_
 rintro w35 ⟨hC, hF⟩
 refine lp (.int .i64 5) (pu_assign rfl) ?_
 refine ln ?_
 refine hK34 _ _ ?_
 replace hC := hC.nil 3 (.int .i64)
 replace hC := hC.nil 3 (.int .i64)
 obtain rfl := os hb
 refine Wc.ret ?_
 refine hKR _ _ ?_
 refine ⟨_, res2 Try.results13 ⟨_, e2, loadVar_blk (hC.bx (i := 3) rfl) Try.isAgg28 Try.sizeOf28⟩ (show RV _ _ _ (.tmp _) (.int .i64 5) from rfl), _, rfl, none, 0, 0, none, 0, 0, rfl, (show I64 0 from by unfold I64; omega), (show I64 5 from by unfold I64; omega), hC.sel [1, 0] (by decide)⟩
 replace hb := tf hq33 hb
 refine Wc.skip ?_
 refine hK30 _ _ ?_
 refine Wc.seq fun K38 hK38 => ?_
 refine rg ?_
 refine lv (.agg #[.slice Ag_0_0 g_0_0.length cg_0_0, .slice Ag_0_1 g_0_1.length cg_0_1]) (ld_blk (hC.bx (i := 2) rfl) Try.isAgg24 Try.sizeOf24 e1) ?_
 refine lp (.slice A23 y21.length c25) (pu_move e4) ?_
 replace hC := hC.freeze (i := 0) rfl (hC.own_new (i := 0) rfl)
 obtain ⟨y39, h40, hb⟩ := bd hb
 refine lex.cl (⟨_, _, op_call (vs := [.agg #[.slice Ag_0_0 g_0_0.length cg_0_0, .slice Ag_0_1 g_0_1.length cg_0_1], .slice A23 y21.length c25]) Try.call37 rfl rfl rfl, gridlink_segments_ok n hC.lt (hC.rd (i := 4) rfl) (hC.rd (i := 3) rfl) (hC.rd (i := 0) rfl) h40⟩) ?_
 rintro _ w53 ⟨A41, m42, c43, A45, m46, c47, A49, m50, c51, rfl, hK⟩
 replace hC := hC.merge hK
 clear hK
 obtain ⟨rfl, hl54, hc55⟩ := (hC.ow (i := 0) rfl).sl_len
 obtain ⟨rfl, hl56, hc57⟩ := (hC.rd (i := 1) rfl).sl_len
 obtain ⟨rfl, hl58, hc59⟩ := (hC.rd (i := 2) rfl).sl_len
 refine lp (.tuple #[.slice A41 y39.1.length c43, .slice A45 y39.2.1.length c47, .slice A49 y39.2.2.length c51]) (pu_move rfl) ?_
 refine lp (.slice A41 y39.1.length c43) (pu_extract rfl rfl) ?_
 refine lp (.slice A45 y39.2.1.length c47) (pu_extract rfl rfl) ?_
 refine lp (.slice A49 y39.2.2.length c51) (pu_extract rfl rfl) ?_
 refine lex.op (hC.alloc (cs := [.slice none 0 0]) Try.zeroValue51 rfl) ?_
 rintro _ w61 ⟨g60, rfl, hC, hF, hG⟩
 clear hG
 refine lex.op (hC.alloc (cs := [.slice none 0 0]) Try.zeroValue51 rfl) ?_
 rintro _ w64 ⟨g63, rfl, hC, hF, hG⟩
 clear hG
 refine lp (.slice A41 y39.1.length c43) (pu_assign rfl) ?_
 refine lex.sk (hC.setf (i := 1) (k := 0) (v := .slice A45 y39.2.1.length c47) rfl Try.sizeOf51 rfl (by rw [Addr.add_zero']; exact rfl) rfl rfl) ?_
 rintro w66 ⟨hC, hF⟩
 refine lex.sk (hC.setf (i := 0) (k := 0) (v := .slice A49 y39.2.2.length c51) rfl Try.sizeOf51 rfl (by rw [Addr.add_zero']; exact rfl) rfl rfl) ?_
 rintro w67 ⟨hC, hF⟩
 refine ln ?_
 refine hK38 _ _ ?_
 refine Wc.fresh fun E68 hE => ?_
 have e1 := (congrFun hE 1).trans e1
 have e2 := (congrFun hE 2).trans e2
 have e3 := (congrFun hE 3).trans e3
 have e4 := (congrFun hE 4).trans e4
 have e5 : E68 5 = .slice A41 y39.1.length c43 := (congrFun hE 5).trans rfl
 have e6 : E68 6 = .pointer (some ⟨g60, 0, none⟩) := (congrFun hE 6).trans rfl
 have e7 : E68 7 = .pointer (some ⟨g63, 0, none⟩) := (congrFun hE 7).trans rfl
 clear hE
 refine Wc.seq fun K69 hK69 => ?_
 refine rg ?_
 refine lp (.slice A41 y39.1.length c43) (pu_move e5) ?_
 refine lp (.slice A23 y21.length c25) (pu_move e4) ?_
 refine lp (.int .i64 (y21.length : Int)) (pu_len (A := A23) (n := y21.length) (m := c25) Try.underlying33 rfl) ?_
 obtain ⟨z70, h71, hb⟩ := bd hb
 refine lp (.int .i64 z70) (pu_mulc (a := 4) (b := (y21.length : Int)) rfl rfl h71) ?_
 obtain ⟨u72, h73, hb⟩ := bd hb
 refine lex.op (hC.make (s := (.int .i64)) (n := z70) Try.underlying22 Try.type3 rfl rfl rfl rfl rfl (pos_some h73).1 (pos_some h73).2 (by decide)) ?_
 rintro _ w78 ⟨A74, c75, rfl, hl76, hc77, hC, hF, hN⟩
 clear hF hN
 refine lp (.agg #[.slice A41 y39.1.length c43, .slice A74 (((List.replicate z70.toNat (0 : Int))).length) c75, .int .i64 0]) (pu_builds (places := [(0, 1), (1, 1), (2, 1)]) (pv := [(0, .slice A41 y39.1.length c43), (1, .slice A74 (((List.replicate z70.toNat (0 : Int))).length) c75)]) Try.type28 Try.underlying28 rfl (mp_cons Try.type22 (mp_cons Try.type22 (mp_cons Try.type3 mp_nil rfl rfl) rfl rfl) rfl rfl) rfl (by simp [Instr.fill, Value.cells])) ?_
 refine lex.op (hC.alloc (cs := [.slice none 0 0, .slice none 0 0, .int .i64 0]) Try.zeroValue28 rfl) ?_
 rintro _ w81 ⟨g80, rfl, hC, hF, hG⟩
 clear hG
 refine lex.sk (hC.seta (i := 0) (ds := [.slice A41 y39.1.length c43, .slice A74 (((List.replicate z70.toNat (0 : Int))).length) c75, .int .i64 0]) rfl Try.type28 rfl rfl rfl rfl rfl) ?_
 rintro w83 ⟨hC, hF⟩
 refine ln ?_
 refine hK69 _ _ ?_
 refine Wc.seq fun K84 hK84 => ?_
 refine rg ?_
 refine lp (.pointer (some ((⟨g4, 0, none⟩ : Addr).add 0))) (pu_field (sz := 1) Try.underlying24 rfl Try.sizeOf22 (by decide) rfl e1) ?_
 refine lv (.slice Ag_0_0 g_0_0.length cg_0_0) (ld_fld (hC.bx (i := 9) rfl) Try.isAgg22 rfl rfl) ?_
 obtain ⟨y85, h86, hb⟩ := bd hb
 refine lex.cl (⟨_, _, op_call (vs := [.slice Ag_0_0 g_0_0.length cg_0_0]) Try.call38 rfl rfl rfl, gridlink_inverse_ok n hC.lt (hC.rd (i := 11) rfl) h86⟩) ?_
 rintro _ w91 ⟨A87, m88, c89, rfl, hK⟩
 replace hC := hC.merge hK
 clear hK
 obtain ⟨rfl, hl92, hc93⟩ := (hC.ow (i := 0) rfl).sl_len
 refine lex.op (hC.alloc (cs := [.slice none 0 0]) Try.zeroValue22 rfl) ?_
 rintro _ w95 ⟨g94, rfl, hC, hF, hG⟩
 clear hG
 refine lex.sk (hC.setf (i := 0) (k := 0) (v := .slice A87 y85.length c89) rfl Try.sizeOf22 rfl (by rw [Addr.add_zero']; exact rfl) rfl rfl) ?_
 rintro w97 ⟨hC, hF⟩
 refine ln ?_
 refine hK84 _ _ ?_
 refine Wc.fresh fun E98 hE => ?_
 have e1 := (congrFun hE 1).trans e1
 have e2 := (congrFun hE 2).trans e2
 have e3 := (congrFun hE 3).trans e3
 have e6 := (congrFun hE 6).trans e6
 have e7 := (congrFun hE 7).trans e7
 have e8 : E98 8 = .pointer (some ⟨g80, 0, none⟩) := (congrFun hE 8).trans rfl
 have e9 : E98 9 = .pointer (some ⟨g94, 0, none⟩) := (congrFun hE 9).trans rfl
 clear hE
 refine Wc.seq fun K99 hK99 => ?_
 refine rg ?_
 refine lp (.pointer (some ((⟨g4, 0, none⟩ : Addr).add 0))) (pu_field (sz := 1) Try.underlying24 rfl Try.sizeOf22 (by decide) rfl e1) ?_
 refine lv (.slice Ag_0_0 g_0_0.length cg_0_0) (ld_fld (hC.bx (i := 11) rfl) Try.isAgg22 rfl rfl) ?_
 refine lp (.int .i64 (g_0_0.length : Int)) (pu_len (A := Ag_0_0) (n := g_0_0.length) (m := cg_0_0) Try.underlying22 rfl) ?_
 obtain ⟨u100, h101, hb⟩ := bd hb
 refine lex.op (hC.make (s := .bool) (n := (g_0_0.length : Int)) Try.underlying55 Try.type4 rfl rfl rfl rfl rfl (pos_some h101).1 (pos_some h101).2 (by decide)) ?_
 rintro _ w106 ⟨A102, c103, rfl, hl104, hc105, hC, hF, hN⟩
 clear hF hN
 refine lex.op (hC.alloc (cs := [.slice none 0 0]) Try.zeroValue55 rfl) ?_
 rintro _ w109 ⟨g108, rfl, hC, hF, hG⟩
 clear hG
 refine lex.sk (hC.setf (i := 0) (k := 0) (v := .slice A102 (((List.replicate (g_0_0.length : Int).toNat false)).length) c103) rfl Try.sizeOf55 rfl (by rw [Addr.add_zero']; exact rfl) rfl rfl) ?_
 rintro w111 ⟨hC, hF⟩
 refine ln ?_
 refine hK99 _ _ ?_
 refine Wc.seq fun K112 hK112 => ?_
 refine Wc.seq fun K113 hK113 => ?_
 refine rg ?_
 refine lp (.pointer (some ((⟨g4, 0, none⟩ : Addr).add 0))) (pu_field (sz := 1) Try.underlying24 rfl Try.sizeOf22 (by decide) rfl e1) ?_
 refine lv (.slice Ag_0_0 g_0_0.length cg_0_0) (ld_fld (hC.bx (i := 13) rfl) Try.isAgg22 rfl rfl) ?_
 refine lp (.int .i64 (g_0_0.length : Int)) (pu_len (A := Ag_0_0) (n := g_0_0.length) (m := cg_0_0) Try.underlying22 rfl) ?_
 refine lp (.int .i64 0) (pu_move rfl) ?_
 refine ln ?_
 refine hK113 _ _ ?_
 replace hC := hC.freeze (i := 3) rfl (hC.own_new (i := 3) rfl)
 obtain ⟨o114, hl0, hb⟩ := bd hb
 refine Wc.cut (fun E wv => ∃ (v51_0 : Int) (qf79_0 : List Int) (bf82_2_0 : Int) (kf96_0_0 : List Int) (qf107_0 : List Bool) (Akf96_0_0 : Option Addr) (mkf96_0_0 ckf96_0_0 : Nat), E 2 = .pointer (some ⟨g7, 0, none⟩) ∧ E 3 = .int .i64 0 ∧ E 8 = .pointer (some ⟨g80, 0, none⟩) ∧ I64 v51_0 ∧ I64 bf82_2_0 ∧ Cx (fun _ => False) O0 w wv [.box g7 28 [.slice none 0 0, .slice none 0 0, .int .i64 0], .box g80 28 [.slice A41 y39.1.length c43, .slice A74 (((List.replicate z70.toNat (0 : Int))).length) c75, .int .i64 bf82_2_0], .own 3 (.int .i64) (.slice A41 y39.1.length c43) y39.1, .own 3 (.int .i64) (.slice A74 (((List.replicate z70.toNat (0 : Int))).length) c75) qf79_0] ∧ (some (y39.1, qf79_0, bf82_2_0, 0) : Option ((List Int) × (List Int) × Int × Int)) = some r) (fun K115 hK115 => ?_) ?_
 refine Wc.block ?_
 refine Wc.loop (fun m E wv => ∃ (v51_0 : Int) (qf79_0 : List Int) (bf82_2_0 : Int) (kf96_0_0 : List Int) (qf107_0 : List Bool) (Akf96_0_0 : Option Addr) (mkf96_0_0 ckf96_0_0 : Nat), E 1 = .pointer (some ⟨g4, 0, none⟩) ∧ E 2 = .pointer (some ⟨g7, 0, none⟩) ∧ E 3 = .int .i64 0 ∧ E 6 = .pointer (some ⟨g60, 0, none⟩) ∧ E 7 = .pointer (some ⟨g63, 0, none⟩) ∧ E 8 = .pointer (some ⟨g80, 0, none⟩) ∧ E 9 = .pointer (some ⟨g94, 0, none⟩) ∧ E 10 = .pointer (some ⟨g108, 0, none⟩) ∧ E 50 = .int .i64 (g_0_0.length : Int) ∧ E 51 = .int .i64 v51_0 ∧ I64 v51_0 ∧ I64 bf82_2_0 ∧ Cx (fun _ => False) O0 w wv [.box g4 24 [.slice Ag_0_0 g_0_0.length cg_0_0, .slice Ag_0_1 g_0_1.length cg_0_1], .ro (.sl (.int .i64)) [.slice Ag_0_0 g_0_0.length cg_0_0] g_0_0, .ro (.sl (.int .i64)) [.slice Ag_0_1 g_0_1.length cg_0_1] g_0_1, .box g7 28 [.slice none 0 0, .slice none 0 0, .int .i64 0], .box g60 51 [.slice A45 y39.2.1.length c47], .ro (.sl (.sl (.pr (.int .i64) (.int .i64)))) [.slice A45 y39.2.1.length c47] y39.2.1, .box g63 51 [.slice A49 y39.2.2.length c51], .ro (.sl (.sl (.pr (.int .i64) (.int .i64)))) [.slice A49 y39.2.2.length c51] y39.2.2, .box g80 28 [.slice A41 y39.1.length c43, .slice A74 (((List.replicate z70.toNat (0 : Int))).length) c75, .int .i64 bf82_2_0], .own 3 (.int .i64) (.slice A41 y39.1.length c43) y39.1, .own 3 (.int .i64) (.slice A74 (((List.replicate z70.toNat (0 : Int))).length) c75) qf79_0, .box g94 22 [.slice Akf96_0_0 mkf96_0_0 ckf96_0_0], .ro (.sl (.int .i64)) [.slice Akf96_0_0 mkf96_0_0 ckf96_0_0] kf96_0_0, .box g108 55 [.slice A102 (((List.replicate (g_0_0.length : Int).toNat false)).length) c103], .own 4 .bool (.slice A102 (((List.replicate (g_0_0.length : Int).toNat false)).length) c103) qf107_0] ∧ loopN m (F.gridlink_Diagram_b0 n g_0_0 g_0_1 y39) (v51_0, qf79_0, bf82_2_0, kf96_0_0, qf107_0) = some o114) n ⟨0, (List.replicate z70.toNat (0 : Int)), 0, y85, (List.replicate (g_0_0.length : Int).toNat false), A87, y85.length, c89, e1, e2, e3, e6, e7, e8, e9, rfl, rfl, rfl, (show I64 0 from by unfold I64; omega), (show I64 0 from by unfold I64; omega), hC.sel [13, 15, 14, 12, 7, 9, 6, 10, 4, 8, 5, 2, 3, 0, 1] (by decide), hl0⟩ ?_
 have hbK0 := hb
 clear hb hC hl0
 rintro m117 E119 w118 ⟨v51_0, qf79_0, bf82_2_0, kf96_0_0, qf107_0, Akf96_0_0, mkf96_0_0, ckf96_0_0, e1, e2, e3, e6, e7, e8, e9, e10, e50, e51, hrv51_0, hrbf82_2_0, hC, hl0⟩ K116 hK116
 obtain ⟨m117', o120, rfl, hb, hl0⟩ := loopN_some hl0
 unfold F.gridlink_Diagram_b0 at hb
 obtain ⟨rfl, hlkf96_0_0, hckf96_0_0⟩ := (hC.rd (i := 12) rfl).sl_len
 refine Wc.seq fun K121 hK121 => ?_
 refine rg ?_
 refine lp (.bool (decide (v51_0 < (g_0_0.length : Int)))) (pu_lss (k := .i64) (a := v51_0) (b := (g_0_0.length : Int)) e51 e50) ?_
 refine ln ?_
 refine hK121 _ _ ?_
 refine Wc.seq fun K122 hK122 => ?_
 refine Wc.cond (t := (decide (v51_0 < (g_0_0.length : Int)))) (rfl) (fun hq123 => ?_) (fun hq123 => ?_)
 replace hb := tt hq123 hb
 refine Wc.skip ?_
 refine hK122 _ _ ?_
 refine Wc.seq fun K124 hK124 => ?_
 refine Wc.block ?_
 refine Wc.seq fun K125 hK125 => ?_
 refine rg ?_
 refine lp (.int .i64 v51_0) (pu_move e51) ?_
 refine lp (.int .i64 v51_0) (pu_assign rfl) ?_
 refine ln ?_
 refine hK125 _ _ ?_
 refine Wc.seq fun K126 hK126 => ?_
 refine Wc.seq fun K127 hK127 => ?_
 refine rg ?_
 refine lv (.slice A102 (((List.replicate (g_0_0.length : Int).toNat false)).length) c103) (ld_one Try.isAgg55 e10 ((hC.bx (i := 13) rfl).cell (j := 0) rfl)) ?_
 refine lp (.int .i64 v51_0) (pu_move rfl) ?_
 obtain ⟨x128, h129, hb⟩ := bd hb
 obtain ⟨ad130, cs131, hA, hc132, hr133⟩ := hC.elo (i := 14) rfl (get_some h129).2
 subst hA
 refine lp (.pointer (some (ad130.add (v51_0.toNat * 1)))) (pu_index (a := v51_0) Try.underlying55 Try.sizeOf4 rfl rfl (by rw [(hC.ow (i := 14) rfl).sl_len.1]; exact (get_some h129).1)) ?_
 obtain rfl := (show _ = _ from hr133)
 refine lv (.bool x128) (ld_one Try.isAgg4 rfl (hc132 0 _ rfl)) ?_
 refine ln ?_
 refine hK127 _ _ ?_
 refine Wc.cond (t := x128) (rfl) (fun hq134 => ?_) (fun hq134 => ?_)
 replace hb := tt hq134 hb
 refine Wc.exit rfl ?_
 refine hK124 _ _ ?_
 refine rg ?_
 obtain ⟨z135, h136, hb⟩ := bd hb
 refine lp (.int .i64 z135) (pu_addc (a := v51_0) (b := 1) e51 rfl h136) ?_
 refine lp (.int .i64 z135) (pu_move rfl) ?_
 refine ln ?_
 obtain rfl := os hb
 exact hK116 m117' _ _ (Nat.lt_succ_self _) ⟨z135, qf79_0, bf82_2_0, kf96_0_0, qf107_0, Akf96_0_0, kf96_0_0.length, ckf96_0_0, e1, e2, e3, e6, e7, e8, e9, e10, e50, rfl, (chk_rng h136), hrbf82_2_0, hC.sel [0, 1, 2, 3, 4, 5, 6, 7, 8, 9, 10, 11, 12, 13, 14] (by decide), lN hl0⟩
 replace hb := tf hq134 hb
 refine Wc.skip ?_
 refine hK126 _ _ ?_
 refine Wc.seq fun K137 hK137 => ?_
 refine rg ?_
 refine lp (.int .i64 v51_0) (pu_move rfl) ?_
 refine lex.op (hC.alloc (cs := [.int .i64 0]) Try.zeroValue3 rfl) ?_
 rintro _ w139 ⟨g138, rfl, hC, hF, hG⟩
 clear hG
 refine lex.sk (hC.setf (i := 0) (k := 0) (v := .int .i64 v51_0) rfl Try.sizeOf3 rfl (by rw [Addr.add_zero']; exact rfl) rfl rfl) ?_
 rintro w141 ⟨hC, hF⟩
 refine ln ?_
 refine hK137 _ _ ?_
 refine Wc.seq fun K142 hK142 => ?_
 refine rg ?_
 refine lex.op (hC.alloc (cs := [.slice none 0 0]) Try.zeroValue56 rfl) ?_
 rintro _ w144 ⟨g143, rfl, hC, hF, hG⟩
 clear hG
 refine ln ?_
 refine hK142 _ _ ?_
 refine Wc.fresh fun E146 hE => ?_
 have e1 := (congrFun hE 1).trans e1
 have e2 := (congrFun hE 2).trans e2
 have e3 := (congrFun hE 3).trans e3
 have e6 := (congrFun hE 6).trans e6
 have e7 := (congrFun hE 7).trans e7
 have e8 := (congrFun hE 8).trans e8
 have e9 := (congrFun hE 9).trans e9
 have e10 := (congrFun hE 10).trans e10
 have e11 : E146 11 = .int .i64 v51_0 := (congrFun hE 11).trans rfl
 have e12 : E146 12 = .pointer (some ⟨g138, 0, none⟩) := (congrFun hE 12).trans rfl
 have e13 : E146 13 = .pointer (some ⟨g143, 0, none⟩) := (congrFun hE 13).trans rfl
 have e50 := (congrFun hE 50).trans e50
 have e51 := (congrFun hE 51).trans e51
 have e52 : E146 52 = .bool (decide (v51_0 < (g_0_0.length : Int))) := (congrFun hE 52).trans rfl
 have e57 : E146 57 = .bool x128 := (congrFun hE 57).trans rfl
 clear hE
 refine Wc.seq fun K147 hK147 => ?_
 refine rg ?_
 refine lp (.func (.func 39) #[] #[.pointer (some ⟨g143, 0, none⟩), .pointer (some ⟨g108, 0, none⟩), .pointer (some ⟨g138, 0, none⟩), .pointer (some ⟨g4, 0, none⟩), .pointer (some ⟨g60, 0, none⟩), .pointer (some ⟨g63, 0, none⟩), .pointer (some ⟨g94, 0, none⟩)]) (pu_funcc (map_of (m2_cons e13 (m2_cons e10 (m2_cons e12 (m2_cons e1 (m2_cons e6 (m2_cons e7 (m2_cons e9 m2_nil))))))))) ?_
 refine lp (.func (.func 39) #[] #[.pointer (some ⟨g143, 0, none⟩), .pointer (some ⟨g108, 0, none⟩), .pointer (some ⟨g138, 0, none⟩), .pointer (some ⟨g4, 0, none⟩), .pointer (some ⟨g60, 0, none⟩), .pointer (some ⟨g63, 0, none⟩), .pointer (some ⟨g94, 0, none⟩)]) (pu_assign rfl) ?_
 refine ln ?_
 refine hK147 _ _ ?_
 refine Wc.seq fun K148 hK148 => ?_
 refine rg ?_
 refine lp (.slice none 0 0) (pu_assign rfl) ?_
 refine ln ?_
 refine hK148 _ _ ?_
 refine Wc.seq fun K149 hK149 => ?_
 refine Wc.seq fun K150 hK150 => ?_
 refine rg ?_
 refine lp (.func (.func 39) #[] #[.pointer (some ⟨g143, 0, none⟩), .pointer (some ⟨g108, 0, none⟩), .pointer (some ⟨g138, 0, none⟩), .pointer (some ⟨g4, 0, none⟩), .pointer (some ⟨g60, 0, none⟩), .pointer (some ⟨g63, 0, none⟩), .pointer (some ⟨g94, 0, none⟩)]) (pu_move rfl) ?_
 replace hC : Cx (fun _ => False) O0 w w144 ([.own 4 .bool (.slice (some ad130) (((List.replicate (g_0_0.length : Int).toNat false)).length) c103) qf107_0, .box g143 56 [.slice none 0 0], .box g108 55 [.slice (some ad130) (((List.replicate (g_0_0.length : Int).toNat false)).length) c103], .box g138 3 [.int .i64 v51_0], .box g4 24 [.slice Ag_0_0 g_0_0.length cg_0_0, .slice Ag_0_1 g_0_1.length cg_0_1], .box g60 51 [.slice A45 y39.2.1.length c47], .box g63 51 [.slice A49 y39.2.2.length c51], .box g94 22 [.slice Akf96_0_0 kf96_0_0.length ckf96_0_0]] ++ [.ro (.sl (.int .i64)) [.slice Ag_0_0 g_0_0.length cg_0_0] g_0_0, .ro (.sl (.int .i64)) [.slice Ag_0_1 g_0_1.length cg_0_1] g_0_1, .box g7 28 [.slice none 0 0, .slice none 0 0, .int .i64 0], .ro (.sl (.sl (.pr (.int .i64) (.int .i64)))) [.slice A45 y39.2.1.length c47] y39.2.1, .ro (.sl (.sl (.pr (.int .i64) (.int .i64)))) [.slice A49 y39.2.2.length c51] y39.2.2, .box g80 28 [.slice A41 y39.1.length c43, .slice A74 (((List.replicate z70.toNat (0 : Int))).length) c75, .int .i64 bf82_2_0], .own 3 (.int .i64) (.slice A41 y39.1.length c43) y39.1, .own 3 (.int .i64) (.slice A74 (((List.replicate z70.toNat (0 : Int))).length) c75) qf79_0, .ro (.sl (.int .i64)) [.slice Akf96_0_0 kf96_0_0.length ckf96_0_0] kf96_0_0]) := hC.sel [16, 0, 15, 1, 2, 6, 8, 13, 3, 4, 5, 7, 9, 10, 11, 12, 14] (by decide)
 obtain ⟨y151, h152, hb⟩ := bd hb
 refine lex.cl (⟨_, _, op_callv (vs := [.pointer (some ⟨g143, 0, none⟩), .pointer (some ⟨g108, 0, none⟩), .pointer (some ⟨g138, 0, none⟩), .pointer (some ⟨g4, 0, none⟩), .pointer (some ⟨g60, 0, none⟩), .pointer (some ⟨g63, 0, none⟩), .pointer (some ⟨g94, 0, none⟩)]) (ca := #[.pointer (some ⟨g143, 0, none⟩), .pointer (some ⟨g108, 0, none⟩), .pointer (some ⟨g138, 0, none⟩), .pointer (some ⟨g4, 0, none⟩), .pointer (some ⟨g60, 0, none⟩), .pointer (some ⟨g63, 0, none⟩), .pointer (some ⟨g94, 0, none⟩)]) Try.call39 rfl rfl rfl, gridlink_Diagram_c1_ok n hC.lt ((show Rep _ _ (.sl (.pr (.int .i64) (.int .i64))) [.slice none 0 0] ([] : List (Int × Int)) from ⟨none, 0, rfl, Nat.le_refl _, by omega, fun h => absurd h (by simp)⟩)) hrv51_0 (hC.rd (i := 8) rfl) (hC.rd (i := 9) rfl) (hC.rd (i := 11) rfl) (hC.rd (i := 12) rfl) (hC.rd (i := 16) rfl) hC.give h152⟩) ?_
 rintro _ w160 ⟨A155, m156, c157, rfl, hr153, hr154, hr159, hK⟩
 replace hC := hC.back hK
 clear hK
 obtain ⟨rfl, hl161, hc162⟩ := (hC.rd (i := 1) rfl).sl_len
 refine lp (.tuple #[.agg #[.int .i64 y151.1, .int .i64 y151.2.1], .bool y151.2.2.1]) (pu_move rfl) ?_
 refine lp (.agg #[.int .i64 y151.1, .int .i64 y151.2.1]) (pu_extract rfl rfl) ?_
 refine lp (.bool y151.2.2.1) (pu_extract rfl rfl) ?_
 refine lex.op (hC.alloc (cs := [.int .i64 0, .int .i64 0]) Try.zeroValue58 rfl) ?_
 rintro _ w164 ⟨g163, rfl, hC, hF, hG⟩
 clear hG
 refine lex.sk (hC.seta (i := 0) (ds := [.int .i64 y151.1, .int .i64 y151.2.1]) rfl Try.type58 rfl rfl rfl rfl rfl) ?_
 rintro w166 ⟨hC, hF⟩
 refine lp (.bool y151.2.2.1) (pu_assign rfl) ?_
 refine ln ?_
 refine hK150 _ _ ?_
 refine Wc.fresh fun E167 hE => ?_
 have e1 := (congrFun hE 1).trans e1
 have e2 := (congrFun hE 2).trans e2
 have e3 := (congrFun hE 3).trans e3
 have e6 := (congrFun hE 6).trans e6
 have e7 := (congrFun hE 7).trans e7
 have e8 := (congrFun hE 8).trans e8
 have e9 := (congrFun hE 9).trans e9
 have e10 := (congrFun hE 10).trans e10
 have e11 := (congrFun hE 11).trans e11
 have e12 := (congrFun hE 12).trans e12
 have e13 := (congrFun hE 13).trans e13
 have e14 : E167 14 = .func (.func 39) #[] #[.pointer (some ⟨g143, 0, none⟩), .pointer (some ⟨g108, 0, none⟩), .pointer (some ⟨g138, 0, none⟩), .pointer (some ⟨g4, 0, none⟩), .pointer (some ⟨g60, 0, none⟩), .pointer (some ⟨g63, 0, none⟩), .pointer (some ⟨g94, 0, none⟩)] := (congrFun hE 14).trans rfl
 have e15 : E167 15 = .slice none 0 0 := (congrFun hE 15).trans rfl
 have e16 : E167 16 = .pointer (some ⟨g163, 0, none⟩) := (congrFun hE 16).trans rfl
 have e17 : E167 17 = .bool y151.2.2.1 := (congrFun hE 17).trans rfl
 have e50 := (congrFun hE 50).trans e50
 have e51 := (congrFun hE 51).trans e51
 have e52 := (congrFun hE 52).trans e52
 have e57 := (congrFun hE 57).trans e57
 clear hE
 replace hC := hC.nil 58 (.pr (.int .i64) (.int .i64))
 obtain ⟨o171, hl1, hb⟩ := bd hb
 refine Wc.cut (fun E wv => ∃ (gP16 : Nat) (l15_1 : List (Int × Int)) (v17_1 : Bool) (qf107_1 : List Bool) (bf140_0_1 : Int) (kf145_0_1 : List (Int × Int)) (bP16_0_1 : Int) (bP16_1_1 : Int) (Al15_1 : Option Addr) (ml15_1 cl15_1 : Nat) (Akf145_0_1 : Option Addr) (mkf145_0_1 ckf145_0_1 : Nat), E 1 = .pointer (some ⟨g4, 0, none⟩) ∧ E 2 = .pointer (some ⟨g7, 0, none⟩) ∧ E 3 = .int .i64 0 ∧ E 6 = .pointer (some ⟨g60, 0, none⟩) ∧ E 7 = .pointer (some ⟨g63, 0, none⟩) ∧ E 8 = .pointer (some ⟨g80, 0, none⟩) ∧ E 9 = .pointer (some ⟨g94, 0, none⟩) ∧ E 10 = .pointer (some ⟨g108, 0, none⟩) ∧ E 11 = .int .i64 v51_0 ∧ E 12 = .pointer (some ⟨g138, 0, none⟩) ∧ E 13 = .pointer (some ⟨g143, 0, none⟩) ∧ E 14 = .func (.func 39) #[] #[.pointer (some ⟨g143, 0, none⟩), .pointer (some ⟨g108, 0, none⟩), .pointer (some ⟨g138, 0, none⟩), .pointer (some ⟨g4, 0, none⟩), .pointer (some ⟨g60, 0, none⟩), .pointer (some ⟨g63, 0, none⟩), .pointer (some ⟨g94, 0, none⟩)] ∧ E 15 = .slice Al15_1 ml15_1 cl15_1 ∧ E 16 = .pointer (some ⟨gP16, 0, none⟩) ∧ E 17 = .bool v17_1 ∧ E 50 = .int .i64 (g_0_0.length : Int) ∧ E 51 = .int .i64 v51_0 ∧ E 52 = .bool (decide (v51_0 < (g_0_0.length : Int))) ∧ E 57 = .bool x128 ∧ I64 bf140_0_1 ∧ I64 bP16_0_1 ∧ I64 bP16_1_1 ∧ Cx (fun _ => False) O0 w wv [.box g4 24 [.slice Ag_0_0 g_0_0.length cg_0_0, .slice Ag_0_1 g_0_1.length cg_0_1], .ro (.sl (.int .i64)) [.slice Ag_0_0 g_0_0.length cg_0_0] g_0_0, .ro (.sl (.int .i64)) [.slice Ag_0_1 g_0_1.length cg_0_1] g_0_1, .box g7 28 [.slice none 0 0, .slice none 0 0, .int .i64 0], .box g60 51 [.slice A45 y39.2.1.length c47], .ro (.sl (.sl (.pr (.int .i64) (.int .i64)))) [.slice A45 y39.2.1.length c47] y39.2.1, .box g63 51 [.slice A49 y39.2.2.length c51], .ro (.sl (.sl (.pr (.int .i64) (.int .i64)))) [.slice A49 y39.2.2.length c51] y39.2.2, .box g80 28 [.slice A41 y39.1.length c43, .slice A74 (((List.replicate z70.toNat (0 : Int))).length) c75, .int .i64 bf82_2_0], .own 3 (.int .i64) (.slice A41 y39.1.length c43) y39.1, .own 3 (.int .i64) (.slice A74 (((List.replicate z70.toNat (0 : Int))).length) c75) qf79_0, .box g94 22 [.slice Akf96_0_0 kf96_0_0.length ckf96_0_0], .ro (.sl (.int .i64)) [.slice Akf96_0_0 kf96_0_0.length ckf96_0_0] kf96_0_0, .box g108 55 [.slice (some ad130) (((List.replicate (g_0_0.length : Int).toNat false)).length) c103], .own 4 .bool (.slice (some ad130) (((List.replicate (g_0_0.length : Int).toNat false)).length) c103) qf107_1, .box g138 3 [.int .i64 bf140_0_1], .box g143 56 [.slice Akf145_0_1 mkf145_0_1 ckf145_0_1], .ro (.sl (.pr (.int .i64) (.int .i64))) [.slice Akf145_0_1 mkf145_0_1 ckf145_0_1] kf145_0_1, .own 58 (.pr (.int .i64) (.int .i64)) (.slice Al15_1 ml15_1 cl15_1) l15_1, .box gP16 58 [.int .i64 bP16_0_1, .int .i64 bP16_1_1]] ∧ ((F.gridlink_join n y39.1 qf79_0 bf82_2_0 l15_1).bind fun y217 => (chk (v51_0 + 1)).bind fun z221 => some (.inl (z221, y217.1, y217.2, kf96_0_0, qf107_1)) : Option ((Int × (List Int) × Int × (List Int) × (List Bool)) ⊕ ((Int × (List Int) × Int × (List Int) × (List Bool))))) = some o120) (fun K172 hK172 => ?_) ?_
 refine Wc.block ?_
 refine Wc.loop (fun m E wv => ∃ (gP16 : Nat) (l15_1 : List (Int × Int)) (v17_1 : Bool) (qf107_1 : List Bool) (bf140_0_1 : Int) (kf145_0_1 : List (Int × Int)) (bP16_0_1 : Int) (bP16_1_1 : Int) (Al15_1 : Option Addr) (ml15_1 cl15_1 : Nat) (Akf145_0_1 : Option Addr) (mkf145_0_1 ckf145_0_1 : Nat), E 1 = .pointer (some ⟨g4, 0, none⟩) ∧ E 2 = .pointer (some ⟨g7, 0, none⟩) ∧ E 3 = .int .i64 0 ∧ E 6 = .pointer (some ⟨g60, 0, none⟩) ∧ E 7 = .pointer (some ⟨g63, 0, none⟩) ∧ E 8 = .pointer (some ⟨g80, 0, none⟩) ∧ E 9 = .pointer (some ⟨g94, 0, none⟩) ∧ E 10 = .pointer (some ⟨g108, 0, none⟩) ∧ E 11 = .int .i64 v51_0 ∧ E 12 = .pointer (some ⟨g138, 0, none⟩) ∧ E 13 = .pointer (some ⟨g143, 0, none⟩) ∧ E 14 = .func (.func 39) #[] #[.pointer (some ⟨g143, 0, none⟩), .pointer (some ⟨g108, 0, none⟩), .pointer (some ⟨g138, 0, none⟩), .pointer (some ⟨g4, 0, none⟩), .pointer (some ⟨g60, 0, none⟩), .pointer (some ⟨g63, 0, none⟩), .pointer (some ⟨g94, 0, none⟩)] ∧ E 15 = .slice Al15_1 ml15_1 cl15_1 ∧ E 16 = .pointer (some ⟨gP16, 0, none⟩) ∧ E 17 = .bool v17_1 ∧ E 50 = .int .i64 (g_0_0.length : Int) ∧ E 51 = .int .i64 v51_0 ∧ E 52 = .bool (decide (v51_0 < (g_0_0.length : Int))) ∧ E 57 = .bool x128 ∧ I64 bf140_0_1 ∧ I64 bP16_0_1 ∧ I64 bP16_1_1 ∧ Cx (fun _ => False) O0 w wv [.box g4 24 [.slice Ag_0_0 g_0_0.length cg_0_0, .slice Ag_0_1 g_0_1.length cg_0_1], .ro (.sl (.int .i64)) [.slice Ag_0_0 g_0_0.length cg_0_0] g_0_0, .ro (.sl (.int .i64)) [.slice Ag_0_1 g_0_1.length cg_0_1] g_0_1, .box g7 28 [.slice none 0 0, .slice none 0 0, .int .i64 0], .box g60 51 [.slice A45 y39.2.1.length c47], .ro (.sl (.sl (.pr (.int .i64) (.int .i64)))) [.slice A45 y39.2.1.length c47] y39.2.1, .box g63 51 [.slice A49 y39.2.2.length c51], .ro (.sl (.sl (.pr (.int .i64) (.int .i64)))) [.slice A49 y39.2.2.length c51] y39.2.2, .box g80 28 [.slice A41 y39.1.length c43, .slice A74 (((List.replicate z70.toNat (0 : Int))).length) c75, .int .i64 bf82_2_0], .own 3 (.int .i64) (.slice A41 y39.1.length c43) y39.1, .own 3 (.int .i64) (.slice A74 (((List.replicate z70.toNat (0 : Int))).length) c75) qf79_0, .box g94 22 [.slice Akf96_0_0 kf96_0_0.length ckf96_0_0], .ro (.sl (.int .i64)) [.slice Akf96_0_0 kf96_0_0.length ckf96_0_0] kf96_0_0, .box g108 55 [.slice (some ad130) (((List.replicate (g_0_0.length : Int).toNat false)).length) c103], .own 4 .bool (.slice (some ad130) (((List.replicate (g_0_0.length : Int).toNat false)).length) c103) qf107_1, .box g138 3 [.int .i64 bf140_0_1], .box g143 56 [.slice Akf145_0_1 mkf145_0_1 ckf145_0_1], .ro (.sl (.pr (.int .i64) (.int .i64))) [.slice Akf145_0_1 mkf145_0_1 ckf145_0_1] kf145_0_1, .own 58 (.pr (.int .i64) (.int .i64)) (.slice Al15_1 ml15_1 cl15_1) l15_1, .box gP16 58 [.int .i64 bP16_0_1, .int .i64 bP16_1_1]] ∧ loopN m (F.gridlink_Diagram_b1 n g_0_0 g_0_1 y39 kf96_0_0) (l15_1, v17_1, qf107_1, bf140_0_1, kf145_0_1, bP16_0_1, bP16_1_1) = some o171) n ⟨g163, ([] : List (Int × Int)), y151.2.2.1, y151.2.2.2.1, y151.2.2.2.2.2, y151.2.2.2.2.1, y151.1, y151.2.1, none, 0, 0, A155, y151.2.2.2.2.1.length, c157, e1, e2, e3, e6, e7, e8, e9, e10, e11, e12, e13, e14, e15, e16, e17, e50, e51, e52, e57, hr159, hr153, hr154, hC.sel [7, 11, 12, 13, 8, 14, 9, 15, 16, 17, 18, 10, 19, 5, 2, 6, 4, 3, 0, 1] (by decide), hl1⟩ ?_
 have hbK1 := hb
 clear hb hC hl1
 rintro m174 E176 w175 ⟨gP16, l15_1, v17_1, qf107_1, bf140_0_1, kf145_0_1, bP16_0_1, bP16_1_1, Al15_1, ml15_1, cl15_1, Akf145_0_1, mkf145_0_1, ckf145_0_1, e1, e2, e3, e6, e7, e8, e9, e10, e11, e12, e13, e14, e15, e16, e17, e50, e51, e52, e57, hrbf140_0_1, hrbP16_0_1, hrbP16_1_1, hC, hl1⟩ K173 hK173
 obtain ⟨m174', o177, rfl, hb, hl1⟩ := loopN_some hl1
 unfold F.gridlink_Diagram_b1 at hb
 obtain ⟨rfl, hll15_1, hcl15_1⟩ := (hC.ow (i := 18) rfl).sl_len
 obtain ⟨rfl, hlkf145_0_1, hckf145_0_1⟩ := (hC.rd (i := 17) rfl).sl_len
 refine Wc.seq fun K178 hK178 => ?_
 refine Wc.seq fun K179 hK179 => ?_
 refine rg ?_
 refine lp (.bool v17_1) (pu_move e17) ?_
 refine ln ?_
 refine hK179 _ _ ?_
 refine Wc.cond (t := v17_1) (rfl) (fun hq180 => ?_) (fun hq180 => ?_)
 replace hb := tt hq180 hb
 refine Wc.skip ?_
 refine hK178 _ _ ?_
 refine Wc.seq fun K181 hK181 => ?_
 refine Wc.block ?_
 refine rg ?_
 refine lp (.slice Al15_1 l15_1.length cl15_1) (pu_move e15) ?_
 refine lv (.agg #[.int .i64 bP16_0_1, .int .i64 bP16_1_1]) (ld_blk (hC.bx (i := 19) rfl) Try.isAgg58 Try.sizeOf58 e16) ?_
 refine lex.op (hC.lit (s := (.pr (.int .i64) (.int .i64))) (vs := [.agg #[.int .i64 bP16_0_1, .int .i64 bP16_1_1]]) (xs := [(bP16_0_1, bP16_1_1)]) Try.underlying56 Try.type58 rfl rfl (Nat.le_of_ble_eq_true rfl) rfl rfl (by simp [Value.cells, Sh.n]) rfl (show Elems _ _ (.pr (.int .i64) (.int .i64)) ([.int .i64 bP16_0_1, .int .i64 bP16_1_1] ++ ([])) ([(bP16_0_1, bP16_1_1)] : List (Int × Int)) from Elems.cons (⟨[.int .i64 bP16_0_1], [.int .i64 bP16_1_1], rfl, ⟨rfl, I64.wr hrbP16_0_1⟩, ⟨rfl, I64.wr hrbP16_1_1⟩⟩) (Elems.nil _ _ _))) ?_
 rintro _ w186 ⟨A182, c183, rfl, hl184, hc185, hC, hF, hN⟩
 clear hF hN
 obtain ⟨u188, h189, hb⟩ := bd hb
 refine lex.op (hC.app (i := 19) (s := (.pr (.int .i64) (.int .i64))) (xs := l15_1) (ys := ([(bP16_0_1, bP16_1_1)] : List (Int × Int))) (m := ((([(bP16_0_1, bP16_1_1)] : List (Int × Int))).length)) rfl Try.underlying56 Try.underlying56 Try.type58 rfl rfl rfl (hC.srco (i := 0) rfl) rfl rfl (by have := lim_some h189; simp at this ⊢ <;> omega) (by decide)) ?_
 rintro _ w194 ⟨A190, c191, rfl, hl192, hc193, hC, hF, hN⟩
 clear hF hN
 refine lp (.slice A190 ((l15_1 ++ ([(bP16_0_1, bP16_1_1)] : List (Int × Int))).length) c191) (pu_assign rfl) ?_
 refine ln ?_
 refine hK181 _ _ ?_
 refine Wc.seq fun K195 hK195 => ?_
 refine Wc.seq fun K196 hK196 => ?_
 refine rg ?_
 refine lv (.agg #[.int .i64 bP16_0_1, .int .i64 bP16_1_1]) (ld_blk (hC.bx (i := 20) rfl) Try.isAgg58 Try.sizeOf58 e16) ?_
 refine ln ?_
 refine hK196 _ _ ?_
 refine rg ?_
 refine lex.op (hC.alloc (cs := [.int .i64 0, .int .i64 0]) Try.zeroValue58 rfl) ?_
 rintro _ w198 ⟨g197, rfl, hC, hF, hG⟩
 clear hG
 refine lex.sk (hC.seta (i := 0) (ds := [.int .i64 bP16_0_1, .int .i64 bP16_1_1]) rfl Try.type58 rfl rfl rfl rfl rfl) ?_
 rintro w200 ⟨hC, hF⟩
 refine ln ?_
 refine hK195 _ _ ?_
 refine rg ?_
 refine lp (.func (.func 39) #[] #[.pointer (some ⟨g143, 0, none⟩), .pointer (some ⟨g108, 0, none⟩), .pointer (some ⟨g138, 0, none⟩), .pointer (some ⟨g4, 0, none⟩), .pointer (some ⟨g60, 0, none⟩), .pointer (some ⟨g63, 0, none⟩), .pointer (some ⟨g94, 0, none⟩)]) (pu_move e14) ?_
 replace hC : Cx (fun _ => False) O0 w w200 ([.own 4 .bool (.slice (some ad130) (((List.replicate (g_0_0.length : Int).toNat false)).length) c103) qf107_1, .box g143 56 [.slice Akf145_0_1 kf145_0_1.length ckf145_0_1], .box g108 55 [.slice (some ad130) (((List.replicate (g_0_0.length : Int).toNat false)).length) c103], .box g138 3 [.int .i64 bf140_0_1], .box g4 24 [.slice Ag_0_0 g_0_0.length cg_0_0, .slice Ag_0_1 g_0_1.length cg_0_1], .box g60 51 [.slice A45 y39.2.1.length c47], .box g63 51 [.slice A49 y39.2.2.length c51], .box g94 22 [.slice Akf96_0_0 kf96_0_0.length ckf96_0_0]] ++ [.box g197 58 [.int .i64 bP16_0_1, .int .i64 bP16_1_1], .own 58 (.pr (.int .i64) (.int .i64)) (.slice A182 ((([(bP16_0_1, bP16_1_1)] : List (Int × Int))).length) c183) ([(bP16_0_1, bP16_1_1)] : List (Int × Int)), .ro (.sl (.int .i64)) [.slice Ag_0_0 g_0_0.length cg_0_0] g_0_0, .ro (.sl (.int .i64)) [.slice Ag_0_1 g_0_1.length cg_0_1] g_0_1, .box g7 28 [.slice none 0 0, .slice none 0 0, .int .i64 0], .ro (.sl (.sl (.pr (.int .i64) (.int .i64)))) [.slice A45 y39.2.1.length c47] y39.2.1, .ro (.sl (.sl (.pr (.int .i64) (.int .i64)))) [.slice A49 y39.2.2.length c51] y39.2.2, .box g80 28 [.slice A41 y39.1.length c43, .slice A74 (((List.replicate z70.toNat (0 : Int))).length) c75, .int .i64 bf82_2_0], .own 3 (.int .i64) (.slice A41 y39.1.length c43) y39.1, .own 3 (.int .i64) (.slice A74 (((List.replicate z70.toNat (0 : Int))).length) c75) qf79_0, .ro (.sl (.int .i64)) [.slice Akf96_0_0 kf96_0_0.length ckf96_0_0] kf96_0_0, .ro (.sl (.pr (.int .i64) (.int .i64))) [.slice Akf145_0_1 kf145_0_1.length ckf145_0_1] kf145_0_1, .own 58 (.pr (.int .i64) (.int .i64)) (.slice A190 ((l15_1 ++ ([(bP16_0_1, bP16_1_1)] : List (Int × Int))).length) c191) (l15_1 ++ ([(bP16_0_1, bP16_1_1)] : List (Int × Int))), .box gP16 58 [.int .i64 bP16_0_1, .int .i64 bP16_1_1]]) := hC.sel [16, 18, 15, 17, 2, 6, 8, 13, 0, 1, 3, 4, 5, 7, 9, 10, 11, 12, 14, 19, 20, 21] (by decide)
 obtain ⟨y201, h202, hb⟩ := bd hb
 refine lex.cl (⟨_, _, op_callv (vs := [.pointer (some ⟨g143, 0, none⟩), .pointer (some ⟨g108, 0, none⟩), .pointer (some ⟨g138, 0, none⟩), .pointer (some ⟨g4, 0, none⟩), .pointer (some ⟨g60, 0, none⟩), .pointer (some ⟨g63, 0, none⟩), .pointer (some ⟨g94, 0, none⟩)]) (ca := #[.pointer (some ⟨g143, 0, none⟩), .pointer (some ⟨g108, 0, none⟩), .pointer (some ⟨g138, 0, none⟩), .pointer (some ⟨g4, 0, none⟩), .pointer (some ⟨g60, 0, none⟩), .pointer (some ⟨g63, 0, none⟩), .pointer (some ⟨g94, 0, none⟩)]) Try.call39 rfl rfl rfl, gridlink_Diagram_c1_ok n hC.lt (hC.rd (i := 19) rfl) hrbf140_0_1 (hC.rd (i := 10) rfl) (hC.rd (i := 11) rfl) (hC.rd (i := 13) rfl) (hC.rd (i := 14) rfl) (hC.rd (i := 18) rfl) hC.give h202⟩) ?_
 rintro _ w210 ⟨A205, m206, c207, rfl, hr203, hr204, hr209, hK⟩
 replace hC := hC.back hK
 clear hK
 obtain ⟨rfl, hl211, hc212⟩ := (hC.rd (i := 1) rfl).sl_len
 refine lp (.tuple #[.agg #[.int .i64 y201.1, .int .i64 y201.2.1], .bool y201.2.2.1]) (pu_move rfl) ?_
 refine lp (.agg #[.int .i64 y201.1, .int .i64 y201.2.1]) (pu_extract rfl rfl) ?_
 refine lp (.bool y201.2.2.1) (pu_extract rfl rfl) ?_
 refine lex.sk (hC.seta (i := 9) (ds := [.int .i64 y201.1, .int .i64 y201.2.1]) rfl Try.type58 rfl rfl rfl rfl rfl) ?_
 rintro w213 ⟨hC, hF⟩
 refine lp (.bool y201.2.2.1) (pu_assign rfl) ?_
 refine ln ?_
 obtain rfl := os hb
 exact hK173 m174' _ _ (Nat.lt_succ_self _) ⟨g197, (l15_1 ++ ([(bP16_0_1, bP16_1_1)] : List (Int × Int))), y201.2.2.1, y201.2.2.2.1, y201.2.2.2.2.2, y201.2.2.2.2.1, y201.1, y201.2.1, A190, (l15_1 ++ ([(bP16_0_1, bP16_1_1)] : List (Int × Int))).length, c191, A205, y201.2.2.2.2.1.length, c207, e1, e2, e3, e6, e7, e8, e9, e10, e11, e12, e13, e14, rfl, rfl, rfl, e50, e51, e52, e57, hr209, hr203, hr204, hC.sel [5, 11, 12, 13, 6, 14, 7, 15, 16, 17, 18, 8, 19, 3, 0, 4, 2, 1, 21, 9] (by decide), lN hl1⟩
 replace hb := tf hq180 hb
 refine Wc.exit rfl ?_
 obtain rfl := os hb
 obtain rfl := (lX hl1).symm
 exact hK172 _ _ ⟨gP16, l15_1, v17_1, qf107_1, bf140_0_1, kf145_0_1, bP16_0_1, bP16_1_1, Al15_1, l15_1.length, cl15_1, Akf145_0_1, kf145_0_1.length, ckf145_0_1, e1, e2, e3, e6, e7, e8, e9, e10, e11, e12, e13, e14, e15, e16, e17, e50, e51, e52, e57, hrbf140_0_1, hrbP16_0_1, hrbP16_1_1, hC.sel [0, 1, 2, 3, 4, 5, 6, 7, 8, 9, 10, 11, 12, 13, 14, 15, 16, 17, 18, 19] (by decide), hbK1⟩
 clear hb hC hl1
 rintro E216 w215 ⟨gP16, l15_1, v17_1, qf107_1, bf140_0_1, kf145_0_1, bP16_0_1, bP16_1_1, Al15_1, ml15_1, cl15_1, Akf145_0_1, mkf145_0_1, ckf145_0_1, e1, e2, e3, e6, e7, e8, e9, e10, e11, e12, e13, e14, e15, e16, e17, e50, e51, e52, e57, hrbf140_0_1, hrbP16_0_1, hrbP16_1_1, hC, hb⟩
 obtain ⟨rfl, hll15_1, hcl15_1⟩ := (hC.ow (i := 18) rfl).sl_len
 obtain ⟨rfl, hlkf145_0_1, hckf145_0_1⟩ := (hC.rd (i := 17) rfl).sl_len
 refine hK149 _ _ ?_
 refine rg ?_
 refine lp (.slice Al15_1 l15_1.length cl15_1) (pu_move e15) ?_
 replace hC : Cx (fun _ => False) O0 w w215 ([.own 3 (.int .i64) (.slice A74 (((List.replicate z70.toNat (0 : Int))).length) c75) qf79_0, .box g80 28 [.slice A41 y39.1.length c43, .slice A74 (((List.replicate z70.toNat (0 : Int))).length) c75, .int .i64 bf82_2_0]] ++ [.box g4 24 [.slice Ag_0_0 g_0_0.length cg_0_0, .slice Ag_0_1 g_0_1.length cg_0_1], .ro (.sl (.int .i64)) [.slice Ag_0_0 g_0_0.length cg_0_0] g_0_0, .ro (.sl (.int .i64)) [.slice Ag_0_1 g_0_1.length cg_0_1] g_0_1, .box g7 28 [.slice none 0 0, .slice none 0 0, .int .i64 0], .box g60 51 [.slice A45 y39.2.1.length c47], .ro (.sl (.sl (.pr (.int .i64) (.int .i64)))) [.slice A45 y39.2.1.length c47] y39.2.1, .box g63 51 [.slice A49 y39.2.2.length c51], .ro (.sl (.sl (.pr (.int .i64) (.int .i64)))) [.slice A49 y39.2.2.length c51] y39.2.2, .own 3 (.int .i64) (.slice A41 y39.1.length c43) y39.1, .box g94 22 [.slice Akf96_0_0 kf96_0_0.length ckf96_0_0], .ro (.sl (.int .i64)) [.slice Akf96_0_0 kf96_0_0.length ckf96_0_0] kf96_0_0, .box g108 55 [.slice (some ad130) (((List.replicate (g_0_0.length : Int).toNat false)).length) c103], .own 4 .bool (.slice (some ad130) (((List.replicate (g_0_0.length : Int).toNat false)).length) c103) qf107_1, .box g138 3 [.int .i64 bf140_0_1], .box g143 56 [.slice Akf145_0_1 kf145_0_1.length ckf145_0_1], .ro (.sl (.pr (.int .i64) (.int .i64))) [.slice Akf145_0_1 kf145_0_1.length ckf145_0_1] kf145_0_1, .own 58 (.pr (.int .i64) (.int .i64)) (.slice Al15_1 l15_1.length cl15_1) l15_1, .box gP16 58 [.int .i64 bP16_0_1, .int .i64 bP16_1_1]]) := hC.sel [10, 8, 0, 1, 2, 3, 4, 5, 6, 7, 9, 11, 12, 13, 14, 15, 16, 17, 18, 19] (by decide)
 obtain ⟨y217, h218, hb⟩ := bd hb
 refine lex.cl (⟨_, _, op_call (vs := [.pointer (some ⟨g80, 0, none⟩), .slice Al15_1 l15_1.length cl15_1]) Try.call41 rfl rfl (map_of (m2_cons e8 (m2_cons rfl m2_nil))), gridlink_join_ok n (hC.lentLt [.slice Al15_1 l15_1.length cl15_1, .slice A41 y39.1.length c43]) ((hC.ow (i := 10) rfl).lend (vs := [.slice Al15_1 l15_1.length cl15_1, .slice A41 y39.1.length c43]) (by simp)) hrbf82_2_0 ((hC.ow (i := 18) rfl).lend (vs := [.slice Al15_1 l15_1.length cl15_1, .slice A41 y39.1.length c43]) (by simp)) (hC.give.lent [.slice Al15_1 l15_1.length cl15_1, .slice A41 y39.1.length c43] (hC.apart (List.forall_mem_cons.2 ⟨blk_in (i := 16) rfl, List.forall_mem_cons.2 ⟨blk_in (i := 8) rfl, fun _ h => absurd h List.not_mem_nil⟩⟩))) h218⟩) ?_
 rintro _ w220 ⟨rfl, hr219, hK⟩
 replace hC := hC.back (hK.flatTk rfl hC.lt)
 clear hK
 refine ln ?_
 refine hK124 _ _ ?_
 refine rg ?_
 obtain ⟨z221, h222, hb⟩ := bd hb
 refine lp (.int .i64 z221) (pu_addc (a := v51_0) (b := 1) e51 rfl h222) ?_
 refine lp (.int .i64 z221) (pu_move rfl) ?_
 refine ln ?_
 obtain rfl := os hb
 exact hK116 m117' _ _ (Nat.lt_succ_self _) ⟨z221, y217.1, y217.2, kf96_0_0, qf107_1, Akf96_0_0, kf96_0_0.length, ckf96_0_0, e1, e2, e3, e6, e7, e8, e9, e10, e50, rfl, (chk_rng h222), hr219, hC.sel [2, 3, 4, 5, 6, 7, 8, 9, 1, 10, 0, 11, 12, 13, 14] (by decide), lN hl0⟩
 replace hb := tf hq123 hb
 refine Wc.exit rfl ?_
 obtain rfl := os hb
 obtain rfl := (lX hl0).symm
 exact hK115 _ _ ⟨v51_0, qf79_0, bf82_2_0, kf96_0_0, qf107_0, Akf96_0_0, kf96_0_0.length, ckf96_0_0, e2, e3, e8, hrv51_0, hrbf82_2_0, hC.sel [3, 8, 9, 10] (by decide), hbK0⟩
 clear hb hC hl0
 rintro E224 w223 ⟨v51_0, qf79_0, bf82_2_0, kf96_0_0, qf107_0, Akf96_0_0, mkf96_0_0, ckf96_0_0, e2, e3, e8, hrv51_0, hrbf82_2_0, hC, hb⟩
 refine hK112 _ _ ?_
 refine Wc.seq fun K225 hK225 => ?_
 refine rg ?_
 refine lv (.agg #[.slice A41 y39.1.length c43, .slice A74 (((List.replicate z70.toNat (0 : Int))).length) c75, .int .i64 bf82_2_0]) (ld_blk (hC.bx (i := 1) rfl) Try.isAgg28 Try.sizeOf28 e8) ?_
 refine lex.sk (hC.seta (i := 0) (ds := [.slice A41 y39.1.length c43, .slice A74 (((List.replicate z70.toNat (0 : Int))).length) c75, .int .i64 bf82_2_0]) rfl Try.type28 rfl rfl rfl e2 rfl) ?_
 rintro w226 ⟨hC, hF⟩
 refine lp (.int .i64 0) (pu_assign rfl) ?_
 refine ln ?_
 refine hK225 _ _ ?_
 obtain rfl := os hb
 refine Wc.ret ?_
 refine hKR _ _ ?_
 refine ⟨_, res2 Try.results13 ⟨_, e2, loadVar_blk (hC.bx (i := 0) rfl) Try.isAgg28 Try.sizeOf28⟩ (show RV _ _ _ (.tmp _) (.int .i64 0) from rfl), _, rfl, A41, y39.1.length, c43, A74, ((List.replicate z70.toNat (0 : Int))).length, c75, rfl, hrbf82_2_0, (show I64 0 from by unfold I64; omega), hC.sel [2, 3] (by decide)⟩
end Go.Proofs.Yticemffhlapnnaa
