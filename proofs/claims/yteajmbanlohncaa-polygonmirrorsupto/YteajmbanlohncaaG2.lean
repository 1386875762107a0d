/- The walks: part 2. -/
import Derived.Test.YteajmbanlohncaaS
import Derived.Test.YteajmbanlohncaaG1
set_option linter.unusedVariables false
set_option linter.unusedSimpArgs false
namespace Go.Proofs.Yteajmbanlohncaa
open Ev
set_option maxRecDepth 100000 in
set_option maxHeartbeats 4000000 in
theorem polygon_cross_c2_ok (n : Nat) {w : World} {O0 : List Nat} (hO : ∀ k ∈ O0, k < w.heap.size) {p_0_0 : Int} (hp_0_0 : I64 p_0_0) {p_0_1 : Bool} {q_1_0 : Int} (hq_1_0 : I64 q_1_0) {q_1_1 : Bool} {gu_2 : Nat} {gu_2_0_0 : Nat} {Au_2_0_0_0 : Option Addr} {mu_2_0_0_0 cu_2_0_0_0 : Nat} {u_2_0_0_0 : List ((Int × (Int × Int)) × ((Int × (Int × Int)) × (Int × Int)))} (hu_2_0_0_0 : Rep O0 w (.sl (.pr (.pr (.int .i64) (.pr (.int .i64) (.int .i64))) (.pr (.pr (.int .i64) (.pr (.int .i64) (.int .i64))) (.pr (.int .i64) (.int .i64))))) [.slice Au_2_0_0_0 mu_2_0_0_0 cu_2_0_0_0] u_2_0_0_0) {gu_2_0_1 : Nat} {u_2_0_1_0 : Int} (hu_2_0_1_0 : I64 u_2_0_1_0) {u_2_0_1_1 : Int} (hu_2_0_1_1 : I64 u_2_0_1_1) {u_2_0_1_2 : Int} (hu_2_0_1_2 : I64 u_2_0_1_2) {u_2_0_1_3 : Int} (hu_2_0_1_3 : I64 u_2_0_1_3) {u_2_0_1_4 : Int} (hu_2_0_1_4 : I64 u_2_0_1_4) {u_2_0_1_5 : Int} (hu_2_0_1_5 : I64 u_2_0_1_5) {u_2_0_1_6 : Int} (hu_2_0_1_6 : I64 u_2_0_1_6) {u_2_0_1_7 : Int} (hu_2_0_1_7 : I64 u_2_0_1_7) (hio : Tk O0 w [.box gu_2 108 [.func (.func 80) #[] #[.pointer (some ⟨gu_2_0_0, 0, none⟩), .pointer (some ⟨gu_2_0_1, 0, none⟩)]], .box gu_2_0_0 68 [.slice Au_2_0_0_0 mu_2_0_0_0 cu_2_0_0_0], .box gu_2_0_1 105 [.int .i64 u_2_0_1_0, .int .i64 u_2_0_1_1, .int .i64 u_2_0_1_2, .int .i64 u_2_0_1_3, .int .i64 u_2_0_1_4, .int .i64 u_2_0_1_5, .int .i64 u_2_0_1_6, .int .i64 u_2_0_1_7]]) {r : Int} (hb : F.polygon_cross_c2 n p_0_0 p_0_1 q_1_0 q_1_1 u_2_0_0_0 u_2_0_1_0 u_2_0_1_1 u_2_0_1_2 u_2_0_1_3 u_2_0_1_4 u_2_0_1_5 u_2_0_1_6 u_2_0_1_7 = some r) :
    Calls Try.prog 81 #[.agg #[.int .i64 p_0_0, .bool p_0_1], .agg #[.int .i64 q_1_0, .bool q_1_1], .pointer (some ⟨gu_2, 0, none⟩)] w fun e w' => ∃ v, e = .returned v ∧ v = .int .i64 r ∧ I64 r ∧ Cx (fun k => k ∈ blocks [.box gu_2 108 [.func (.func 80) #[] #[.pointer (some ⟨gu_2_0_0, 0, none⟩), .pointer (some ⟨gu_2_0_1, 0, none⟩)]], .box gu_2_0_0 68 [.slice Au_2_0_0_0 mu_2_0_0_0 cu_2_0_0_0], .box gu_2_0_1 105 [.int .i64 u_2_0_1_0, .int .i64 u_2_0_1_1, .int .i64 u_2_0_1_2, .int .i64 u_2_0_1_3, .int .i64 u_2_0_1_4, .int .i64 u_2_0_1_5, .int .i64 u_2_0_1_6, .int .i64 u_2_0_1_7]]) O0 w w' [.box gu_2 108 [.func (.func 80) #[] #[.pointer (some ⟨gu_2_0_0, 0, none⟩), .pointer (some ⟨gu_2_0_1, 0, none⟩)]], .box gu_2_0_0 68 [.slice Au_2_0_0_0 mu_2_0_0_0 cu_2_0_0_0], .box gu_2_0_1 105 [.int .i64 u_2_0_1_0, .int .i64 u_2_0_1_1, .int .i64 u_2_0_1_2, .int .i64 u_2_0_1_3, .int .i64 u_2_0_1_4, .int .i64 u_2_0_1_5, .int .i64 u_2_0_1_6, .int .i64 u_2_0_1_7]] := by
 unfold F.polygon_cross_c2 at hb
 have hC := Cx.startTk hO hio
 have hsub := hio.2.2
 replace hC := hC.argTk (by first | exact hsub | exact fun k hk => hsub k (by simpa [blocks, Fact.blk] using hk)) hu_2_0_0_0
 clear hO
 obtain ⟨rfl, hlu_2_0_0_0, hcu_2_0_0_0⟩ := hu_2_0_0_0.sl_len
 clear hio hsub
 obtain ⟨I, hI, hC⟩ : ∃ I : Nat → Prop, I = (fun k => k ∈ blocks [.box gu_2 108 [.func (.func 80) #[] #[.pointer (some ⟨gu_2_0_0, 0, none⟩), .pointer (some ⟨gu_2_0_1, 0, none⟩)]], .box gu_2_0_0 68 [.slice Au_2_0_0_0 u_2_0_0_0.length cu_2_0_0_0], .box gu_2_0_1 105 [.int .i64 u_2_0_1_0, .int .i64 u_2_0_1_1, .int .i64 u_2_0_1_2, .int .i64 u_2_0_1_3, .int .i64 u_2_0_1_4, .int .i64 u_2_0_1_5, .int .i64 u_2_0_1_6, .int .i64 u_2_0_1_7]]) ∧ Cx I O0 w w ([.ro (.sl (.pr (.pr (.int .i64) (.pr (.int .i64) (.int .i64))) (.pr (.pr (.int .i64) (.pr (.int .i64) (.int .i64))) (.pr (.int .i64) (.int .i64))))) [.slice Au_2_0_0_0 u_2_0_0_0.length cu_2_0_0_0] u_2_0_0_0, .box gu_2 108 [.func (.func 80) #[] #[.pointer (some ⟨gu_2_0_0, 0, none⟩), .pointer (some ⟨gu_2_0_1, 0, none⟩)]], .box gu_2_0_0 68 [.slice Au_2_0_0_0 u_2_0_0_0.length cu_2_0_0_0], .box gu_2_0_1 105 [.int .i64 u_2_0_1_0, .int .i64 u_2_0_1_1, .int .i64 u_2_0_1_2, .int .i64 u_2_0_1_3, .int .i64 u_2_0_1_4, .int .i64 u_2_0_1_5, .int .i64 u_2_0_1_6, .int .i64 u_2_0_1_7]]) := ⟨_, rfl, hC⟩
 refine calls_of_Wc Try.func81 rfl (by rw [Try.ntmps81]; exact Nat.le_of_ble_eq_true rfl) fun KR hKR => ?_
 refine Wc.seq fun K5 hK5 => ?_
 refine rg ?_
 refine lex.op (hC.box (cs := [.int .i64 p_0_0, .bool p_0_1]) rfl rfl) ?_
 rintro _ w7 ⟨g6, rfl, hC, hF, hG⟩
 clear hG
 refine lex.op (hC.box (cs := [.int .i64 q_1_0, .bool q_1_1]) rfl rfl) ?_
 rintro _ w10 ⟨g9, rfl, hC, hF, hG⟩
 clear hG
 refine lp (.int .i64 0) (pu_assign rfl) ?_
 refine ln ?_
 refine hK5 _ _ ?_
 refine Wc.seq fun K12 hK12 => ?_
 refine rg ?_
 refine lv (.func (.func 80) #[] #[.pointer (some ⟨gu_2_0_0, 0, none⟩), .pointer (some ⟨gu_2_0_1, 0, none⟩)]) (ld_one Try.isAgg108 rfl ((hC.bx (i := 3) rfl).cell (j := 0) rfl)) ?_
 refine lv (.agg #[.int .i64 p_0_0, .bool p_0_1]) (ld_blk (hC.bx (i := 1) rfl) Try.isAgg107 Try.sizeOf107 rfl) ?_
 replace hC : Cx I O0 w w10 ([.box gu_2_0_0 68 [.slice Au_2_0_0_0 u_2_0_0_0.length cu_2_0_0_0], .box gu_2_0_1 105 [.int .i64 u_2_0_1_0, .int .i64 u_2_0_1_1, .int .i64 u_2_0_1_2, .int .i64 u_2_0_1_3, .int .i64 u_2_0_1_4, .int .i64 u_2_0_1_5, .int .i64 u_2_0_1_6, .int .i64 u_2_0_1_7]] ++ [.box g9 107 [.int .i64 q_1_0, .bool q_1_1], .box g6 107 [.int .i64 p_0_0, .bool p_0_1], .ro (.sl (.pr (.pr (.int .i64) (.pr (.int .i64) (.int .i64))) (.pr (.pr (.int .i64) (.pr (.int .i64) (.int .i64))) (.pr (.int .i64) (.int .i64))))) [.slice Au_2_0_0_0 u_2_0_0_0.length cu_2_0_0_0] u_2_0_0_0, .box gu_2 108 [.func (.func 80) #[] #[.pointer (some ⟨gu_2_0_0, 0, none⟩), .pointer (some ⟨gu_2_0_1, 0, none⟩)]]]) := hC.sel [4, 5, 0, 1, 2, 3] (by decide)
 obtain ⟨y13, h14, hb⟩ := bd hb
 refine lex.cl (⟨_, _, op_callv (vs := [.agg #[.int .i64 p_0_0, .bool p_0_1], .pointer (some ⟨gu_2_0_0, 0, none⟩), .pointer (some ⟨gu_2_0_1, 0, none⟩)]) (ca := #[.pointer (some ⟨gu_2_0_0, 0, none⟩), .pointer (some ⟨gu_2_0_1, 0, none⟩)]) Try.call80 rfl rfl rfl, polygon_cross_c1_ok n hC.lt hp_0_0 (hC.rd (i := 4) rfl) hu_2_0_1_0 hu_2_0_1_1 hu_2_0_1_2 hu_2_0_1_3 hu_2_0_1_4 hu_2_0_1_5 hu_2_0_1_6 hu_2_0_1_7 hC.give h14⟩) ?_
 rintro _ w17 ⟨rfl, hr15, hr16, hK⟩
 replace hC := hC.back hK
 clear hK
 refine lp (.tuple #[.int .i64 y13.1, .int .i64 y13.2]) (pu_move rfl) ?_
 refine lp (.int .i64 y13.1) (pu_extract rfl rfl) ?_
 refine lp (.int .i64 y13.2) (pu_extract rfl rfl) ?_
 refine lp (.int .i64 y13.1) (pu_assign rfl) ?_
 refine lp (.int .i64 y13.2) (pu_assign rfl) ?_
 refine ln ?_
 refine hK12 _ _ ?_
 refine Wc.fresh fun E18 hE => ?_
 have e2 : E18 2 = .pointer (some ⟨gu_2, 0, none⟩) := (congrFun hE 2).trans rfl
 have e4 : E18 4 = .pointer (some ⟨g9, 0, none⟩) := (congrFun hE 4).trans rfl
 have e5 : E18 5 = .int .i64 0 := (congrFun hE 5).trans rfl
 have e6 : E18 6 = .int .i64 y13.1 := (congrFun hE 6).trans rfl
 have e7 : E18 7 = .int .i64 y13.2 := (congrFun hE 7).trans rfl
 clear hE
 refine Wc.seq fun K19 hK19 => ?_
 refine rg ?_
 refine lv (.func (.func 80) #[] #[.pointer (some ⟨gu_2_0_0, 0, none⟩), .pointer (some ⟨gu_2_0_1, 0, none⟩)]) (ld_one Try.isAgg108 e2 ((hC.bx (i := 5) rfl).cell (j := 0) rfl)) ?_
 refine lv (.agg #[.int .i64 q_1_0, .bool q_1_1]) (ld_blk (hC.bx (i := 2) rfl) Try.isAgg107 Try.sizeOf107 e4) ?_
 replace hC : Cx I O0 w w17 ([.box gu_2_0_0 68 [.slice Au_2_0_0_0 u_2_0_0_0.length cu_2_0_0_0], .box gu_2_0_1 105 [.int .i64 u_2_0_1_0, .int .i64 u_2_0_1_1, .int .i64 u_2_0_1_2, .int .i64 u_2_0_1_3, .int .i64 u_2_0_1_4, .int .i64 u_2_0_1_5, .int .i64 u_2_0_1_6, .int .i64 u_2_0_1_7]] ++ [.box g9 107 [.int .i64 q_1_0, .bool q_1_1], .box g6 107 [.int .i64 p_0_0, .bool p_0_1], .ro (.sl (.pr (.pr (.int .i64) (.pr (.int .i64) (.int .i64))) (.pr (.pr (.int .i64) (.pr (.int .i64) (.int .i64))) (.pr (.int .i64) (.int .i64))))) [.slice Au_2_0_0_0 u_2_0_0_0.length cu_2_0_0_0] u_2_0_0_0, .box gu_2 108 [.func (.func 80) #[] #[.pointer (some ⟨gu_2_0_0, 0, none⟩), .pointer (some ⟨gu_2_0_1, 0, none⟩)]]]) := hC.sel [0, 1, 2, 3, 4, 5] (by decide)
 obtain ⟨y20, h21, hb⟩ := bd hb
 refine lex.cl (⟨_, _, op_callv (vs := [.agg #[.int .i64 q_1_0, .bool q_1_1], .pointer (some ⟨gu_2_0_0, 0, none⟩), .pointer (some ⟨gu_2_0_1, 0, none⟩)]) (ca := #[.pointer (some ⟨gu_2_0_0, 0, none⟩), .pointer (some ⟨gu_2_0_1, 0, none⟩)]) Try.call80 rfl rfl rfl, polygon_cross_c1_ok n hC.lt hq_1_0 (hC.rd (i := 4) rfl) hu_2_0_1_0 hu_2_0_1_1 hu_2_0_1_2 hu_2_0_1_3 hu_2_0_1_4 hu_2_0_1_5 hu_2_0_1_6 hu_2_0_1_7 hC.give h21⟩) ?_
 rintro _ w24 ⟨rfl, hr22, hr23, hK⟩
 replace hC := hC.back hK
 clear hK
 refine lp (.tuple #[.int .i64 y20.1, .int .i64 y20.2]) (pu_move rfl) ?_
 refine lp (.int .i64 y20.1) (pu_extract rfl rfl) ?_
 refine lp (.int .i64 y20.2) (pu_extract rfl rfl) ?_
 refine lp (.int .i64 y20.1) (pu_assign rfl) ?_
 refine lp (.int .i64 y20.2) (pu_assign rfl) ?_
 refine ln ?_
 refine hK19 _ _ ?_
 refine Wc.seq fun K25 hK25 => ?_
 refine rg ?_
 refine lp (.int .i64 y13.1) (pu_move e6) ?_
 refine lp (.int .i64 y20.2) (pu_move rfl) ?_
 obtain ⟨z26, h27, hb⟩ := bd hb
 refine lp (.int .i64 z26) (pu_mulc (a := y13.1) (b := y20.2) rfl rfl h27) ?_
 refine lp (.int .i64 y20.1) (pu_move rfl) ?_
 refine lp (.int .i64 y13.2) (pu_move e7) ?_
 obtain ⟨z28, h29, hb⟩ := bd hb
 refine lp (.int .i64 z28) (pu_mulc (a := y20.1) (b := y13.2) rfl rfl h29) ?_
 obtain ⟨z30, h31, hb⟩ := bd hb
 refine lp (.int .i64 z30) (pu_subc (a := z26) (b := z28) rfl rfl h31) ?_
 refine lp (.int .i64 z30) (pu_assign rfl) ?_
 refine ln ?_
 refine hK25 _ _ ?_
 obtain rfl := os hb
 subst hI
 refine Wc.ret ?_
 refine hKR _ _ ?_
 refine ⟨_, res1 Try.results81 (show RV _ _ _ (.tmp _) (.int .i64 z30) from rfl), _, rfl, rfl, (chk_rng h31), hC.sel [5, 0, 1] (by decide)⟩

def slices_SortFunc_passage_passage_polygon_cross_c2Ren : Go.Shelf.Ren := ⟨fun x => match x with | 6 => 82 | 14 => 99 | 15 => 100 | 20 => 108 | 21 => 109 | 22 => 110 | 23 => 111 | 24 => 112 | 25 => 113 | 26 => 114 | 27 => 115 | 28 => 116 | 29 => 117 | 46 => 120 | 47 => 121 | 48 => 122 | 49 => 123 | 50 => 124 | 57 => 128 | _ => 0, fun x => match x with | 0 => 0 | 3 => 3 | 4 => 4 | 5 => 5 | 9 => 9 | 22 => 73 | 24 => 107 | 25 => 109 | 39 => 130 | 45 => 139 | 46 => 140 | 50 => 25 | 53 => 146 | 55 => 148 | 66 => 150 | 70 => 154 | 76 => 158 | 77 => 85 | _ => 0, fun _ => 0⟩
theorem slices_SortFunc_passage_passage_polygon_cross_c2Lays : Go.Proofs.SlLaysF0.n6 Try.prog slices_SortFunc_passage_passage_polygon_cross_c2Ren where
  mixed := mixed
  f6 := ⟨"slices.SortFunc[[]unravel/polygon.passage,unravel/polygon.passage]", by decide, by kernel_rfl⟩
  f14 := ⟨"slices.pdqsortCmpFunc[unravel/polygon.passage]", by decide, by kernel_rfl⟩
  f15 := by kernel_rfl
  f20 := ⟨"slices.insertionSortCmpFunc[unravel/polygon.passage]", by decide, by kernel_rfl⟩
  f21 := ⟨"slices.heapSortCmpFunc[unravel/polygon.passage]", by decide, by kernel_rfl⟩
  f22 := ⟨"slices.breakPatternsCmpFunc[unravel/polygon.passage]", by decide, by kernel_rfl⟩
  f23 := ⟨"slices.choosePivotCmpFunc[unravel/polygon.passage]", by decide, by kernel_rfl⟩
  f24 := ⟨"slices.reverseRangeCmpFunc[unravel/polygon.passage]", by decide, by kernel_rfl⟩
  f25 := ⟨"slices.partialInsertionSortCmpFunc[unravel/polygon.passage]", by decide, by kernel_rfl⟩
  f26 := ⟨"slices.partitionEqualCmpFunc[unravel/polygon.passage]", by decide, by kernel_rfl⟩
  f27 := ⟨"slices.partitionCmpFunc[unravel/polygon.passage]", by decide, by kernel_rfl⟩
  f28 := by kernel_rfl
  f29 := by kernel_rfl
  f46 := ⟨"slices.siftDownCmpFunc[unravel/polygon.passage]", by decide, by kernel_rfl⟩
  f47 := by kernel_rfl
  f48 := by kernel_rfl
  f49 := ⟨"slices.medianAdjacentCmpFunc[unravel/polygon.passage]", by decide, by kernel_rfl⟩
  f50 := ⟨"slices.medianCmpFunc[unravel/polygon.passage]", by decide, by kernel_rfl⟩
  f57 := ⟨"slices.order2CmpFunc[unravel/polygon.passage]", by decide, by kernel_rfl⟩
  t0 := Try.underlying0
  a0 := Try.isAgg0
  z0 := Try.sizeOf0
  v0 := Try.zeroValue0
  t3 := Try.underlying3
  a3 := Try.isAgg3
  z3 := Try.sizeOf3
  v3 := Try.zeroValue3
  t4 := Try.underlying4
  a4 := Try.isAgg4
  z4 := Try.sizeOf4
  v4 := Try.zeroValue4
  t5 := Try.underlying5
  a5 := Try.isAgg5
  z5 := Try.sizeOf5
  v5 := Try.zeroValue5
  t9 := Try.underlying9
  a9 := Try.isAgg9
  z9 := Try.sizeOf9
  v9 := Try.zeroValue9
  t22 := Try.underlying73
  a22 := Try.isAgg73
  z22 := Try.sizeOf73
  v22 := Try.zeroValue73
  t25 := Try.underlying109
  a25 := Try.isAgg109
  z25 := Try.sizeOf109
  v25 := Try.zeroValue109
  t39 := Try.underlying130
  a39 := Try.isAgg130
  z39 := Try.sizeOf130
  v39 := Try.zeroValue130
  t45 := Try.underlying139
  a45 := Try.isAgg139
  z45 := Try.sizeOf139
  v45 := Try.zeroValue139
  t46 := Try.underlying140
  a46 := Try.isAgg140
  z46 := Try.sizeOf140
  v46 := Try.zeroValue140
  t50 := Try.underlying25
  a50 := Try.isAgg25
  z50 := Try.sizeOf25
  v50 := Try.zeroValue25
  t53 := Try.underlying146
  a53 := Try.isAgg146
  z53 := Try.sizeOf146
  v53 := Try.zeroValue146
  t55 := Try.underlying148
  a55 := Try.isAgg148
  z55 := Try.sizeOf148
  v55 := Try.zeroValue148
  t66 := Try.underlying150
  a66 := Try.isAgg150
  z66 := Try.sizeOf150
  v66 := Try.zeroValue150
  t70 := Try.underlying154
  a70 := Try.isAgg154
  z70 := Try.sizeOf154
  v70 := Try.zeroValue154
  t76 := Try.underlying158
  a76 := Try.isAgg158
  z76 := Try.sizeOf158
  v76 := Try.zeroValue158
  t77 := Try.underlying85
  a77 := Try.isAgg85
  z77 := Try.sizeOf85
  v77 := Try.zeroValue85
set_option maxRecDepth 100000 in
set_option maxHeartbeats 4000000 in
theorem slices_SortFunc_passage_passage_polygon_cross_c2_ok (n : Nat) {w : World} {O0 : List Nat} (hO : ∀ k ∈ O0, k < w.heap.size) {A0 : Option Addr} {m0 c0 : Nat} {s_0 : List (Int × Bool)} {gu_0 : Nat} {gu_0_0_0 : Nat} {Au_0_0_0_0 : Option Addr} {mu_0_0_0_0 cu_0_0_0_0 : Nat} {u_0_0_0_0 : List ((Int × (Int × Int)) × ((Int × (Int × Int)) × (Int × Int)))} (hu_0_0_0_0 : Rep O0 w (.sl (.pr (.pr (.int .i64) (.pr (.int .i64) (.int .i64))) (.pr (.pr (.int .i64) (.pr (.int .i64) (.int .i64))) (.pr (.int .i64) (.int .i64))))) [.slice Au_0_0_0_0 mu_0_0_0_0 cu_0_0_0_0] u_0_0_0_0) {gu_0_0_1 : Nat} {u_0_0_1_0 : Int} (hu_0_0_1_0 : I64 u_0_0_1_0) {u_0_0_1_1 : Int} (hu_0_0_1_1 : I64 u_0_0_1_1) {u_0_0_1_2 : Int} (hu_0_0_1_2 : I64 u_0_0_1_2) {u_0_0_1_3 : Int} (hu_0_0_1_3 : I64 u_0_0_1_3) {u_0_0_1_4 : Int} (hu_0_0_1_4 : I64 u_0_0_1_4) {u_0_0_1_5 : Int} (hu_0_0_1_5 : I64 u_0_0_1_5) {u_0_0_1_6 : Int} (hu_0_0_1_6 : I64 u_0_0_1_6) {u_0_0_1_7 : Int} (hu_0_0_1_7 : I64 u_0_0_1_7) (hio : Tk O0 w [.own 107 (.pr (.int .i64) .bool) (.slice A0 m0 c0) s_0, .box gu_0 108 [.func (.func 80) #[] #[.pointer (some ⟨gu_0_0_0, 0, none⟩), .pointer (some ⟨gu_0_0_1, 0, none⟩)]], .box gu_0_0_0 68 [.slice Au_0_0_0_0 mu_0_0_0_0 cu_0_0_0_0], .box gu_0_0_1 105 [.int .i64 u_0_0_1_0, .int .i64 u_0_0_1_1, .int .i64 u_0_0_1_2, .int .i64 u_0_0_1_3, .int .i64 u_0_0_1_4, .int .i64 u_0_0_1_5, .int .i64 u_0_0_1_6, .int .i64 u_0_0_1_7]]) {r : List (Int × Bool)} (hb : F.slices_SortFunc_passage_passage_polygon_cross_c2 n s_0 u_0_0_0_0 u_0_0_1_0 u_0_0_1_1 u_0_0_1_2 u_0_0_1_3 u_0_0_1_4 u_0_0_1_5 u_0_0_1_6 u_0_0_1_7 = some r) :
    Calls Try.prog 82 #[.slice A0 m0 c0, .func (.func 81) #[] #[.pointer (some ⟨gu_0, 0, none⟩)]] w fun e w' => ∃ v, e = .returned v ∧ v = .tuple #[] ∧ Cx (fun k => k ∈ blocks [.own 107 (.pr (.int .i64) .bool) (.slice A0 m0 c0) s_0, .box gu_0 108 [.func (.func 80) #[] #[.pointer (some ⟨gu_0_0_0, 0, none⟩), .pointer (some ⟨gu_0_0_1, 0, none⟩)]], .box gu_0_0_0 68 [.slice Au_0_0_0_0 mu_0_0_0_0 cu_0_0_0_0], .box gu_0_0_1 105 [.int .i64 u_0_0_1_0, .int .i64 u_0_0_1_1, .int .i64 u_0_0_1_2, .int .i64 u_0_0_1_3, .int .i64 u_0_0_1_4, .int .i64 u_0_0_1_5, .int .i64 u_0_0_1_6, .int .i64 u_0_0_1_7]]) O0 w w' [.own 107 (.pr (.int .i64) .bool) (.slice A0 m0 c0) r, .box gu_0 108 [.func (.func 80) #[] #[.pointer (some ⟨gu_0_0_0, 0, none⟩), .pointer (some ⟨gu_0_0_1, 0, none⟩)]], .box gu_0_0_0 68 [.slice Au_0_0_0_0 mu_0_0_0_0 cu_0_0_0_0], .box gu_0_0_1 105 [.int .i64 u_0_0_1_0, .int .i64 u_0_0_1_1, .int .i64 u_0_0_1_2, .int .i64 u_0_0_1_3, .int .i64 u_0_0_1_4, .int .i64 u_0_0_1_5, .int .i64 u_0_0_1_6, .int .i64 u_0_0_1_7]] := by
 unfold F.slices_SortFunc_passage_passage_polygon_cross_c2 at hb
 split at hb
 rename_i hh
 obtain rfl := os hb
 obtain ⟨ha, hs, hl⟩ := hh
 refine sortKB (s := (.pr (.int .i64) .bool)) (e := 107) (B := [.box gu_0 108 [.func (.func 80) #[] #[.pointer (some ⟨gu_0_0_0, 0, none⟩), .pointer (some ⟨gu_0_0_1, 0, none⟩)]], .box gu_0_0_0 68 [.slice Au_0_0_0_0 mu_0_0_0_0 cu_0_0_0_0], .box gu_0_0_1 105 [.int .i64 u_0_0_1_0, .int .i64 u_0_0_1_1, .int .i64 u_0_0_1_2, .int .i64 u_0_0_1_3, .int .i64 u_0_0_1_4, .int .i64 u_0_0_1_5, .int .i64 u_0_0_1_6, .int .i64 u_0_0_1_7]]) slices_SortFunc_passage_passage_polygon_cross_c2Lays hO rfl Try.isAgg107 Try.sizeOf107 rfl hio Try.call81 (fun x y : (Int × Bool) => (F.polygon_cross_c2 n x.1 x.2 y.1 y.2 u_0_0_0_0 u_0_0_1_0 u_0_0_1_1 u_0_0_1_2 u_0_0_1_3 u_0_0_1_4 u_0_0_1_5 u_0_0_1_6 u_0_0_1_7).getD 0) hs hl ?_
 intro W x y u v hx hy hu hv hT hR hlt
 obtain ⟨q, hq⟩ := Option.isSome_iff_exists.1 (List.all_eq_true.1 (List.all_eq_true.1 ha x hx) y hy)
 obtain ⟨k5, k6, rfl, hr7, hr8⟩ := hu
 obtain ⟨rfl, hr7⟩ := hr7
 obtain rfl := (show _ = _ from hr8)
 obtain ⟨k9, k10, rfl, hr11, hr12⟩ := hv
 obtain ⟨rfl, hr11⟩ := hr11
 obtain rfl := (show _ = _ from hr12)
 have ea : (#[.agg #[.int .i64 x.1, .bool x.2], .agg #[.int .i64 y.1, .bool y.2]] ++ #[.pointer (some ⟨gu_0, 0, none⟩)] : Array Value) = #[.agg #[.int .i64 x.1, .bool x.2], .agg #[.int .i64 y.1, .bool y.2], .pointer (some ⟨gu_0, 0, none⟩)] := by simp
 refine (show Calls _ _ (#[.agg #[.int .i64 x.1, .bool x.2], .agg #[.int .i64 y.1, .bool y.2]] ++ #[.pointer (some ⟨gu_0, 0, none⟩)]) W _ from ea ▸ (polygon_cross_c2_ok n hlt (wrap_I64 hr7) (wrap_I64 hr11) (hR hu_0_0_0_0) hu_0_0_1_0 hu_0_0_1_1 hu_0_0_1_2 hu_0_0_1_3 hu_0_0_1_4 hu_0_0_1_5 hu_0_0_1_6 hu_0_0_1_7 hT hq)).mono ?_
 rintro e W' ⟨v, rfl, rfl, hi, hK⟩
 exact ⟨_, rfl, by show _ = Value.int .i64 ((F.polygon_cross_c2 n x.1 x.2 y.1 y.2 u_0_0_0_0 u_0_0_1_0 u_0_0_1_1 u_0_0_1_2 u_0_0_1_3 u_0_0_1_4 u_0_0_1_5 u_0_0_1_6 u_0_0_1_7).getD 0); rw [hq]; rfl, hK⟩
 cases hb

set_option maxRecDepth 100000 in
set_option maxHeartbeats 4000000 in
theorem polygon_sign_ok (n : Nat) {w : World} {O0 : List Nat} (hO : ∀ k ∈ O0, k < w.heap.size) {over_0_0 : Int} (hover_0_0 : I64 over_0_0) {over_0_1 : Int} (hover_0_1 : I64 over_0_1) {over_0_2 : Int} (hover_0_2 : I64 over_0_2) {over_0_3 : Int} (hover_0_3 : I64 over_0_3) {over_0_4 : Int} (hover_0_4 : I64 over_0_4) {over_0_5 : Int} (hover_0_5 : I64 over_0_5) {over_0_6 : Int} (hover_0_6 : I64 over_0_6) {over_0_7 : Int} (hover_0_7 : I64 over_0_7) {under_1_0 : Int} (hunder_1_0 : I64 under_1_0) {under_1_1 : Int} (hunder_1_1 : I64 under_1_1) {under_1_2 : Int} (hunder_1_2 : I64 under_1_2) {under_1_3 : Int} (hunder_1_3 : I64 under_1_3) {under_1_4 : Int} (hunder_1_4 : I64 under_1_4) {under_1_5 : Int} (hunder_1_5 : I64 under_1_5) {under_1_6 : Int} (hunder_1_6 : I64 under_1_6) {under_1_7 : Int} (hunder_1_7 : I64 under_1_7) {r : Int} (hb : F.polygon_sign n over_0_0 over_0_1 over_0_2 over_0_3 over_0_4 over_0_5 over_0_6 over_0_7 under_1_0 under_1_1 under_1_2 under_1_3 under_1_4 under_1_5 under_1_6 under_1_7 = some r) :
    Calls Try.prog 87 #[.agg #[.int .i64 over_0_0, .int .i64 over_0_1, .int .i64 over_0_2, .int .i64 over_0_3, .int .i64 over_0_4, .int .i64 over_0_5, .int .i64 over_0_6, .int .i64 over_0_7], .agg #[.int .i64 under_1_0, .int .i64 under_1_1, .int .i64 under_1_2, .int .i64 under_1_3, .int .i64 under_1_4, .int .i64 under_1_5, .int .i64 under_1_6, .int .i64 under_1_7]] w fun e w' => ∃ v, e = .returned v ∧ v = .int .i64 r ∧ I64 r ∧ Cx (fun _ => False) O0 w w' [] := by
 unfold F.polygon_sign at hb
 have hC := Cx.start hO
 clear hO
 refine calls_of_Wc Try.func87 rfl (by rw [Try.ntmps87]; exact Nat.le_of_ble_eq_true rfl) fun KR hKR => ?_
 refine Wc.seq fun K1 hK1 => ?_
 refine rg ?_
 refine lex.op (hC.box (cs := [.int .i64 over_0_0, .int .i64 over_0_1, .int .i64 over_0_2, .int .i64 over_0_3, .int .i64 over_0_4, .int .i64 over_0_5, .int .i64 over_0_6, .int .i64 over_0_7]) rfl rfl) ?_
 rintro _ w3 ⟨g2, rfl, hC, hF, hG⟩
 clear hG
 refine lex.op (hC.box (cs := [.int .i64 under_1_0, .int .i64 under_1_1, .int .i64 under_1_2, .int .i64 under_1_3, .int .i64 under_1_4, .int .i64 under_1_5, .int .i64 under_1_6, .int .i64 under_1_7]) rfl rfl) ?_
 rintro _ w6 ⟨g5, rfl, hC, hF, hG⟩
 clear hG
 refine lp (.int .i64 0) (pu_assign rfl) ?_
 refine ln ?_
 refine hK1 _ _ ?_
 refine Wc.seq fun K8 hK8 => ?_
 refine Wc.regionMix [] (frm [] ([] : List Fact) ([] : List Fact)) (fun _ => rfl) mixed (by decide +kernel) (by decide +kernel) fun w10 hw9 => ?_
 replace hC := hC.step (Fr.of_drew hw9)
 have hM := Fr.refl (fun k => k ∈ blocks ([] : List Fact)) w10
 clear hw9
 have hS := hC
 refine mp (.pointer (some ((⟨g2, 0, none⟩ : Addr).add 3))) (pu_field (sz := 3) Try.underlying105 rfl Try.sizeOf23 (by decide) rfl rfl) ?_
 refine mp (.pointer (some ((⟨g2, 0, none⟩ : Addr).add 3))) (pu_field (A := ((⟨g2, 0, none⟩ : Addr).add 3)) (off := 0) (sz := 1) Try.underlying23 rfl Try.sizeOf3 (by decide) rfl rfl) ?_
 refine mixE.load hM (v := .int .i64 over_0_3) (fun _ hF => ld_fld (hS.bx2 (i := 1) rfl [] (by decide) hF) Try.isAgg3 rfl rfl) ?_
 refine mp (.pointer (some ((⟨g2, 0, none⟩ : Addr).add 0))) (pu_field (sz := 3) Try.underlying105 rfl Try.sizeOf23 (by decide) rfl rfl) ?_
 refine mp (.pointer (some ((⟨g2, 0, none⟩ : Addr).add 0))) (pu_field (A := ((⟨g2, 0, none⟩ : Addr).add 0)) (off := 0) (sz := 1) Try.underlying23 rfl Try.sizeOf3 (by decide) rfl rfl) ?_
 refine mixE.load hM (v := .int .i64 over_0_0) (fun _ hF => ld_fld (hS.bx2 (i := 1) rfl [] (by decide) hF) Try.isAgg3 rfl rfl) ?_
 obtain ⟨z11, h12, hb⟩ := bd hb
 refine mp (.int .i64 z11) (pu_subc (a := over_0_3) (b := over_0_0) rfl rfl h12) ?_
 refine mp (.pointer (some ((⟨g2, 0, none⟩ : Addr).add 3))) (pu_field (sz := 3) Try.underlying105 rfl Try.sizeOf23 (by decide) rfl rfl) ?_
 refine mp (.pointer (some ((⟨g2, 0, none⟩ : Addr).add 4))) (pu_field (A := ((⟨g2, 0, none⟩ : Addr).add 3)) (off := 1) (sz := 1) Try.underlying23 rfl Try.sizeOf3 (by decide) rfl rfl) ?_
 refine mixE.load hM (v := .int .i64 over_0_4) (fun _ hF => ld_fld (hS.bx2 (i := 1) rfl [] (by decide) hF) Try.isAgg3 rfl rfl) ?_
 refine mp (.pointer (some ((⟨g2, 0, none⟩ : Addr).add 0))) (pu_field (sz := 3) Try.underlying105 rfl Try.sizeOf23 (by decide) rfl rfl) ?_
 refine mp (.pointer (some ((⟨g2, 0, none⟩ : Addr).add 1))) (pu_field (A := ((⟨g2, 0, none⟩ : Addr).add 0)) (off := 1) (sz := 1) Try.underlying23 rfl Try.sizeOf3 (by decide) rfl rfl) ?_
 refine mixE.load hM (v := .int .i64 over_0_1) (fun _ hF => ld_fld (hS.bx2 (i := 1) rfl [] (by decide) hF) Try.isAgg3 rfl rfl) ?_
 obtain ⟨z13, h14, hb⟩ := bd hb
 refine mp (.int .i64 z13) (pu_subc (a := over_0_4) (b := over_0_1) rfl rfl h14) ?_
 refine mp (.int .i64 z11) (pu_assign rfl) ?_
 refine mp (.int .i64 z13) (pu_assign rfl) ?_
 refine mixE.nil ?_
 clear hS hM
 refine hK8 _ _ ?_
 refine Wc.fresh fun E15 hE => ?_
 have e3 : E15 3 = .pointer (some ⟨g5, 0, none⟩) := (congrFun hE 3).trans rfl
 have e4 : E15 4 = .int .i64 0 := (congrFun hE 4).trans rfl
 have e5 : E15 5 = .int .i64 z11 := (congrFun hE 5).trans rfl
 have e6 : E15 6 = .int .i64 z13 := (congrFun hE 6).trans rfl
 clear hE
 refine Wc.seq fun K16 hK16 => ?_
 refine Wc.seq fun K17 hK17 => ?_
 refine rg ?_
 refine lp (.int .i64 z11) (pu_move e5) ?_
 refine lp (.pointer (some ((⟨g5, 0, none⟩ : Addr).add 3))) (pu_field (sz := 3) Try.underlying105 rfl Try.sizeOf23 (by decide) rfl e3) ?_
 refine lp (.pointer (some ((⟨g5, 0, none⟩ : Addr).add 4))) (pu_field (A := ((⟨g5, 0, none⟩ : Addr).add 3)) (off := 1) (sz := 1) Try.underlying23 rfl Try.sizeOf3 (by decide) rfl rfl) ?_
 refine lv (.int .i64 under_1_4) (ld_fld (hC.bx (i := 0) rfl) Try.isAgg3 rfl rfl) ?_
 refine lp (.pointer (some ((⟨g5, 0, none⟩ : Addr).add 0))) (pu_field (sz := 3) Try.underlying105 rfl Try.sizeOf23 (by decide) rfl e3) ?_
 refine lp (.pointer (some ((⟨g5, 0, none⟩ : Addr).add 1))) (pu_field (A := ((⟨g5, 0, none⟩ : Addr).add 0)) (off := 1) (sz := 1) Try.underlying23 rfl Try.sizeOf3 (by decide) rfl rfl) ?_
 refine lv (.int .i64 under_1_1) (ld_fld (hC.bx (i := 0) rfl) Try.isAgg3 rfl rfl) ?_
 obtain ⟨z18, h19, hb⟩ := bd hb
 refine lp (.int .i64 z18) (pu_subc (a := under_1_4) (b := under_1_1) rfl rfl h19) ?_
 obtain ⟨z20, h21, hb⟩ := bd hb
 refine lp (.int .i64 z20) (pu_mulc (a := z11) (b := z18) rfl rfl h21) ?_
 refine lp (.int .i64 z13) (pu_move e6) ?_
 refine lp (.pointer (some ((⟨g5, 0, none⟩ : Addr).add 3))) (pu_field (sz := 3) Try.underlying105 rfl Try.sizeOf23 (by decide) rfl e3) ?_
 refine lp (.pointer (some ((⟨g5, 0, none⟩ : Addr).add 3))) (pu_field (A := ((⟨g5, 0, none⟩ : Addr).add 3)) (off := 0) (sz := 1) Try.underlying23 rfl Try.sizeOf3 (by decide) rfl rfl) ?_
 refine lv (.int .i64 under_1_3) (ld_fld (hC.bx (i := 0) rfl) Try.isAgg3 rfl rfl) ?_
 refine lp (.pointer (some ((⟨g5, 0, none⟩ : Addr).add 0))) (pu_field (sz := 3) Try.underlying105 rfl Try.sizeOf23 (by decide) rfl e3) ?_
 refine lp (.pointer (some ((⟨g5, 0, none⟩ : Addr).add 0))) (pu_field (A := ((⟨g5, 0, none⟩ : Addr).add 0)) (off := 0) (sz := 1) Try.underlying23 rfl Try.sizeOf3 (by decide) rfl rfl) ?_
 refine lv (.int .i64 under_1_0) (ld_fld (hC.bx (i := 0) rfl) Try.isAgg3 rfl rfl) ?_
 obtain ⟨z22, h23, hb⟩ := bd hb
 refine lp (.int .i64 z22) (pu_subc (a := under_1_3) (b := under_1_0) rfl rfl h23) ?_
 obtain ⟨z24, h25, hb⟩ := bd hb
 refine lp (.int .i64 z24) (pu_mulc (a := z13) (b := z22) rfl rfl h25) ?_
 obtain ⟨z26, h27, hb⟩ := bd hb
 refine lp (.int .i64 z26) (pu_subc (a := z20) (b := z24) rfl rfl h27) ?_
 refine lp (.bool (decide (0 < z26))) (pu_gtr (k := .i64) (a := z26) (b := 0) rfl rfl) ?_
 refine ln ?_
 refine hK17 _ _ ?_
 refine Wc.cond (t := (decide (0 < z26))) (rfl) (fun hq28 => ?_) (fun hq28 => ?_)
 replace hb := tt hq28 hb
 refine Wc.seq fun K29 hK29 => ?_
 refine rg ?_
 refine lp (.int .i64 1) (pu_assign rfl) ?_
 refine ln ?_
 refine hK29 _ _ ?_
 obtain rfl := os hb
 refine Wc.ret ?_
 refine hKR _ _ ?_
 refine ⟨_, res1 Try.results87 (show RV _ _ _ (.tmp _) (.int .i64 1) from rfl), _, rfl, rfl, (show I64 1 from by unfold I64; omega), hC.sel [] (by decide)⟩
 replace hb := tf hq28 hb
 refine Wc.skip ?_
 refine hK16 _ _ ?_
 refine Wc.seq fun K30 hK30 => ?_
 refine rg ?_
 refine lp (.int .i64 (-1)) (pu_assign rfl) ?_
 refine ln ?_
 refine hK30 _ _ ?_
 obtain rfl := os hb
 refine Wc.ret ?_
 refine hKR _ _ ?_
 refine ⟨_, res1 Try.results87 (show RV _ _ _ (.tmp _) (.int .i64 (-1)) from rfl), _, rfl, rfl, (show I64 (-1) from by unfold I64; omega), hC.sel [] (by decide)⟩

set_option maxRecDepth 100000 in
set_option maxHeartbeats 4000000 in
theorem gauss_Valid_ok (n : Nat) {w : World} {O0 : List Nat} (hO : ∀ k ∈ O0, k < w.heap.size) {Ac_0_0 : Option Addr} {mc_0_0 cc_0_0 : Nat} {c_0_0 : List (List (Int × Bool))} (hc_0_0 : Rep O0 w (.sl (.sl (.pr (.int .i64) .bool))) [.slice Ac_0_0 mc_0_0 cc_0_0] c_0_0) {Ac_0_1 : Option Addr} {mc_0_1 cc_0_1 : Nat} {c_0_1 : List Int} (hc_0_1 : Rep O0 w (.sl (.int .i64)) [.slice Ac_0_1 mc_0_1 cc_0_1] c_0_1) {c_0_2 : Int} (hc_0_2 : I64 c_0_2) {r : Bool} (hb : F.gauss_Valid n c_0_0 c_0_1 c_0_2 = some r) :
    Calls Try.prog 83 #[.agg #[.slice Ac_0_0 mc_0_0 cc_0_0, .slice Ac_0_1 mc_0_1 cc_0_1, .int .i64 c_0_2]] w fun e w' => ∃ v, e = .returned v ∧ v = .bool r ∧ Cx (fun _ => False) O0 w w' [] := by
 unfold F.gauss_Valid at hb
 have hC := Cx.start hO
 replace hC := hC.arg rfl hc_0_0
 replace hC := hC.arg rfl hc_0_1
 clear hO
 obtain ⟨rfl, hlc_0_0, hcc_0_0⟩ := hc_0_0.sl_len
 obtain ⟨rfl, hlc_0_1, hcc_0_1⟩ := hc_0_1.sl_len
 refine calls_of_Wc Try.func83 rfl (by rw [Try.ntmps83]; exact Nat.le_of_ble_eq_true rfl) fun KR hKR => ?_
 refine Wc.seq fun K3 hK3 => ?_
 refine rg ?_
 refine lex.op (hC.box (cs := [.slice Ac_0_0 c_0_0.length cc_0_0, .slice Ac_0_1 c_0_1.length cc_0_1, .int .i64 c_0_2]) rfl rfl) ?_
 rintro _ w5 ⟨g4, rfl, hC, hF, hG⟩
 clear hG
 refine lp (.bool false) (pu_assign rfl) ?_
 refine ln ?_
 refine hK3 _ _ ?_
 refine Wc.seq fun K7 hK7 => ?_
 refine rg ?_
 refine lp (.pointer (some ((⟨g4, 0, none⟩ : Addr).add 1))) (pu_field (sz := 1) Try.underlying77 rfl Try.sizeOf30 (by decide) rfl rfl) ?_
 refine lv (.slice Ac_0_1 c_0_1.length cc_0_1) (ld_fld (hC.bx (i := 0) rfl) Try.isAgg30 rfl rfl) ?_
 refine lp (.int .i64 (c_0_1.length : Int)) (pu_len (A := Ac_0_1) (n := c_0_1.length) (m := cc_0_1) Try.underlying30 rfl) ?_
 refine lp (.int .i64 (c_0_1.length : Int)) (pu_assign rfl) ?_
 refine ln ?_
 refine hK7 _ _ ?_
 refine Wc.seq fun K8 hK8 => ?_
 refine Wc.seq fun K9 hK9 => ?_
 refine rg ?_
 refine lp (.int .i64 (c_0_1.length : Int)) (pu_move rfl) ?_
 refine lp (.bool (decide (64 < (c_0_1.length : Int)))) (pu_gtr (k := .i64) (a := (c_0_1.length : Int)) (b := 64) rfl rfl) ?_
 refine lp (.bool (decide (64 < (c_0_1.length : Int)))) (pu_move rfl) ?_
 rcases bS (decide (64 < (c_0_1.length : Int))) with hq10 | hq10
 replace hb := tt hq10 hb
 refine gs rfl rfl (decide (64 < (c_0_1.length : Int))) rfl hq10 ?_
 refine gs rfl rfl (decide (64 < (c_0_1.length : Int))) rfl hq10 ?_
 refine gs rfl rfl (decide (64 < (c_0_1.length : Int))) rfl hq10 ?_
 refine lp (.bool true) (pu_pickT (q := (decide (64 < (c_0_1.length : Int)))) rfl hq10 rfl) ?_
 refine lp (.bool true) (pu_move rfl) ?_
 refine gs rfl rfl true rfl rfl ?_
 refine gs rfl rfl true rfl rfl ?_
 refine gs rfl rfl true rfl rfl ?_
 refine lp (.bool true) (pu_pickT (q := true) rfl rfl rfl) ?_
 refine ln ?_
 refine hK9 _ _ ?_
 refine Wc.cond_true (rfl) ?_
 refine Wc.seq fun K11 hK11 => ?_
 refine rg ?_
 refine lp (.bool false) (pu_assign rfl) ?_
 refine ln ?_
 refine hK11 _ _ ?_
 obtain rfl := os hb
 refine Wc.ret ?_
 refine hKR _ _ ?_
 refine ⟨_, res1 Try.results83 (show RV _ _ _ (.tmp _) (.bool false) from rfl), _, rfl, rfl, hC.sel [] (by decide)⟩
 replace hb := tf hq10 hb
 refine gp rfl rfl (decide (64 < (c_0_1.length : Int))) rfl hq10 (.pointer (some ((⟨g4, 0, none⟩ : Addr).add 2))) (pu_field (sz := 1) Try.underlying77 rfl Try.sizeOf3 (by decide) rfl rfl) ?_
 refine gv rfl rfl (decide (64 < (c_0_1.length : Int))) rfl hq10 (.int .i64 c_0_2) (ld_fld (hC.bx (i := 0) rfl) Try.isAgg3 rfl rfl) ?_
 refine gp rfl rfl (decide (64 < (c_0_1.length : Int))) rfl hq10 (.bool (decide (c_0_2 < 0))) (pu_lss (k := .i64) (a := c_0_2) (b := 0) rfl rfl) ?_
 refine lp (.bool (decide (c_0_2 < 0))) (pu_pickF (q := (decide (64 < (c_0_1.length : Int)))) rfl hq10 rfl) ?_
 refine lp (.bool (decide (c_0_2 < 0))) (pu_move rfl) ?_
 rcases bS (decide (c_0_2 < 0)) with hq12 | hq12
 replace hb := tt hq12 hb
 refine gs rfl rfl (decide (c_0_2 < 0)) rfl hq12 ?_
 refine gs rfl rfl (decide (c_0_2 < 0)) rfl hq12 ?_
 refine gs rfl rfl (decide (c_0_2 < 0)) rfl hq12 ?_
 refine lp (.bool true) (pu_pickT (q := (decide (c_0_2 < 0))) rfl hq12 rfl) ?_
 refine ln ?_
 refine hK9 _ _ ?_
 refine Wc.cond_true (rfl) ?_
 refine Wc.seq fun K13 hK13 => ?_
 refine rg ?_
 refine lp (.bool false) (pu_assign rfl) ?_
 refine ln ?_
 refine hK13 _ _ ?_
 obtain rfl := os hb
 refine Wc.ret ?_
 refine hKR _ _ ?_
 refine ⟨_, res1 Try.results83 (show RV _ _ _ (.tmp _) (.bool false) from rfl), _, rfl, rfl, hC.sel [] (by decide)⟩
 replace hb := tf hq12 hb
 refine gp rfl rfl (decide (c_0_2 < 0)) rfl hq12 (.pointer (some ((⟨g4, 0, none⟩ : Addr).add 2))) (pu_field (sz := 1) Try.underlying77 rfl Try.sizeOf3 (by decide) rfl rfl) ?_
 refine gv rfl rfl (decide (c_0_2 < 0)) rfl hq12 (.int .i64 c_0_2) (ld_fld (hC.bx (i := 0) rfl) Try.isAgg3 rfl rfl) ?_
 refine gp rfl rfl (decide (c_0_2 < 0)) rfl hq12 (.bool (decide (64 < c_0_2))) (pu_gtr (k := .i64) (a := c_0_2) (b := 64) rfl rfl) ?_
 refine lp (.bool (decide (64 < c_0_2))) (pu_pickF (q := (decide (c_0_2 < 0))) rfl hq12 rfl) ?_
 refine ln ?_
 refine hK9 _ _ ?_
 refine Wc.cond (t := (decide (64 < c_0_2))) (rfl) (fun hq14 => ?_) (fun hq14 => ?_)
 replace hb := tt hq14 hb
 refine Wc.seq fun K15 hK15 => ?_
 refine rg ?_
 refine lp (.bool false) (pu_assign rfl) ?_
 refine ln ?_
 refine hK15 _ _ ?_
 obtain rfl := os hb
 refine Wc.ret ?_
 refine hKR _ _ ?_
 refine ⟨_, res1 Try.results83 (show RV _ _ _ (.tmp _) (.bool false) from rfl), _, rfl, rfl, hC.sel [] (by decide)⟩
 replace hb := tf hq14 hb
 refine Wc.skip ?_
 refine hK8 _ _ ?_
 refine Wc.fresh fun E16 hE => ?_
 have e1 : E16 1 = .pointer (some ⟨g4, 0, none⟩) := (congrFun hE 1).trans rfl
 have e2 : E16 2 = .bool false := (congrFun hE 2).trans rfl
 have e3 : E16 3 = .int .i64 (c_0_1.length : Int) := (congrFun hE 3).trans rfl
 clear hE
 refine Wc.seq fun K17 hK17 => ?_
 refine Wc.seq fun K18 hK18 => ?_
 refine rg ?_
 refine lp (.pointer (some ((⟨g4, 0, none⟩ : Addr).add 1))) (pu_field (sz := 1) Try.underlying77 rfl Try.sizeOf30 (by decide) rfl e1) ?_
 refine lv (.slice Ac_0_1 c_0_1.length cc_0_1) (ld_fld (hC.bx (i := 0) rfl) Try.isAgg30 rfl rfl) ?_
 refine lp (.int .i64 (c_0_1.length : Int)) (pu_len (A := Ac_0_1) (n := c_0_1.length) (m := cc_0_1) Try.underlying30 rfl) ?_
 refine lp (.int .i64 0) (pu_move rfl) ?_
 refine ln ?_
 refine hK18 _ _ ?_
 obtain ⟨o19, hl0, hb⟩ := bd hb
 refine Wc.cut (fun E wv => ∃ (v32_0 : Int), E 1 = .pointer (some ⟨g4, 0, none⟩) ∧ E 2 = .bool false ∧ E 3 = .int .i64 (c_0_1.length : Int) ∧ I64 v32_0 ∧ Cx (fun _ => False) O0 w wv [.box g4 77 [.slice Ac_0_0 c_0_0.length cc_0_0, .slice Ac_0_1 c_0_1.length cc_0_1, .int .i64 c_0_2], .ro (.sl (.sl (.pr (.int .i64) .bool))) [.slice Ac_0_0 c_0_0.length cc_0_0] c_0_0, .ro (.sl (.int .i64)) [.slice Ac_0_1 c_0_1.length cc_0_1] c_0_1] ∧ ((pos (c_0_1.length : Int)).bind fun u48 => (pos (c_0_1.length : Int)).bind fun u57 => ((loopN n (F.gauss_Valid_b1 n c_0_0 c_0_1) (0, 0, (List.replicate (c_0_1.length : Int).toNat false), (List.replicate (c_0_1.length : Int).toNat false))).bind fun o69 => match o69 with     | (.inl (v8_1, v50_1, qf55_1, qf64_1)) => (chk (2 * (c_0_1.length : Int))).bind fun z187 => some (decide (v8_1 = z187))     | (.inr q) => some q) : Option (Bool)) = some r) (fun K20 hK20 => ?_) ?_
 refine Wc.block ?_
 refine Wc.loop (fun m E wv => ∃ (v32_0 : Int), E 1 = .pointer (some ⟨g4, 0, none⟩) ∧ E 2 = .bool false ∧ E 3 = .int .i64 (c_0_1.length : Int) ∧ E 30 = .slice Ac_0_1 c_0_1.length cc_0_1 ∧ E 31 = .int .i64 (c_0_1.length : Int) ∧ E 32 = .int .i64 v32_0 ∧ I64 v32_0 ∧ Cx (fun _ => False) O0 w wv [.box g4 77 [.slice Ac_0_0 c_0_0.length cc_0_0, .slice Ac_0_1 c_0_1.length cc_0_1, .int .i64 c_0_2], .ro (.sl (.sl (.pr (.int .i64) .bool))) [.slice Ac_0_0 c_0_0.length cc_0_0] c_0_0, .ro (.sl (.int .i64)) [.slice Ac_0_1 c_0_1.length cc_0_1] c_0_1] ∧ loopN m (F.gauss_Valid_b0 n c_0_1) v32_0 = some o19) n ⟨0, e1, e2, e3, rfl, rfl, rfl, (show I64 0 from by unfold I64; omega), hC.sel [0, 2, 1] (by decide), hl0⟩ ?_
 have hbK0 := hb
 clear hb hC hl0
 rintro m22 E24 w23 ⟨v32_0, e1, e2, e3, e30, e31, e32, hrv32_0, hC, hl0⟩ K21 hK21
 obtain ⟨m22', o25, rfl, hb, hl0⟩ := loopN_some hl0
 unfold F.gauss_Valid_b0 at hb
 refine Wc.seq fun K26 hK26 => ?_
 refine rg ?_
 refine lp (.bool (decide (v32_0 < (c_0_1.length : Int)))) (pu_lss (k := .i64) (a := v32_0) (b := (c_0_1.length : Int)) e32 e31) ?_
 refine ln ?_
 refine hK26 _ _ ?_
 refine Wc.seq fun K27 hK27 => ?_
 refine Wc.cond (t := (decide (v32_0 < (c_0_1.length : Int)))) (rfl) (fun hq28 => ?_) (fun hq28 => ?_)
 replace hb := tt hq28 hb
 refine Wc.skip ?_
 refine hK27 _ _ ?_
 refine Wc.seq fun K29 hK29 => ?_
 refine Wc.block ?_
 refine Wc.seq fun K30 hK30 => ?_
 refine rg ?_
 obtain ⟨x31, h32, hb⟩ := bd hb
 obtain ⟨ad33, cs34, hA, hc35, hr36⟩ := hC.elr (i := 2) rfl (get_some h32).2
 subst hA
 refine lp (.pointer (some (ad33.add (v32_0.toNat * 1)))) (pu_index (a := v32_0) Try.underlying30 Try.sizeOf3 e30 e32 (get_some h32).1) ?_
 obtain ⟨rfl, hr36'⟩ := hr36
 refine lv (.int .i64 x31) (ld_one Try.isAgg3 rfl (hc35 0 _ rfl)) ?_
 refine lp (.int .i64 x31) (pu_assign rfl) ?_
 refine ln ?_
 refine hK30 _ _ ?_
 refine Wc.seq fun K37 hK37 => ?_
 refine rg ?_
 refine lp (.int .i64 x31) (pu_move rfl) ?_
 refine lp (.bool (!(decide (x31 = 1)))) (pu_neq (k := .i64) (a := x31) (b := 1) rfl rfl) ?_
 refine lp (.bool (!(decide (x31 = 1)))) (pu_move rfl) ?_
 rcases bS (!(decide (x31 = 1))) with hq38 | hq38
 replace hb := tt hq38 hb
 refine gp rfl rfl (!(decide (x31 = 1))) rfl hq38 (.int .i64 x31) (pu_move rfl) ?_
 refine gp rfl rfl (!(decide (x31 = 1))) rfl hq38 (.bool (!(decide (x31 = (-1))))) (pu_neq (k := .i64) (a := x31) (b := (-1)) rfl rfl) ?_
 refine lp (.bool (!(decide (x31 = (-1))))) (pu_pickT (q := (!(decide (x31 = 1)))) rfl hq38 rfl) ?_
 refine ln ?_
 refine hK37 _ _ ?_
 refine Wc.cond (t := (!(decide (x31 = (-1))))) (rfl) (fun hq39 => ?_) (fun hq39 => ?_)
 replace hb := tt hq39 hb
 refine Wc.seq fun K40 hK40 => ?_
 refine rg ?_
 refine lp (.bool false) (pu_assign rfl) ?_
 refine ln ?_
 refine hK40 _ _ ?_
 obtain rfl := os hb
 obtain rfl := (lX hl0).symm
 replace hb := hbK0
 obtain rfl := os hb
 refine Wc.ret ?_
 refine hKR _ _ ?_
 refine ⟨_, res1 Try.results83 (show RV _ _ _ (.tmp _) (.bool false) from rfl), _, rfl, rfl, hC.sel [] (by decide)⟩
 replace hb := tf hq39 hb
 refine Wc.skip ?_
 refine hK29 _ _ ?_
 refine rg ?_
 obtain ⟨z41, h42, hb⟩ := bd hb
 refine lp (.int .i64 z41) (pu_addc (a := v32_0) (b := 1) e32 rfl h42) ?_
 refine lp (.int .i64 z41) (pu_move rfl) ?_
 refine ln ?_
 obtain rfl := os hb
 exact hK21 m22' _ _ (Nat.lt_succ_self _) ⟨z41, e1, e2, e3, e30, e31, rfl, (chk_rng h42), hC.sel [0, 1, 2] (by decide), lN hl0⟩
 replace hb := tf hq38 hb
 refine gs rfl rfl (!(decide (x31 = 1))) rfl hq38 ?_
 refine gs rfl rfl (!(decide (x31 = 1))) rfl hq38 ?_
 refine lp (.bool false) (pu_pickF (q := (!(decide (x31 = 1)))) rfl hq38 rfl) ?_
 refine ln ?_
 refine hK37 _ _ ?_
 refine Wc.cond_false (rfl) ?_
 refine Wc.skip ?_
 refine hK29 _ _ ?_
 refine rg ?_
 obtain ⟨z43, h44, hb⟩ := bd hb
 refine lp (.int .i64 z43) (pu_addc (a := v32_0) (b := 1) e32 rfl h44) ?_
 refine lp (.int .i64 z43) (pu_move rfl) ?_
 refine ln ?_
 obtain rfl := os hb
 exact hK21 m22' _ _ (Nat.lt_succ_self _) ⟨z43, e1, e2, e3, e30, e31, rfl, (chk_rng h44), hC.sel [0, 1, 2] (by decide), lN hl0⟩
 replace hb := tf hq28 hb
 refine Wc.exit rfl ?_
 obtain rfl := os hb
 obtain rfl := (lX hl0).symm
 exact hK20 _ _ ⟨v32_0, e1, e2, e3, hrv32_0, hC.sel [0, 1, 2] (by decide), hbK0⟩
 clear hb hC hl0
 rintro E46 w45 ⟨v32_0, e1, e2, e3, hrv32_0, hC, hb⟩
 refine hK17 _ _ ?_
 refine Wc.seq fun K47 hK47 => ?_
 refine rg ?_
 refine lp (.int .i64 (c_0_1.length : Int)) (pu_move e3) ?_
 obtain ⟨u48, h49, hb⟩ := bd hb
 refine lex.op (hC.make (s := .bool) (n := (c_0_1.length : Int)) Try.underlying122 Try.type4 rfl rfl rfl rfl rfl (pos_some h49).1 (pos_some h49).2 (by decide)) ?_
 rintro _ w54 ⟨A50, c51, rfl, hl52, hc53, hC, hF, hN⟩
 clear hF hN
 refine lp (.slice A50 (((List.replicate (c_0_1.length : Int).toNat false)).length) c51) (pu_assign rfl) ?_
 refine ln ?_
 refine hK47 _ _ ?_
 refine Wc.seq fun K56 hK56 => ?_
 refine rg ?_
 refine lp (.int .i64 (c_0_1.length : Int)) (pu_move e3) ?_
 obtain ⟨u57, h58, hb⟩ := bd hb
 refine lex.op (hC.make (s := .bool) (n := (c_0_1.length : Int)) Try.underlying122 Try.type4 rfl rfl rfl rfl rfl (pos_some h58).1 (pos_some h58).2 (by decide)) ?_
 rintro _ w63 ⟨A59, c60, rfl, hl61, hc62, hC, hF, hN⟩
 clear hF hN
 refine lp (.slice A59 (((List.replicate (c_0_1.length : Int).toNat false)).length) c60) (pu_assign rfl) ?_
 refine ln ?_
 refine hK56 _ _ ?_
 refine Wc.seq fun K65 hK65 => ?_
 refine rg ?_
 refine lp (.int .i64 0) (pu_assign rfl) ?_
 refine ln ?_
 refine hK65 _ _ ?_
 refine Wc.seq fun K66 hK66 => ?_
 refine Wc.seq fun K67 hK67 => ?_
 refine rg ?_
 refine lp (.pointer (some ((⟨g4, 0, none⟩ : Addr).add 0))) (pu_field (sz := 1) Try.underlying77 rfl Try.sizeOf75 (by decide) rfl e1) ?_
 refine lv (.slice Ac_0_0 c_0_0.length cc_0_0) (ld_fld (hC.bx (i := 2) rfl) Try.isAgg75 rfl rfl) ?_
 refine lp (.int .i64 (c_0_0.length : Int)) (pu_len (A := Ac_0_0) (n := c_0_0.length) (m := cc_0_0) Try.underlying75 rfl) ?_
 refine lp (.int .i64 0) (pu_move rfl) ?_
 refine ln ?_
 refine hK67 _ _ ?_
 refine Wc.fresh fun E68 hE => ?_
 have e2 := (congrFun hE 2).trans e2
 have e3 := (congrFun hE 3).trans e3
 have e6 : E68 6 = .slice A50 (((List.replicate (c_0_1.length : Int).toNat false)).length) c51 := (congrFun hE 6).trans rfl
 have e7 : E68 7 = .slice A59 (((List.replicate (c_0_1.length : Int).toNat false)).length) c60 := (congrFun hE 7).trans rfl
 have e8 : E68 8 = .int .i64 0 := (congrFun hE 8).trans rfl
 have e48 : E68 48 = .slice Ac_0_0 c_0_0.length cc_0_0 := (congrFun hE 48).trans rfl
 have e49 : E68 49 = .int .i64 (c_0_0.length : Int) := (congrFun hE 49).trans rfl
 have e50 : E68 50 = .int .i64 0 := (congrFun hE 50).trans rfl
 clear hE
 obtain ⟨o69, hl1, hb⟩ := bd hb
 refine Wc.cut (fun E wv => ∃ (v8_1 : Int) (v50_1 : Int) (qf55_1 : List Bool) (qf64_1 : List Bool), E 2 = .bool false ∧ E 3 = .int .i64 (c_0_1.length : Int) ∧ E 8 = .int .i64 v8_1 ∧ I64 v8_1 ∧ I64 v50_1 ∧ Cx (fun _ => False) O0 w wv [] ∧ ((chk (2 * (c_0_1.length : Int))).bind fun z187 => some (decide (v8_1 = z187)) : Option (Bool)) = some r) (fun K70 hK70 => ?_) ?_
 refine Wc.block ?_
 refine Wc.loop (fun m E wv => ∃ (v8_1 : Int) (v50_1 : Int) (qf55_1 : List Bool) (qf64_1 : List Bool), E 2 = .bool false ∧ E 3 = .int .i64 (c_0_1.length : Int) ∧ E 6 = .slice A50 (((List.replicate (c_0_1.length : Int).toNat false)).length) c51 ∧ E 7 = .slice A59 (((List.replicate (c_0_1.length : Int).toNat false)).length) c60 ∧ E 8 = .int .i64 v8_1 ∧ E 48 = .slice Ac_0_0 c_0_0.length cc_0_0 ∧ E 49 = .int .i64 (c_0_0.length : Int) ∧ E 50 = .int .i64 v50_1 ∧ I64 v8_1 ∧ I64 v50_1 ∧ Cx (fun _ => False) O0 w wv [.own 4 .bool (.slice A50 (((List.replicate (c_0_1.length : Int).toNat false)).length) c51) qf55_1, .own 4 .bool (.slice A59 (((List.replicate (c_0_1.length : Int).toNat false)).length) c60) qf64_1, .ro (.sl (.sl (.pr (.int .i64) .bool))) [.slice Ac_0_0 c_0_0.length cc_0_0] c_0_0] ∧ loopN m (F.gauss_Valid_b1 n c_0_0 c_0_1) (v8_1, v50_1, qf55_1, qf64_1) = some o69) n ⟨0, 0, (List.replicate (c_0_1.length : Int).toNat false), (List.replicate (c_0_1.length : Int).toNat false), e2, e3, e6, e7, e8, e48, e49, e50, (show I64 0 from by unfold I64; omega), (show I64 0 from by unfold I64; omega), hC.sel [1, 0, 3] (by decide), hl1⟩ ?_
 have hbK1 := hb
 clear hb hC hl1
 rintro m72 E74 w73 ⟨v8_1, v50_1, qf55_1, qf64_1, e2, e3, e6, e7, e8, e48, e49, e50, hrv8_1, hrv50_1, hC, hl1⟩ K71 hK71
 obtain ⟨m72', o75, rfl, hb, hl1⟩ := loopN_some hl1
 unfold F.gauss_Valid_b1 at hb
 refine Wc.seq fun K76 hK76 => ?_
 refine rg ?_
 refine lp (.bool (decide (v50_1 < (c_0_0.length : Int)))) (pu_lss (k := .i64) (a := v50_1) (b := (c_0_0.length : Int)) e50 e49) ?_
 refine ln ?_
 refine hK76 _ _ ?_
 refine Wc.seq fun K77 hK77 => ?_
 refine Wc.cond (t := (decide (v50_1 < (c_0_0.length : Int)))) (rfl) (fun hq78 => ?_) (fun hq78 => ?_)
 replace hb := tt hq78 hb
 refine Wc.skip ?_
 refine hK77 _ _ ?_
 refine Wc.seq fun K79 hK79 => ?_
 refine Wc.block ?_
 refine Wc.seq fun K80 hK80 => ?_
 refine rg ?_
 obtain ⟨x81, h82, hb⟩ := bd hb
 obtain ⟨ad83, cs84, hA, hc85, hr86⟩ := hC.elr (i := 2) rfl (get_some h82).2
 subst hA
 refine lp (.pointer (some (ad83.add (v50_1.toNat * 1)))) (pu_index (a := v50_1) Try.underlying75 Try.sizeOf116 e48 e50 (get_some h82).1) ?_
 have hR := hr86
 obtain ⟨A87, c88, rfl, hl89, hc90, _⟩ := hr86
 replace hC := hC.ro hR
 clear hR
 refine lv (.slice A87 x81.length c88) (ld_one Try.isAgg116 rfl (hc85 0 _ rfl)) ?_
 refine lp (.slice A87 x81.length c88) (pu_assign rfl) ?_
 refine ln ?_
 refine hK80 _ _ ?_
 refine Wc.seq fun K92 hK92 => ?_
 refine Wc.seq fun K93 hK93 => ?_
 refine rg ?_
 refine lp (.slice A87 x81.length c88) (pu_move rfl) ?_
 refine lp (.int .i64 (x81.length : Int)) (pu_len (A := A87) (n := x81.length) (m := c88) Try.underlying116 rfl) ?_
 refine lp (.bool (decide ((x81.length : Int) = 0))) (pu_eql (k := .i64) (a := (x81.length : Int)) (b := 0) rfl rfl) ?_
 refine ln ?_
 refine hK93 _ _ ?_
 refine Wc.cond (t := (decide ((x81.length : Int) = 0))) (rfl) (fun hq94 => ?_) (fun hq94 => ?_)
 replace hb := tt hq94 hb
 refine Wc.seq fun K95 hK95 => ?_
 refine rg ?_
 refine lp (.bool false) (pu_assign rfl) ?_
 refine ln ?_
 refine hK95 _ _ ?_
 obtain rfl := os hb
 obtain rfl := (lX hl1).symm
 replace hb := hbK1
 obtain rfl := os hb
 refine Wc.ret ?_
 refine hKR _ _ ?_
 refine ⟨_, res1 Try.results83 (show RV _ _ _ (.tmp _) (.bool false) from rfl), _, rfl, rfl, hC.sel [] (by decide)⟩
 replace hb := tf hq94 hb
 refine Wc.skip ?_
 refine hK92 _ _ ?_
 refine Wc.seq fun K96 hK96 => ?_
 refine rg ?_
 refine lp (.slice A87 x81.length c88) (pu_move rfl) ?_
 refine lp (.int .i64 (x81.length : Int)) (pu_len (A := A87) (n := x81.length) (m := c88) Try.underlying116 rfl) ?_
 refine lp (.int .i64 0) (pu_move rfl) ?_
 refine ln ?_
 refine hK96 _ _ ?_
 refine Wc.fresh fun E97 hE => ?_
 have e2 := (congrFun hE 2).trans e2
 have e3 := (congrFun hE 3).trans e3
 have e6 := (congrFun hE 6).trans e6
 have e7 := (congrFun hE 7).trans e7
 have e8 := (congrFun hE 8).trans e8
 have e10 : E97 10 = .slice A87 x81.length c88 := (congrFun hE 10).trans rfl
 have e48 := (congrFun hE 48).trans e48
 have e49 := (congrFun hE 49).trans e49
 have e50 := (congrFun hE 50).trans e50
 have e51 : E97 51 = .bool (decide (v50_1 < (c_0_0.length : Int))) := (congrFun hE 51).trans rfl
 have e56 : E97 56 = .bool (decide ((x81.length : Int) = 0)) := (congrFun hE 56).trans rfl
 have e57 : E97 57 = .slice A87 x81.length c88 := (congrFun hE 57).trans rfl
 have e58 : E97 58 = .int .i64 (x81.length : Int) := (congrFun hE 58).trans rfl
 have e59 : E97 59 = .int .i64 0 := (congrFun hE 59).trans rfl
 clear hE
 obtain ⟨o98, hl2, hb⟩ := bd hb
 refine Wc.cut (fun E wv => ∃ (v8_2 : Int) (v59_2 : Int) (qf55_2 : List Bool) (qf64_2 : List Bool), E 2 = .bool false ∧ E 3 = .int .i64 (c_0_1.length : Int) ∧ E 6 = .slice A50 (((List.replicate (c_0_1.length : Int).toNat false)).length) c51 ∧ E 7 = .slice A59 (((List.replicate (c_0_1.length : Int).toNat false)).length) c60 ∧ E 8 = .int .i64 v8_2 ∧ E 10 = .slice A87 x81.length c88 ∧ E 48 = .slice (some ad83) c_0_0.length cc_0_0 ∧ E 49 = .int .i64 (c_0_0.length : Int) ∧ E 50 = .int .i64 v50_1 ∧ E 51 = .bool (decide (v50_1 < (c_0_0.length : Int))) ∧ E 56 = .bool (decide ((x81.length : Int) = 0)) ∧ E 57 = .slice A87 x81.length c88 ∧ E 58 = .int .i64 (x81.length : Int) ∧ E 59 = .int .i64 v59_2 ∧ I64 v8_2 ∧ I64 v59_2 ∧ Cx (fun _ => False) O0 w wv [.own 4 .bool (.slice A50 (((List.replicate (c_0_1.length : Int).toNat false)).length) c51) qf55_2, .own 4 .bool (.slice A59 (((List.replicate (c_0_1.length : Int).toNat false)).length) c60) qf64_2, .ro (.sl (.pr (.int .i64) .bool)) [.slice A87 x81.length c88] x81, .ro (.sl (.sl (.pr (.int .i64) .bool))) [.slice (some ad83) c_0_0.length cc_0_0] c_0_0] ∧ ((chk (v50_1 + 1)).bind fun z182 => some (.inl (v8_2, z182, qf55_2, qf64_2)) : Option ((Int × Int × (List Bool) × (List Bool)) ⊕ ((Int × Int × (List Bool) × (List Bool)) ⊕ (Bool)))) = some o75) (fun K99 hK99 => ?_) ?_
 refine Wc.block ?_
 refine Wc.loop (fun m E wv => ∃ (v8_2 : Int) (v59_2 : Int) (qf55_2 : List Bool) (qf64_2 : List Bool), E 2 = .bool false ∧ E 3 = .int .i64 (c_0_1.length : Int) ∧ E 6 = .slice A50 (((List.replicate (c_0_1.length : Int).toNat false)).length) c51 ∧ E 7 = .slice A59 (((List.replicate (c_0_1.length : Int).toNat false)).length) c60 ∧ E 8 = .int .i64 v8_2 ∧ E 10 = .slice A87 x81.length c88 ∧ E 48 = .slice (some ad83) c_0_0.length cc_0_0 ∧ E 49 = .int .i64 (c_0_0.length : Int) ∧ E 50 = .int .i64 v50_1 ∧ E 51 = .bool (decide (v50_1 < (c_0_0.length : Int))) ∧ E 56 = .bool (decide ((x81.length : Int) = 0)) ∧ E 57 = .slice A87 x81.length c88 ∧ E 58 = .int .i64 (x81.length : Int) ∧ E 59 = .int .i64 v59_2 ∧ I64 v8_2 ∧ I64 v59_2 ∧ Cx (fun _ => False) O0 w wv [.own 4 .bool (.slice A50 (((List.replicate (c_0_1.length : Int).toNat false)).length) c51) qf55_2, .own 4 .bool (.slice A59 (((List.replicate (c_0_1.length : Int).toNat false)).length) c60) qf64_2, .ro (.sl (.pr (.int .i64) .bool)) [.slice A87 x81.length c88] x81, .ro (.sl (.sl (.pr (.int .i64) .bool))) [.slice (some ad83) c_0_0.length cc_0_0] c_0_0] ∧ loopN m (F.gauss_Valid_b2 n c_0_1 x81) (v8_2, v59_2, qf55_2, qf64_2) = some o98) n ⟨v8_1, 0, qf55_1, qf64_1, e2, e3, e6, e7, e8, e10, e48, e49, e50, e51, e56, e57, e58, e59, hrv8_1, (show I64 0 from by unfold I64; omega), hC.sel [1, 2, 0, 3] (by decide), hl2⟩ ?_
 have hbK2 := hb
 clear hb hC hl2
 rintro m101 E103 w102 ⟨v8_2, v59_2, qf55_2, qf64_2, e2, e3, e6, e7, e8, e10, e48, e49, e50, e51, e56, e57, e58, e59, hrv8_2, hrv59_2, hC, hl2⟩ K100 hK100
 obtain ⟨m101', o104, rfl, hb, hl2⟩ := loopN_some hl2
 unfold F.gauss_Valid_b2 at hb
 refine Wc.seq fun K105 hK105 => ?_
 refine rg ?_
 refine lp (.bool (decide (v59_2 < (x81.length : Int)))) (pu_lss (k := .i64) (a := v59_2) (b := (x81.length : Int)) e59 e58) ?_
 refine ln ?_
 refine hK105 _ _ ?_
 refine Wc.seq fun K106 hK106 => ?_
 refine Wc.cond (t := (decide (v59_2 < (x81.length : Int)))) (rfl) (fun hq107 => ?_) (fun hq107 => ?_)
 replace hb := tt hq107 hb
 refine Wc.skip ?_
 refine hK106 _ _ ?_
 refine Wc.seq fun K108 hK108 => ?_
 refine Wc.block ?_
 refine Wc.seq fun K109 hK109 => ?_
 refine rg ?_
 obtain ⟨x110, h111, hb⟩ := bd hb
 obtain ⟨ad112, cs113, hA, hc114, hr115⟩ := hC.elr (i := 2) rfl (get_some h111).2
 subst hA
 refine lp (.pointer (some (ad112.add (v59_2.toNat * 2)))) (pu_index (a := v59_2) Try.underlying116 Try.sizeOf119 e57 e59 (get_some h111).1) ?_
 obtain ⟨k116, k117, rfl, hr118, hr119⟩ := hr115
 obtain ⟨rfl, hr118⟩ := hr118
 obtain rfl := (show _ = _ from hr119)
 refine lv (.agg #[.int .i64 x110.1, .bool x110.2]) (ld_agg Try.isAgg119 Try.sizeOf119 rfl rfl hc114) ?_
 refine lex.op (hC.alloc (cs := [.int .i64 0, .bool false]) Try.zeroValue119 rfl) ?_
 rintro _ w121 ⟨g120, rfl, hC, hF, hG⟩
 clear hG
 refine lex.sk (hC.seta (i := 0) (ds := [.int .i64 x110.1, .bool x110.2]) rfl Try.type119 rfl rfl rfl rfl rfl) ?_
 rintro w123 ⟨hC, hF⟩
 refine ln ?_
 refine hK109 _ _ ?_
 refine Wc.seq fun K124 hK124 => ?_
 refine Wc.seq fun K125 hK125 => ?_
 refine rg ?_
 refine lp (.pointer (some ((⟨g120, 0, none⟩ : Addr).add 0))) (pu_field (sz := 1) Try.underlying119 rfl Try.sizeOf3 (by decide) rfl rfl) ?_
 refine lv (.int .i64 x110.1) (ld_fld (hC.bx (i := 0) rfl) Try.isAgg3 rfl rfl) ?_
 refine lp (.bool (decide (x110.1 < 0))) (pu_lss (k := .i64) (a := x110.1) (b := 0) rfl rfl) ?_
 refine lp (.bool (decide (x110.1 < 0))) (pu_move rfl) ?_
 rcases bS (decide (x110.1 < 0)) with hq126 | hq126
 replace hb := tt hq126 hb
 refine gs rfl rfl (decide (x110.1 < 0)) rfl hq126 ?_
 refine gs rfl rfl (decide (x110.1 < 0)) rfl hq126 ?_
 refine gs rfl rfl (decide (x110.1 < 0)) rfl hq126 ?_
 refine gs rfl rfl (decide (x110.1 < 0)) rfl hq126 ?_
 refine lp (.bool true) (pu_pickT (q := (decide (x110.1 < 0))) rfl hq126 rfl) ?_
 refine ln ?_
 refine hK125 _ _ ?_
 refine Wc.cond_true (rfl) ?_
 refine Wc.seq fun K127 hK127 => ?_
 refine rg ?_
 refine lp (.bool false) (pu_assign rfl) ?_
 refine ln ?_
 refine hK127 _ _ ?_
 obtain rfl := os hb
 obtain rfl := (lX hl2).symm
 replace hb := hbK2
 obtain rfl := os hb
 obtain rfl := (lX hl1).symm
 replace hb := hbK1
 obtain rfl := os hb
 refine Wc.ret ?_
 refine hKR _ _ ?_
 refine ⟨_, res1 Try.results83 (show RV _ _ _ (.tmp _) (.bool false) from rfl), _, rfl, rfl, hC.sel [] (by decide)⟩
 replace hb := tf hq126 hb
 refine gp rfl rfl (decide (x110.1 < 0)) rfl hq126 (.pointer (some ((⟨g120, 0, none⟩ : Addr).add 0))) (pu_field (sz := 1) Try.underlying119 rfl Try.sizeOf3 (by decide) rfl rfl) ?_
 refine gv rfl rfl (decide (x110.1 < 0)) rfl hq126 (.int .i64 x110.1) (ld_fld (hC.bx (i := 0) rfl) Try.isAgg3 rfl rfl) ?_
 refine gp rfl rfl (decide (x110.1 < 0)) rfl hq126 (.int .i64 (c_0_1.length : Int)) (pu_move e3) ?_
 refine gp rfl rfl (decide (x110.1 < 0)) rfl hq126 (.bool (decide ((c_0_1.length : Int) ≤ x110.1))) (pu_geq (k := .i64) (a := x110.1) (b := (c_0_1.length : Int)) rfl rfl) ?_
 refine lp (.bool (decide ((c_0_1.length : Int) ≤ x110.1))) (pu_pickF (q := (decide (x110.1 < 0))) rfl hq126 rfl) ?_
 refine ln ?_
 refine hK125 _ _ ?_
 refine Wc.cond (t := (decide ((c_0_1.length : Int) ≤ x110.1))) (rfl) (fun hq128 => ?_) (fun hq128 => ?_)
 replace hb := tt hq128 hb
 refine Wc.seq fun K129 hK129 => ?_
 refine rg ?_
 refine lp (.bool false) (pu_assign rfl) ?_
 refine ln ?_
 refine hK129 _ _ ?_
 obtain rfl := os hb
 obtain rfl := (lX hl2).symm
 replace hb := hbK2
 obtain rfl := os hb
 obtain rfl := (lX hl1).symm
 replace hb := hbK1
 obtain rfl := os hb
 refine Wc.ret ?_
 refine hKR _ _ ?_
 refine ⟨_, res1 Try.results83 (show RV _ _ _ (.tmp _) (.bool false) from rfl), _, rfl, rfl, hC.sel [] (by decide)⟩
 replace hb := tf hq128 hb
 refine Wc.skip ?_
 refine hK124 _ _ ?_
 refine Wc.fresh fun E130 hE => ?_
 have e2 := (congrFun hE 2).trans e2
 have e3 := (congrFun hE 3).trans e3
 have e6 := (congrFun hE 6).trans e6
 have e7 := (congrFun hE 7).trans e7
 have e8 := (congrFun hE 8).trans e8
 have e10 := (congrFun hE 10).trans e10
 have e12 : E130 12 = .pointer (some ⟨g120, 0, none⟩) := (congrFun hE 12).trans rfl
 have e48 := (congrFun hE 48).trans e48
 have e49 := (congrFun hE 49).trans e49
 have e50 := (congrFun hE 50).trans e50
 have e51 := (congrFun hE 51).trans e51
 have e56 := (congrFun hE 56).trans e56
 have e57 := (congrFun hE 57).trans e57
 have e58 := (congrFun hE 58).trans e58
 have e59 := (congrFun hE 59).trans e59
 have e60 : E130 60 = .bool (decide (v59_2 < (x81.length : Int))) := (congrFun hE 60).trans rfl
 have e71 : E130 71 = .bool (decide ((c_0_1.length : Int) ≤ x110.1)) := (congrFun hE 71).trans rfl
 clear hE
 refine Wc.seq fun K131 hK131 => ?_
 refine rg ?_
 refine lp (.slice A59 (((List.replicate (c_0_1.length : Int).toNat false)).length) c60) (pu_move e7) ?_
 refine lp (.slice A59 (((List.replicate (c_0_1.length : Int).toNat false)).length) c60) (pu_assign rfl) ?_
 refine ln ?_
 refine hK131 _ _ ?_
 refine Wc.seq fun K132 hK132 => ?_
 refine Wc.seq fun K133 hK133 => ?_
 refine rg ?_
 refine lp (.pointer (some ((⟨g120, 0, none⟩ : Addr).add 1))) (pu_field (sz := 1) Try.underlying119 rfl Try.sizeOf4 (by decide) rfl e12) ?_
 refine lv (.bool x110.2) (ld_fld (hC.bx (i := 0) rfl) Try.isAgg4 rfl rfl) ?_
 refine ln ?_
 refine hK133 _ _ ?_
 refine Wc.cond (t := x110.2) (rfl) (fun hq134 => ?_) (fun hq134 => ?_)
 replace hb := tt hq134 hb
 refine rg ?_
 refine lp (.slice A50 (((List.replicate (c_0_1.length : Int).toNat false)).length) c51) (pu_move e6) ?_
 refine lp (.slice A50 (((List.replicate (c_0_1.length : Int).toNat false)).length) c51) (pu_assign rfl) ?_
 refine ln ?_
 refine hK132 _ _ ?_
 refine Wc.seq fun K135 hK135 => ?_
 refine Wc.seq fun K136 hK136 => ?_
 refine rg ?_
 refine lp (.slice A50 (((List.replicate (c_0_1.length : Int).toNat false)).length) c51) (pu_move rfl) ?_
 refine lp (.pointer (some ((⟨g120, 0, none⟩ : Addr).add 0))) (pu_field (sz := 1) Try.underlying119 rfl Try.sizeOf3 (by decide) rfl e12) ?_
 refine lv (.int .i64 x110.1) (ld_fld (hC.bx (i := 0) rfl) Try.isAgg3 rfl rfl) ?_
 obtain ⟨x137, h138, hb⟩ := bd hb
 obtain ⟨ad139, cs140, hA, hc141, hr142⟩ := hC.elo (i := 1) rfl (get_some h138).2
 subst hA
 refine lp (.pointer (some (ad139.add (x110.1.toNat * 1)))) (pu_index (a := x110.1) Try.underlying122 Try.sizeOf4 rfl rfl (by rw [(hC.ow (i := 1) rfl).sl_len.1]; exact (get_some h138).1)) ?_
 obtain rfl := (show _ = _ from hr142)
 refine lv (.bool x137) (ld_one Try.isAgg4 rfl (hc141 0 _ rfl)) ?_
 refine ln ?_
 refine hK136 _ _ ?_
 refine Wc.cond (t := x137) (rfl) (fun hq143 => ?_) (fun hq143 => ?_)
 replace hb := tt hq143 hb
 refine Wc.seq fun K144 hK144 => ?_
 refine rg ?_
 refine lp (.bool false) (pu_assign rfl) ?_
 refine ln ?_
 refine hK144 _ _ ?_
 obtain rfl := os hb
 obtain rfl := (lX hl2).symm
 replace hb := hbK2
 obtain rfl := os hb
 obtain rfl := (lX hl1).symm
 replace hb := hbK1
 obtain rfl := os hb
 refine Wc.ret ?_
 refine hKR _ _ ?_
 refine ⟨_, res1 Try.results83 (show RV _ _ _ (.tmp _) (.bool false) from rfl), _, rfl, rfl, hC.sel [] (by decide)⟩
 replace hb := tf hq143 hb
 refine Wc.skip ?_
 refine hK135 _ _ ?_
 refine Wc.fresh fun E145 hE => ?_
 have e2 := (congrFun hE 2).trans e2
 have e3 := (congrFun hE 3).trans e3
 have e6 := (congrFun hE 6).trans e6
 have e7 := (congrFun hE 7).trans e7
 have e8 := (congrFun hE 8).trans e8
 have e10 := (congrFun hE 10).trans e10
 have e12 := (congrFun hE 12).trans e12
 have e13 : E145 13 = .slice (some ad139) (((List.replicate (c_0_1.length : Int).toNat false)).length) c51 := (congrFun hE 13).trans rfl
 have e48 := (congrFun hE 48).trans e48
 have e49 := (congrFun hE 49).trans e49
 have e50 := (congrFun hE 50).trans e50
 have e51 := (congrFun hE 51).trans e51
 have e56 := (congrFun hE 56).trans e56
 have e57 := (congrFun hE 57).trans e57
 have e58 := (congrFun hE 58).trans e58
 have e59 := (congrFun hE 59).trans e59
 have e60 := (congrFun hE 60).trans e60
 have e71 := (congrFun hE 71).trans e71
 have e74 : E145 74 = .bool x110.2 := (congrFun hE 74).trans rfl
 have e80 : E145 80 = .bool x137 := (congrFun hE 80).trans rfl
 clear hE
 refine Wc.seq fun K146 hK146 => ?_
 refine rg ?_
 refine lp (.slice (some ad139) (((List.replicate (c_0_1.length : Int).toNat false)).length) c51) (pu_move e13) ?_
 refine lp (.pointer (some ((⟨g120, 0, none⟩ : Addr).add 0))) (pu_field (sz := 1) Try.underlying119 rfl Try.sizeOf3 (by decide) rfl e12) ?_
 refine lv (.int .i64 x110.1) (ld_fld (hC.bx (i := 0) rfl) Try.isAgg3 rfl rfl) ?_
 obtain ⟨x147, h148, hb⟩ := bd hb
 obtain ⟨ad149, cs150, hA, hc151, hr152⟩ := hC.elo (i := 1) rfl (get_some h148).2
 obtain rfl := Option.some.inj hA
 refine lp (.pointer (some (ad139.add (x110.1.toNat * 1)))) (pu_index (a := x110.1) Try.underlying122 Try.sizeOf4 rfl rfl (by rw [(hC.ow (i := 1) rfl).sl_len.1]; exact (get_some h148).1)) ?_
 refine lex.sk (hC.put (i := 1) rfl rfl Try.sizeOf4 (k := x110.1.toNat) (a := true) (by have := (get_some h148).1; simp at this ⊢; omega) (show Rep _ _ .bool _ _ from rfl) rfl rfl rfl) ?_
 rintro w153 ⟨hC, hF⟩
 refine ln ?_
 refine hK146 _ _ ?_
 refine rg ?_
 refine lp (.int .i64 v8_2) (pu_move e8) ?_
 obtain ⟨z154, h155, hb⟩ := bd hb
 refine lp (.int .i64 z154) (pu_addc (a := v8_2) (b := 1) rfl rfl h155) ?_
 refine lp (.int .i64 z154) (pu_assign rfl) ?_
 refine ln ?_
 refine hK108 _ _ ?_
 refine rg ?_
 obtain ⟨z156, h157, hb⟩ := bd hb
 refine lp (.int .i64 z156) (pu_addc (a := v59_2) (b := 1) e59 rfl h157) ?_
 refine lp (.int .i64 z156) (pu_move rfl) ?_
 refine ln ?_
 obtain rfl := os hb
 exact hK100 m101' _ _ (Nat.lt_succ_self _) ⟨z154, z156, (qf55_2.set x110.1.toNat true), qf64_2, e2, e3, e6, e7, rfl, e10, e48, e49, e50, e51, e56, e57, e58, rfl, (chk_rng h155), (chk_rng h157), hC.sel [1, 2, 3, 4] (by decide), lN hl2⟩
 replace hb := tf hq134 hb
 refine Wc.skip ?_
 refine hK132 _ _ ?_
 refine Wc.seq fun K158 hK158 => ?_
 refine Wc.seq fun K159 hK159 => ?_
 refine rg ?_
 refine lp (.slice A59 (((List.replicate (c_0_1.length : Int).toNat false)).length) c60) (pu_move rfl) ?_
 refine lp (.pointer (some ((⟨g120, 0, none⟩ : Addr).add 0))) (pu_field (sz := 1) Try.underlying119 rfl Try.sizeOf3 (by decide) rfl e12) ?_
 refine lv (.int .i64 x110.1) (ld_fld (hC.bx (i := 0) rfl) Try.isAgg3 rfl rfl) ?_
 obtain ⟨x160, h161, hb⟩ := bd hb
 obtain ⟨ad162, cs163, hA, hc164, hr165⟩ := hC.elo (i := 2) rfl (get_some h161).2
 subst hA
 refine lp (.pointer (some (ad162.add (x110.1.toNat * 1)))) (pu_index (a := x110.1) Try.underlying122 Try.sizeOf4 rfl rfl (by rw [(hC.ow (i := 2) rfl).sl_len.1]; exact (get_some h161).1)) ?_
 obtain rfl := (show _ = _ from hr165)
 refine lv (.bool x160) (ld_one Try.isAgg4 rfl (hc164 0 _ rfl)) ?_
 refine ln ?_
 refine hK159 _ _ ?_
 refine Wc.cond (t := x160) (rfl) (fun hq166 => ?_) (fun hq166 => ?_)
 replace hb := tt hq166 hb
 refine Wc.seq fun K167 hK167 => ?_
 refine rg ?_
 refine lp (.bool false) (pu_assign rfl) ?_
 refine ln ?_
 refine hK167 _ _ ?_
 obtain rfl := os hb
 obtain rfl := (lX hl2).symm
 replace hb := hbK2
 obtain rfl := os hb
 obtain rfl := (lX hl1).symm
 replace hb := hbK1
 obtain rfl := os hb
 refine Wc.ret ?_
 refine hKR _ _ ?_
 refine ⟨_, res1 Try.results83 (show RV _ _ _ (.tmp _) (.bool false) from rfl), _, rfl, rfl, hC.sel [] (by decide)⟩
 replace hb := tf hq166 hb
 refine Wc.skip ?_
 refine hK158 _ _ ?_
 refine Wc.seq fun K168 hK168 => ?_
 refine rg ?_
 refine lp (.slice (some ad162) (((List.replicate (c_0_1.length : Int).toNat false)).length) c60) (pu_move rfl) ?_
 refine lp (.pointer (some ((⟨g120, 0, none⟩ : Addr).add 0))) (pu_field (sz := 1) Try.underlying119 rfl Try.sizeOf3 (by decide) rfl e12) ?_
 refine lv (.int .i64 x110.1) (ld_fld (hC.bx (i := 0) rfl) Try.isAgg3 rfl rfl) ?_
 obtain ⟨x169, h170, hb⟩ := bd hb
 obtain ⟨ad171, cs172, hA, hc173, hr174⟩ := hC.elo (i := 2) rfl (get_some h170).2
 obtain rfl := Option.some.inj hA
 refine lp (.pointer (some (ad162.add (x110.1.toNat * 1)))) (pu_index (a := x110.1) Try.underlying122 Try.sizeOf4 rfl rfl (by rw [(hC.ow (i := 2) rfl).sl_len.1]; exact (get_some h170).1)) ?_
 refine lex.sk (hC.put (i := 2) rfl rfl Try.sizeOf4 (k := x110.1.toNat) (a := true) (by have := (get_some h170).1; simp at this ⊢; omega) (show Rep _ _ .bool _ _ from rfl) rfl rfl rfl) ?_
 rintro w175 ⟨hC, hF⟩
 refine ln ?_
 refine hK168 _ _ ?_
 refine rg ?_
 refine lp (.int .i64 v8_2) (pu_move e8) ?_
 obtain ⟨z176, h177, hb⟩ := bd hb
 refine lp (.int .i64 z176) (pu_addc (a := v8_2) (b := 1) rfl rfl h177) ?_
 refine lp (.int .i64 z176) (pu_assign rfl) ?_
 refine ln ?_
 refine hK108 _ _ ?_
 refine rg ?_
 obtain ⟨z178, h179, hb⟩ := bd hb
 refine lp (.int .i64 z178) (pu_addc (a := v59_2) (b := 1) e59 rfl h179) ?_
 refine lp (.int .i64 z178) (pu_move rfl) ?_
 refine ln ?_
 obtain rfl := os hb
 exact hK100 m101' _ _ (Nat.lt_succ_self _) ⟨z176, z178, qf55_2, (qf64_2.set x110.1.toNat true), e2, e3, e6, e7, rfl, e10, e48, e49, e50, e51, e56, e57, e58, rfl, (chk_rng h177), (chk_rng h179), hC.sel [1, 2, 3, 4] (by decide), lN hl2⟩
 replace hb := tf hq107 hb
 refine Wc.exit rfl ?_
 obtain rfl := os hb
 obtain rfl := (lX hl2).symm
 exact hK99 _ _ ⟨v8_2, v59_2, qf55_2, qf64_2, e2, e3, e6, e7, e8, e10, e48, e49, e50, e51, e56, e57, e58, e59, hrv8_2, hrv59_2, hC.sel [0, 1, 2, 3] (by decide), hbK2⟩
 clear hb hC hl2
 rintro E181 w180 ⟨v8_2, v59_2, qf55_2, qf64_2, e2, e3, e6, e7, e8, e10, e48, e49, e50, e51, e56, e57, e58, e59, hrv8_2, hrv59_2, hC, hb⟩
 refine hK79 _ _ ?_
 refine rg ?_
 obtain ⟨z182, h183, hb⟩ := bd hb
 refine lp (.int .i64 z182) (pu_addc (a := v50_1) (b := 1) e50 rfl h183) ?_
 refine lp (.int .i64 z182) (pu_move rfl) ?_
 refine ln ?_
 obtain rfl := os hb
 exact hK71 m72' _ _ (Nat.lt_succ_self _) ⟨v8_2, z182, qf55_2, qf64_2, e2, e3, e6, e7, e8, e48, e49, rfl, hrv8_2, (chk_rng h183), hC.sel [0, 1, 3] (by decide), lN hl1⟩
 replace hb := tf hq78 hb
 refine Wc.exit rfl ?_
 obtain rfl := os hb
 obtain rfl := (lX hl1).symm
 exact hK70 _ _ ⟨v8_1, v50_1, qf55_1, qf64_1, e2, e3, e8, hrv8_1, hrv50_1, hC.sel [] (by decide), hbK1⟩
 clear hb hC hl1
 rintro E185 w184 ⟨v8_1, v50_1, qf55_1, qf64_1, e2, e3, e8, hrv8_1, hrv50_1, hC, hb⟩
 refine hK66 _ _ ?_
 refine Wc.seq fun K186 hK186 => ?_
 refine rg ?_
 refine lp (.int .i64 v8_1) (pu_move e8) ?_
 refine lp (.int .i64 (c_0_1.length : Int)) (pu_move e3) ?_
 obtain ⟨z187, h188, hb⟩ := bd hb
 refine lp (.int .i64 z187) (pu_mulc (a := 2) (b := (c_0_1.length : Int)) rfl rfl h188) ?_
 refine lp (.bool (decide (v8_1 = z187))) (pu_eql (k := .i64) (a := v8_1) (b := z187) rfl rfl) ?_
 refine lp (.bool (decide (v8_1 = z187))) (pu_assign rfl) ?_
 refine ln ?_
 refine hK186 _ _ ?_
 obtain rfl := os hb
 refine Wc.ret ?_
 refine hKR _ _ ?_
 refine ⟨_, res1 Try.results83 (show RV _ _ _ (.tmp _) (.bool (decide (v8_1 = z187))) from rfl), _, rfl, rfl, hC.sel [] (by decide)⟩
end Go.Proofs.Yteajmbanlohncaa
