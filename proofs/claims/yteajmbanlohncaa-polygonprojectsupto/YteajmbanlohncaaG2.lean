import Derived.Test.YteajmbanlohncaaS
import Derived.Test.YteajmbanlohncaaG1
set_option linter.unusedVariables false
set_option linter.unusedSimpArgs false
namespace Go.Proofs.Yteajmbanlohncaa
open Ev Try
set_option maxRecDepth 100000
set_option maxHeartbeats 4000000
theorem polygon_cross_c2_ok (n:Nat) {w:World} {O0:List Nat} (hO: ∀k∈O0,k<w.heap.size) {y:Int} (Q:I64 y) {A:Bool} {z:Int} (R:I64 z) {B:Bool} {C:Nat} {c:Nat} {f:Option Addr} {x g:Nat} {h:List ((Int×(Int×Int))×((Int×(Int×Int))×(Int×Int)))} (D:Rep O0 w (.sl (.pr (.pr si (.pr si si)) (.pr (.pr si (.pr si si)) (.pr si si)))) [.slice f x g] h) {d:Nat} {l:Int} (G:I64 l) {m:Int} (H:I64 m) {o:Int} (J:I64 o) {p:Int} (K:I64 p) {q:Int} (L:I64 q) {s:Int} (M:I64 s) {t:Int} (N:I64 t) {u:Int} (P:I64 u) (hio:Tk O0 w [.box C 108 [.func (.func 80) #[] #[pg c,pg d]],.box c 68 [.slice f x g],.box d 105 [iv l,iv m,iv o,iv p,iv q,iv s,iv t,iv u]]) {r:Int} (hb:F.polygon_cross_c2 n y A z B h l m o p q s t u=some r):
    Calls prog 81 #[.agg #[iv y,.bool A],.agg #[iv z,.bool B],pg C] w fun e w'=> ∃v,e=.returned v∧v=iv r∧I64 r∧Cx (fun k=>k∈blocks [.box C 108 [.func (.func 80) #[] #[pg c,pg d]],.box c 68 [.slice f x g],.box d 105 [iv l,iv m,iv o,iv p,iv q,iv s,iv t,iv u]]) O0 w w' [.box C 108 [.func (.func 80) #[] #[pg c,pg d]],.box c 68 [.slice f x g],.box d 105 [iv l,iv m,iv o,iv p,iv q,iv s,iv t,iv u]]:=by
 unfold F.polygon_cross_c2 at hb
 have hC:=Cx.startTk hO hio
 have hsub:=hio.2.2
 replace hC:=hC.argTk (by first | exact hsub | exact fun k hk=>hsub k (by simpa [blocks,Fact.blk] using hk)) D
 clear hO
 obtain ⟨rfl,S,T⟩:=D.sl_len
 clear hio hsub
 obtain ⟨I,hI,hC⟩: ∃I:Nat→Prop,I=(fun k=>k∈blocks [.box C 108 [.func (.func 80) #[] #[pg c,pg d]],.box c 68 [.slice f h.length g],.box d 105 [iv l,iv m,iv o,iv p,iv q,iv s,iv t,iv u]])∧Cx I O0 w w ([.ro (.sl (.pr (.pr si (.pr si si)) (.pr (.pr si (.pr si si)) (.pr si si)))) [.slice f h.length g] h,.box C 108 [.func (.func 80) #[] #[pg c,pg d]],.box c 68 [.slice f h.length g],.box d 105 [iv l,iv m,iv o,iv p,iv q,iv s,iv t,iv u]]):=⟨_,rfl,hC⟩
 refine calls_of_Wc func81 rfl (by rw [ntmps81]; exact nb rfl) fun KR hKR=>?_
 refine Wc.seq fun _ hK5=>rg<|lex.op (hC.box (cs:=[iv y,.bool A]) rfl rfl) ?_
 rintro _ w7 ⟨g6,rfl,hC,hF,-⟩
 refine lex.op (hC.box (cs:=[iv z,.bool B]) rfl rfl) ?_
 rintro _ w10 ⟨g9,rfl,hC,hF,-⟩
 refine lp (iv 0) (pu_assign rfl)<|ln (hK5 _ _ ?_)
 refine Wc.seq fun _ hK12=>rg<|lv (.func (.func 80) #[] #[pg c,pg d]) (ld_one isAgg108 rfl ((hC.bx (i:=3) rfl).cell (j:=0) rfl))<|lv (.agg #[iv y,.bool A]) (ld_blk (hC.bx (i:=1) rfl) isAgg107 sizeOf107 rfl) ?_
 replace hC:Cx I O0 w w10 ([.box c 68 [.slice f h.length g],.box d 105 [iv l,iv m,iv o,iv p,iv q,iv s,iv t,iv u]]++[.box g9 107 [iv z,.bool B],.box g6 107 [iv y,.bool A],.ro (.sl (.pr (.pr si (.pr si si)) (.pr (.pr si (.pr si si)) (.pr si si)))) [.slice f h.length g] h,.box C 108 [.func (.func 80) #[] #[pg c,pg d]]]):=hC.sE [4,5,0,1,2,3]
 obtain ⟨y13,h14,hb⟩:=bd hb
 refine lex.cl (⟨_,_,op_callv (vs:=[.agg #[iv y,.bool A],pg c,pg d]) (ca:=#[pg c,pg d]) call80 rfl rfl rfl,polygon_cross_c1_ok n hC.lt Q (hC.rd (i:=4) rfl) G H J K L M N P hC.give h14⟩) ?_
 rintro _ w17 ⟨rfl,hr15,hr16,hK⟩
 replace hC:=hC.back hK
 clear hK
 refine lp (.tuple #[iv y13.1,iv y13.2]) (pu_move rfl)<|lp (iv y13.1) (pu_extract rfl rfl)<|lp (iv y13.2) (pu_extract rfl rfl)<|lp (iv y13.1) (pu_assign rfl)<|lp (iv y13.2) (pu_assign rfl)<|ln (hK12 _ _ ?_)
 refine Wc.fresh fun E18 hE=>?_
 have e2:E18 2=pg C:=cg hE 2 rfl
 have e4:E18 4=pg g9:=cg hE 4 rfl
 have e5:E18 5=iv 0:=cg hE 5 rfl
 have e6:E18 6=iv y13.1:=cg hE 6 rfl
 have e7:E18 7=iv y13.2:=cg hE 7 rfl
 clear hE
 refine Wc.seq fun _ hK19=>rg<|lv (.func (.func 80) #[] #[pg c,pg d]) (ld_one isAgg108 e2 ((hC.bx (i:=5) rfl).cell (j:=0) rfl))<|lv (.agg #[iv z,.bool B]) (ld_blk (hC.bx (i:=2) rfl) isAgg107 sizeOf107 e4) ?_
 replace hC:Cx I O0 w w17 ([.box c 68 [.slice f h.length g],.box d 105 [iv l,iv m,iv o,iv p,iv q,iv s,iv t,iv u]]++[.box g9 107 [iv z,.bool B],.box g6 107 [iv y,.bool A],.ro (.sl (.pr (.pr si (.pr si si)) (.pr (.pr si (.pr si si)) (.pr si si)))) [.slice f h.length g] h,.box C 108 [.func (.func 80) #[] #[pg c,pg d]]]):=hC.sE [0,1,2,3,4,5]
 obtain ⟨y20,h21,hb⟩:=bd hb
 refine lex.cl (⟨_,_,op_callv (vs:=[.agg #[iv z,.bool B],pg c,pg d]) (ca:=#[pg c,pg d]) call80 rfl rfl rfl,polygon_cross_c1_ok n hC.lt R (hC.rd (i:=4) rfl) G H J K L M N P hC.give h21⟩) ?_
 rintro _ w24 ⟨rfl,hr22,hr23,hK⟩
 replace hC:=hC.back hK
 clear hK
 refine lp (.tuple #[iv y20.1,iv y20.2]) (pu_move rfl)<|lp (iv y20.1) (pu_extract rfl rfl)<|lp (iv y20.2) (pu_extract rfl rfl)<|lp (iv y20.1) (pu_assign rfl)<|lp (iv y20.2) (pu_assign rfl)<|ln (hK19 _ _ ?_)
 refine Wc.seq fun _ hK25=>rg<|lp _ (pu_move e6)<|lp (iv y20.2) (pu_move rfl) ?_
 obtain ⟨z26,h27,hb⟩:=bd hb
 refine lp (iv z26) (pu_mulc (a:=y13.1) (b:=y20.2) rfl rfl h27)<|lp (iv y20.1) (pu_move rfl)<|lp _ (pu_move e7) ?_
 obtain ⟨z28,h29,hb⟩:=bd hb
 refine lp (iv z28) (pu_mulc (a:=y20.1) (b:=y13.2) rfl rfl h29) ?_
 obtain ⟨z30,h31,hb⟩:=bd hb
 refine lp (iv z30) (pu_subc (a:=z26) (b:=z28) rfl rfl h31)<|lp (iv z30) (pu_assign rfl)<|ln (hK25 _ _ ?_)
 obtain rfl:=os hb
 subst hI
 refine Wc.ret (hKR _ _ ?_)
 refine ⟨_,res1 results81 (tV (iv z30) rfl),_,rfl,rfl,(chk_rng h31),hC.sE [5,0,1]⟩

def slices_SortFunc_passage_passage_polygon_cross_c2Ren:Go.Shelf.Ren:=⟨fun x=>match x with | 6=>82 | 14=>99 | 15=>100 | 20=>108 | 21=>109 | 22=>110 | 23=>111 | 24=>112 | 25=>113 | 26=>114 | 27=>115 | 28=>116 | 29=>117 | 46=>120 | 47=>121 | 48=>122 | 49=>123 | 50=>124 | 57=>128 | _=>0,fun x=>match x with | 0=>0 | 3=>3 | 4=>4 | 5=>5 | 9=>9 | 22=>73 | 24=>107 | 25=>109 | 39=>130 | 45=>139 | 46=>140 | 50=>25 | 53=>146 | 55=>148 | 66=>150 | 70=>154 | 76=>158 | 77=>85 | _=>0,fun _=>0⟩
theorem slices_SortFunc_passage_passage_polygon_cross_c2Lays:Go.Proofs.SlLaysF0.n6 prog slices_SortFunc_passage_passage_polygon_cross_c2Ren where
  mixed:=mixed
  f6:=⟨"slices.SortFunc[[]unravel/polygon.passage,unravel/polygon.passage]",by decide,by kernel_rfl⟩
  f14:=⟨"slices.pdqsortCmpFunc[unravel/polygon.passage]",by decide,by kernel_rfl⟩
  f15:=by kernel_rfl
  f20:=⟨"slices.insertionSortCmpFunc[unravel/polygon.passage]",by decide,by kernel_rfl⟩
  f21:=⟨"slices.heapSortCmpFunc[unravel/polygon.passage]",by decide,by kernel_rfl⟩
  f22:=⟨"slices.breakPatternsCmpFunc[unravel/polygon.passage]",by decide,by kernel_rfl⟩
  f23:=⟨"slices.choosePivotCmpFunc[unravel/polygon.passage]",by decide,by kernel_rfl⟩
  f24:=⟨"slices.reverseRangeCmpFunc[unravel/polygon.passage]",by decide,by kernel_rfl⟩
  f25:=⟨"slices.partialInsertionSortCmpFunc[unravel/polygon.passage]",by decide,by kernel_rfl⟩
  f26:=⟨"slices.partitionEqualCmpFunc[unravel/polygon.passage]",by decide,by kernel_rfl⟩
  f27:=⟨"slices.partitionCmpFunc[unravel/polygon.passage]",by decide,by kernel_rfl⟩
  f28:=by kernel_rfl
  f29:=by kernel_rfl
  f46:=⟨"slices.siftDownCmpFunc[unravel/polygon.passage]",by decide,by kernel_rfl⟩
  f47:=by kernel_rfl
  f48:=by kernel_rfl
  f49:=⟨"slices.medianAdjacentCmpFunc[unravel/polygon.passage]",by decide,by kernel_rfl⟩
  f50:=⟨"slices.medianCmpFunc[unravel/polygon.passage]",by decide,by kernel_rfl⟩
  f57:=⟨"slices.order2CmpFunc[unravel/polygon.passage]",by decide,by kernel_rfl⟩
  t0:=underlying0
  a0:=isAgg0
  z0:=sizeOf0
  v0:=zeroValue0
  t3:=underlying3
  a3:=isAgg3
  z3:=sizeOf3
  v3:=zeroValue3
  t4:=underlying4
  a4:=isAgg4
  z4:=sizeOf4
  v4:=zeroValue4
  t5:=underlying5
  a5:=isAgg5
  z5:=sizeOf5
  v5:=zeroValue5
  t9:=underlying9
  a9:=isAgg9
  z9:=sizeOf9
  v9:=zeroValue9
  t22:=underlying73
  a22:=isAgg73
  z22:=sizeOf73
  v22:=zeroValue73
  t25:=underlying109
  a25:=isAgg109
  z25:=sizeOf109
  v25:=zeroValue109
  t39:=underlying130
  a39:=isAgg130
  z39:=sizeOf130
  v39:=zeroValue130
  t45:=underlying139
  a45:=isAgg139
  z45:=sizeOf139
  v45:=zeroValue139
  t46:=underlying140
  a46:=isAgg140
  z46:=sizeOf140
  v46:=zeroValue140
  t50:=underlying25
  a50:=isAgg25
  z50:=sizeOf25
  v50:=zeroValue25
  t53:=underlying146
  a53:=isAgg146
  z53:=sizeOf146
  v53:=zeroValue146
  t55:=underlying148
  a55:=isAgg148
  z55:=sizeOf148
  v55:=zeroValue148
  t66:=underlying150
  a66:=isAgg150
  z66:=sizeOf150
  v66:=zeroValue150
  t70:=underlying154
  a70:=isAgg154
  z70:=sizeOf154
  v70:=zeroValue154
  t76:=underlying158
  a76:=isAgg158
  z76:=sizeOf158
  v76:=zeroValue158
  t77:=underlying85
  a77:=isAgg85
  z77:=sizeOf85
  v77:=zeroValue85
theorem slices_SortFunc_passage_passage_polygon_cross_c2_ok (n:Nat) {w:World} {O0:List Nat} (hO: ∀k∈O0,k<w.heap.size) {A0:Option Addr} {m0 c0:Nat} {N:List (Int×Bool)} {z:Nat} {j:Nat} {m:Option Addr} {o p:Nat} {t:List ((Int×(Int×Int))×((Int×(Int×Int))×(Int×Int)))} (A:Rep O0 w (.sl (.pr (.pr si (.pr si si)) (.pr (.pr si (.pr si si)) (.pr si si)))) [.slice m o p] t) {l:Nat} {a:Int} (C:I64 a) {b:Int} (D:I64 b) {c:Int} (G:I64 c) {d:Int} (H:I64 d) {f:Int} (J:I64 f) {g:Int} (K:I64 g) {h:Int} (L:I64 h) {i:Int} (M:I64 i) (hio:Tk O0 w [.own 107 (.pr si .bool) (.slice A0 m0 c0) N,.box z 108 [.func (.func 80) #[] #[pg j,pg l]],.box j 68 [.slice m o p],.box l 105 [iv a,iv b,iv c,iv d,iv f,iv g,iv h,iv i]]) {r:List (Int×Bool)} (hb:F.slices_SortFunc_passage_passage_polygon_cross_c2 n N t a b c d f g h i=some r):
    Calls prog 82 #[.slice A0 m0 c0,.func (.func 81) #[] #[pg z]] w fun e w'=> ∃v,e=.returned v∧v=.tuple #[]∧Cx (fun k=>k∈blocks [.own 107 (.pr si .bool) (.slice A0 m0 c0) N,.box z 108 [.func (.func 80) #[] #[pg j,pg l]],.box j 68 [.slice m o p],.box l 105 [iv a,iv b,iv c,iv d,iv f,iv g,iv h,iv i]]) O0 w w' [.own 107 (.pr si .bool) (.slice A0 m0 c0) r,.box z 108 [.func (.func 80) #[] #[pg j,pg l]],.box j 68 [.slice m o p],.box l 105 [iv a,iv b,iv c,iv d,iv f,iv g,iv h,iv i]]:=by
 unfold F.slices_SortFunc_passage_passage_polygon_cross_c2 at hb
 split at hb
 rename_i hh
 obtain rfl:=os hb
 obtain ⟨ha,hs,hl⟩:=hh
 refine sortKB (s:=(.pr si .bool)) (e:=107) (B:=[.box z 108 [.func (.func 80) #[] #[pg j,pg l]],.box j 68 [.slice m o p],.box l 105 [iv a,iv b,iv c,iv d,iv f,iv g,iv h,iv i]]) slices_SortFunc_passage_passage_polygon_cross_c2Lays hO rfl isAgg107 sizeOf107 rfl hio call81 (fun x y:(Int×Bool)=>(F.polygon_cross_c2 n x.1 x.2 y.1 y.2 t a b c d f g h i).getD 0) hs hl ?_
 intro W x y u v hx hy hu hv hT hR hlt
 obtain ⟨q,hq⟩:=Option.isSome_iff_exists.1 (List.all_eq_true.1 (List.all_eq_true.1 ha x hx) y hy)
 obtain ⟨k5,k6,rfl,hr7,hr8⟩:=hu
 obtain ⟨rfl,hr7⟩:=hr7
 obtain rfl:=(show _=_ from hr8)
 obtain ⟨k9,k10,rfl,hr11,hr12⟩:=hv
 obtain ⟨rfl,hr11⟩:=hr11
 obtain rfl:=(show _=_ from hr12)
 have ea:(#[.agg #[iv x.1,.bool x.2],.agg #[iv y.1,.bool y.2]]++#[pg z]:Array Value)=#[.agg #[iv x.1,.bool x.2],.agg #[iv y.1,.bool y.2],pg z]:=by simp
 refine (show Calls _ _ (#[.agg #[iv x.1,.bool x.2],.agg #[iv y.1,.bool y.2]]++#[pg z]) W _ from ea▸(polygon_cross_c2_ok n hlt (wrap_I64 hr7) (wrap_I64 hr11) (hR A) C D G H J K L M hT hq)).mono ?_
 rintro e W' ⟨v,rfl,rfl,hi,hK⟩
 exact ⟨_,rfl,by show _=Value.int .i64 ((F.polygon_cross_c2 n x.1 x.2 y.1 y.2 t a b c d f g h i).getD 0); rw [hq]; rfl,hK⟩
 cases hb

theorem polygon_sign_ok (n:Nat) {w:World} {O0:List Nat} (hO: ∀k∈O0,k<w.heap.size) {h:Int} (M:I64 h) {j:Int} (N:I64 j) {u:Int} (P:I64 u) {l:Int} (Q:I64 l) {m:Int} (R:I64 m) {x:Int} (S:I64 x) {y:Int} (T:I64 y) {z:Int} (U:I64 z) {c:Int} (B:I64 c) {d:Int} (C:I64 d) {o:Int} (D:I64 o) {f:Int} (G:I64 f) {g:Int} (H:I64 g) {p:Int} (J:I64 p) {q:Int} (K:I64 q) {s:Int} (L:I64 s) {r:Int} (hb:F.polygon_sign n h j u l m x y z c d o f g p q s=some r):
    Calls prog 87 #[.agg #[iv h,iv j,iv u,iv l,iv m,iv x,iv y,iv z],.agg #[iv c,iv d,iv o,iv f,iv g,iv p,iv q,iv s]] w fun e w'=> ∃v,e=.returned v∧v=iv r∧I64 r∧Cx (fun _=>False) O0 w w' []:=by
 unfold F.polygon_sign at hb
 have hC:=Cx.start hO
 clear hO
 refine calls_of_Wc func87 rfl (by rw [ntmps87]; exact nb rfl) fun KR hKR=>?_
 refine Wc.seq fun _ hK1=>rg<|lex.op (hC.box (cs:=[iv h,iv j,iv u,iv l,iv m,iv x,iv y,iv z]) rfl rfl) ?_
 rintro _ w3 ⟨g2,rfl,hC,hF,-⟩
 refine lex.op (hC.box (cs:=[iv c,iv d,iv o,iv f,iv g,iv p,iv q,iv s]) rfl rfl) ?_
 rintro _ w6 ⟨g5,rfl,hC,hF,-⟩
 refine lp (iv 0) (pu_assign rfl)<|ln (hK1 _ _ ?_)
 refine Wc.seq fun _ hK8=>?_
 refine Wc.regionMix [] (frm [] ([]:List Fact) ([]:List Fact)) (fun _=>rfl) mixed (by decide+kernel) (by decide+kernel) fun w10 hw9=>?_
 replace hC:=hC.step (Fr.of_drew hw9)
 have hM:=Fr.refl (fun k=>k∈blocks ([]:List Fact)) w10
 clear hw9
 have hS:=hC
 refine mp (.pointer (some ((⟨g2,0,none⟩:Addr).add 3))) (pu_field (sz:=3) underlying105 rfl sizeOf23 (by decide) rfl rfl)<|mp (.pointer (some ((⟨g2,0,none⟩:Addr).add 3))) (pu_field (A:=((⟨g2,0,none⟩:Addr).add 3)) (off:=0) (sz:=1) underlying23 rfl sizeOf3 (by decide) rfl rfl)<|mixE.load hM (v:=iv l) (fun _ hF=>ld_fld (hS.bx2 (i:=1) rfl [] (by decide) hF) isAgg3 rfl rfl)<|mp (.pointer (some ((⟨g2,0,none⟩:Addr).add 0))) (pu_field (sz:=3) underlying105 rfl sizeOf23 (by decide) rfl rfl)<|mp (.pointer (some ((⟨g2,0,none⟩:Addr).add 0))) (pu_field (A:=((⟨g2,0,none⟩:Addr).add 0)) (off:=0) (sz:=1) underlying23 rfl sizeOf3 (by decide) rfl rfl)<|mixE.load hM (v:=iv h) (fun _ hF=>ld_fld (hS.bx2 (i:=1) rfl [] (by decide) hF) isAgg3 rfl rfl) ?_
 obtain ⟨z11,h12,hb⟩:=bd hb
 refine mp (iv z11) (pu_subc (a:=l) (b:=h) rfl rfl h12)<|mp (.pointer (some ((⟨g2,0,none⟩:Addr).add 3))) (pu_field (sz:=3) underlying105 rfl sizeOf23 (by decide) rfl rfl)<|mp (.pointer (some ((⟨g2,0,none⟩:Addr).add 4))) (pu_field (A:=((⟨g2,0,none⟩:Addr).add 3)) (off:=1) (sz:=1) underlying23 rfl sizeOf3 (by decide) rfl rfl)<|mixE.load hM (v:=iv m) (fun _ hF=>ld_fld (hS.bx2 (i:=1) rfl [] (by decide) hF) isAgg3 rfl rfl)<|mp (.pointer (some ((⟨g2,0,none⟩:Addr).add 0))) (pu_field (sz:=3) underlying105 rfl sizeOf23 (by decide) rfl rfl)<|mp (.pointer (some ((⟨g2,0,none⟩:Addr).add 1))) (pu_field (A:=((⟨g2,0,none⟩:Addr).add 0)) (off:=1) (sz:=1) underlying23 rfl sizeOf3 (by decide) rfl rfl)<|mixE.load hM (v:=iv j) (fun _ hF=>ld_fld (hS.bx2 (i:=1) rfl [] (by decide) hF) isAgg3 rfl rfl) ?_
 obtain ⟨z13,h14,hb⟩:=bd hb
 refine mp (iv z13) (pu_subc (a:=m) (b:=j) rfl rfl h14)<|mp (iv z11) (pu_assign rfl)<|mp (iv z13) (pu_assign rfl)<|mixE.nil ?_
 clear hS hM
 refine hK8 _ _<|Wc.fresh fun E15 hE=>?_
 have e3:E15 3=pg g5:=cg hE 3 rfl
 have e4:E15 4=iv 0:=cg hE 4 rfl
 have e5:E15 5=iv z11:=cg hE 5 rfl
 have e6:E15 6=iv z13:=cg hE 6 rfl
 clear hE
 refine Wc.seq fun _ hK16=>?_
 refine Wc.seq fun _ hK17=>rg<|lp _ (pu_move e5)<|lp (.pointer (some ((⟨g5,0,none⟩:Addr).add 3))) (pu_field (sz:=3) underlying105 rfl sizeOf23 (by decide) rfl e3)<|lp (.pointer (some ((⟨g5,0,none⟩:Addr).add 4))) (pu_field (A:=((⟨g5,0,none⟩:Addr).add 3)) (off:=1) (sz:=1) underlying23 rfl sizeOf3 (by decide) rfl rfl)<|lv (iv g) (ld_fld (hC.bx (i:=0) rfl) isAgg3 rfl rfl)<|lp (.pointer (some ((⟨g5,0,none⟩:Addr).add 0))) (pu_field (sz:=3) underlying105 rfl sizeOf23 (by decide) rfl e3)<|lp (.pointer (some ((⟨g5,0,none⟩:Addr).add 1))) (pu_field (A:=((⟨g5,0,none⟩:Addr).add 0)) (off:=1) (sz:=1) underlying23 rfl sizeOf3 (by decide) rfl rfl)<|lv (iv d) (ld_fld (hC.bx (i:=0) rfl) isAgg3 rfl rfl) ?_
 obtain ⟨z18,h19,hb⟩:=bd hb
 refine lp (iv z18) (pu_subc (a:=g) (b:=d) rfl rfl h19) ?_
 obtain ⟨z20,h21,hb⟩:=bd hb
 refine lp (iv z20) (pu_mulc (a:=z11) (b:=z18) rfl rfl h21)<|lp _ (pu_move e6)<|lp (.pointer (some ((⟨g5,0,none⟩:Addr).add 3))) (pu_field (sz:=3) underlying105 rfl sizeOf23 (by decide) rfl e3)<|lp (.pointer (some ((⟨g5,0,none⟩:Addr).add 3))) (pu_field (A:=((⟨g5,0,none⟩:Addr).add 3)) (off:=0) (sz:=1) underlying23 rfl sizeOf3 (by decide) rfl rfl)<|lv (iv f) (ld_fld (hC.bx (i:=0) rfl) isAgg3 rfl rfl)<|lp (.pointer (some ((⟨g5,0,none⟩:Addr).add 0))) (pu_field (sz:=3) underlying105 rfl sizeOf23 (by decide) rfl e3)<|lp (.pointer (some ((⟨g5,0,none⟩:Addr).add 0))) (pu_field (A:=((⟨g5,0,none⟩:Addr).add 0)) (off:=0) (sz:=1) underlying23 rfl sizeOf3 (by decide) rfl rfl)<|lv (iv c) (ld_fld (hC.bx (i:=0) rfl) isAgg3 rfl rfl) ?_
 obtain ⟨z22,h23,hb⟩:=bd hb
 refine lp (iv z22) (pu_subc (a:=f) (b:=c) rfl rfl h23) ?_
 obtain ⟨z24,h25,hb⟩:=bd hb
 refine lp (iv z24) (pu_mulc (a:=z13) (b:=z22) rfl rfl h25) ?_
 obtain ⟨z26,h27,hb⟩:=bd hb
 refine lp (iv z26) (pu_subc (a:=z20) (b:=z24) rfl rfl h27)<|lp (.bool (decide (0<z26))) (pu_gtr (k:=.i64) (a:=z26) (b:=0) rfl rfl)<|ln (hK17 _ _ ?_)
 refine Wc.cond (t:=(decide (0<z26))) (rfl) (fun hq28=>?_) (fun hq28=>?_)
 replace hb:=tt hq28 hb
 refine Wc.seq fun _ hK29=>rg<|lp (iv 1) (pu_assign rfl)<|ln (hK29 _ _ ?_)
 obtain rfl:=os hb
 refine Wc.ret (hKR _ _ ?_)
 refine ⟨_,res1 results87 (tV (iv 1) rfl),_,rfl,rfl,(show I64 1 from by unfold I64; omega),hC.sE []⟩
 replace hb:=tf hq28 hb
 refine Wc.skip (hK16 _ _ ?_)
 refine Wc.seq fun _ hK30=>rg<|lp (iv (-1)) (pu_assign rfl)<|ln (hK30 _ _ ?_)
 obtain rfl:=os hb
 refine Wc.ret (hKR _ _ ?_)
 refine ⟨_,res1 results87 (tV (iv (-1)) rfl),_,rfl,rfl,(show I64 (-1) from by unfold I64; omega),hC.sE []⟩

theorem gauss_Valid_ok (n:Nat) {w:World} {O0:List Nat} (hO: ∀k∈O0,k<w.heap.size) {l:Option Addr} {M g:Nat} {d:List (List (Int×Bool))} (N:Rep O0 w (.sl (.sl (.pr si .bool))) [.slice l M g] d) {o:Option Addr} {P p:Nat} {c:List Int} (Q:Rep O0 w (.sl si) [.slice o P p] c) {f:Int} (V:I64 f) {r:Bool} (hb:F.gauss_Valid n d c f=some r):
    Calls prog 83 #[.agg #[.slice l M g,.slice o P p,iv f]] w fun e w'=> ∃v,e=.returned v∧v=.bool r∧Cx (fun _=>False) O0 w w' []:=by
 unfold F.gauss_Valid at hb
 have hC:=Cx.start hO
 replace hC:=hC.arg rfl N
 replace hC:=hC.arg rfl Q
 clear hO
 obtain ⟨rfl,R,S⟩:=N.sl_len
 obtain ⟨rfl,T,U⟩:=Q.sl_len
 refine calls_of_Wc func83 rfl (by rw [ntmps83]; exact nb rfl) fun KR hKR=>?_
 refine Wc.seq fun _ hK3=>rg<|lex.op (hC.box (cs:=[.slice l d.length g,.slice o c.length p,iv f]) rfl rfl) ?_
 rintro _ w5 ⟨g4,rfl,hC,hF,-⟩
 refine lp (.bool false) (pu_assign rfl)<|ln (hK3 _ _ ?_)
 refine Wc.seq fun _ hK7=>rg<|lp (.pointer (some ((⟨g4,0,none⟩:Addr).add 1))) (pu_field (sz:=1) underlying77 rfl sizeOf30 (by decide) rfl rfl)<|lv (.slice o c.length p) (ld_fld (hC.bx (i:=0) rfl) isAgg30 rfl rfl)<|lp (iv (c.length:Int)) (pu_len (A:=o) (n:=c.length) (m:=p) underlying30 rfl)<|lp (iv (c.length:Int)) (pu_assign rfl)<|ln (hK7 _ _ ?_)
 refine Wc.seq fun _ hK8=>?_
 refine Wc.seq fun _ hK9=>rg<|lp (iv (c.length:Int)) (pu_move rfl)<|lp (.bool (decide (64<(c.length:Int)))) (pu_gtr (k:=.i64) (a:=(c.length:Int)) (b:=64) rfl rfl)<|lp (.bool (decide (64<(c.length:Int)))) (pu_move rfl) ?_
 rcases bS (decide (64<(c.length:Int))) with hq10 | hq10
 replace hb:=tt hq10 hb
 refine gs rfl rfl (decide (64<(c.length:Int))) rfl hq10<|gs rfl rfl (decide (64<(c.length:Int))) rfl hq10<|gs rfl rfl (decide (64<(c.length:Int))) rfl hq10<|lp (.bool true) (pu_pickT (q:=(decide (64<(c.length:Int)))) rfl hq10 rfl)<|lp (.bool true) (pu_move rfl)<|gs rfl rfl true rfl rfl<|gs rfl rfl true rfl rfl<|gs rfl rfl true rfl rfl<|lp (.bool true) (pu_pickT (q:=true) rfl rfl rfl)<|ln (hK9 _ _ ?_)
 refine Wc.cond_true (rfl) ?_
 refine Wc.seq fun _ hK11=>rg<|lp (.bool false) (pu_assign rfl)<|ln (hK11 _ _ ?_)
 obtain rfl:=os hb
 refine Wc.ret (hKR _ _ ?_)
 refine ⟨_,res1 results83 (tV (.bool false) rfl),_,rfl,rfl,hC.sE []⟩
 replace hb:=tf hq10 hb
 refine gp rfl rfl (decide (64<(c.length:Int))) rfl hq10 (.pointer (some ((⟨g4,0,none⟩:Addr).add 2))) (pu_field (sz:=1) underlying77 rfl sizeOf3 (by decide) rfl rfl)<|gv rfl rfl (decide (64<(c.length:Int))) rfl hq10 (iv f) (ld_fld (hC.bx (i:=0) rfl) isAgg3 rfl rfl)<|gp rfl rfl (decide (64<(c.length:Int))) rfl hq10 (.bool (decide (f<0))) (pu_lss (k:=.i64) (a:=f) (b:=0) rfl rfl)<|lp (.bool (decide (f<0))) (pu_pickF (q:=(decide (64<(c.length:Int)))) rfl hq10 rfl)<|lp (.bool (decide (f<0))) (pu_move rfl) ?_
 rcases bS (decide (f<0)) with hq12 | hq12
 replace hb:=tt hq12 hb
 refine gs rfl rfl (decide (f<0)) rfl hq12<|gs rfl rfl (decide (f<0)) rfl hq12<|gs rfl rfl (decide (f<0)) rfl hq12<|lp (.bool true) (pu_pickT (q:=(decide (f<0))) rfl hq12 rfl)<|ln (hK9 _ _ ?_)
 refine Wc.cond_true (rfl) ?_
 refine Wc.seq fun _ hK13=>rg<|lp (.bool false) (pu_assign rfl)<|ln (hK13 _ _ ?_)
 obtain rfl:=os hb
 refine Wc.ret (hKR _ _ ?_)
 refine ⟨_,res1 results83 (tV (.bool false) rfl),_,rfl,rfl,hC.sE []⟩
 replace hb:=tf hq12 hb
 refine gp rfl rfl (decide (f<0)) rfl hq12 (.pointer (some ((⟨g4,0,none⟩:Addr).add 2))) (pu_field (sz:=1) underlying77 rfl sizeOf3 (by decide) rfl rfl)<|gv rfl rfl (decide (f<0)) rfl hq12 (iv f) (ld_fld (hC.bx (i:=0) rfl) isAgg3 rfl rfl)<|gp rfl rfl (decide (f<0)) rfl hq12 (.bool (decide (64<f))) (pu_gtr (k:=.i64) (a:=f) (b:=64) rfl rfl)<|lp (.bool (decide (64<f))) (pu_pickF (q:=(decide (f<0))) rfl hq12 rfl)<|ln (hK9 _ _ ?_)
 refine Wc.cond (t:=(decide (64<f))) (rfl) (fun hq14=>?_) (fun hq14=>?_)
 replace hb:=tt hq14 hb
 refine Wc.seq fun _ hK15=>rg<|lp (.bool false) (pu_assign rfl)<|ln (hK15 _ _ ?_)
 obtain rfl:=os hb
 refine Wc.ret (hKR _ _ ?_)
 refine ⟨_,res1 results83 (tV (.bool false) rfl),_,rfl,rfl,hC.sE []⟩
 replace hb:=tf hq14 hb
 refine Wc.skip (hK8 _ _ ?_)
 refine Wc.fresh fun E16 hE=>?_
 have e1:E16 1=pg g4:=cg hE 1 rfl
 have e2:E16 2=.bool false:=cg hE 2 rfl
 have e3:E16 3=iv (c.length:Int):=cg hE 3 rfl
 clear hE
 refine Wc.seq fun _ hK17=>?_
 refine Wc.seq fun _ hK18=>rg<|lp (.pointer (some ((⟨g4,0,none⟩:Addr).add 1))) (pu_field (sz:=1) underlying77 rfl sizeOf30 (by decide) rfl e1)<|lv (.slice o c.length p) (ld_fld (hC.bx (i:=0) rfl) isAgg30 rfl rfl)<|lp (iv (c.length:Int)) (pu_len (A:=o) (n:=c.length) (m:=p) underlying30 rfl)<|lp (iv 0) (pu_move rfl)<|ln (hK18 _ _ ?_)
 obtain ⟨o19,hl0,hb⟩:=bd hb
 refine Wc.cut (fun E wv=> ∃(z:Int),E 1=pg g4∧E 2=.bool false∧E 3=iv (c.length:Int)∧I64 z∧Cx (fun _=>False) O0 w wv [.box g4 77 [.slice l d.length g,.slice o c.length p,iv f],.ro (.sl (.sl (.pr si .bool))) [.slice l d.length g] d,.ro (.sl si) [.slice o c.length p] c]∧((pos (c.length:Int)).bind fun u48=>(pos (c.length:Int)).bind fun u57=>((loopN n (F.gauss_Valid_b1 n d c) (0,0,(List.replicate (c.length:Int).toNat false),(List.replicate (c.length:Int).toNat false))).bind fun o69=>match o69 with | (.inl (u,h,C,D))=>(chk (2*(c.length:Int))).bind fun z187=>some (decide (u=z187)) | (.inr q)=>some q):Option (Bool))=some r) (fun _ hK20=>?_) ?_
 refine Wc.block ?_
 refine Wc.loop (fun m E wv=> ∃(z:Int),E 1=pg g4∧E 2=.bool false∧E 3=iv (c.length:Int)∧E 30=.slice o c.length p∧E 31=iv (c.length:Int)∧E 32=iv z∧I64 z∧Cx (fun _=>False) O0 w wv [.box g4 77 [.slice l d.length g,.slice o c.length p,iv f],.ro (.sl (.sl (.pr si .bool))) [.slice l d.length g] d,.ro (.sl si) [.slice o c.length p] c]∧loopN m (F.gauss_Valid_b0 n c) z=some o19) n ⟨0,e1,e2,e3,rfl,rfl,rfl,(show I64 0 from by unfold I64; omega),hC.sE [0,2,1],hl0⟩ ?_
 have hbK0:=hb
 clear hb hC hl0
 rintro m22 E24 w23 ⟨z,e1,e2,e3,e30,e31,e32,J,hC,hl0⟩ K21 hK21
 obtain ⟨m22',o25,rfl,hb,hl0⟩:=loopN_some hl0
 unfold F.gauss_Valid_b0 at hb
 refine Wc.seq fun _ hK26=>rg<|lp _ (pu_lss e32 e31)<|ln (hK26 _ _ ?_)
 refine Wc.seq fun _ hK27=>?_
 refine Wc.cond (t:=(decide (z<(c.length:Int)))) (rfl) (fun hq28=>?_) (fun hq28=>?_)
 replace hb:=tt hq28 hb
 refine Wc.skip (hK27 _ _ ?_)
 refine Wc.seq fun _ hK29=>?_
 refine Wc.block<|Wc.seq fun _ hK30=>rg ?_
 obtain ⟨x31,h32,hb⟩:=bd hb
 obtain ⟨ad33,cs34,hA,hc35,hr36⟩:=hC.elr (i:=2) rfl (get_some h32).2
 subst hA
 refine lp (.pointer (some (ad33.add (z.toNat*1)))) (pu_index (a:=z) underlying30 sizeOf3 e30 e32 (get_some h32).1) ?_
 obtain ⟨rfl,hr36'⟩:=hr36
 refine lv (iv x31) (ld_one isAgg3 rfl (hc35 0 _ rfl))<|lp (iv x31) (pu_assign rfl)<|ln (hK30 _ _ ?_)
 refine Wc.seq fun _ hK37=>rg<|lp (iv x31) (pu_move rfl)<|lp (.bool (!(decide (x31=1)))) (pu_neq (k:=.i64) (a:=x31) (b:=1) rfl rfl)<|lp (.bool (!(decide (x31=1)))) (pu_move rfl) ?_
 rcases bS (!(decide (x31=1))) with hq38 | hq38
 replace hb:=tt hq38 hb
 refine gp rfl rfl (!(decide (x31=1))) rfl hq38 (iv x31) (pu_move rfl)<|gp rfl rfl (!(decide (x31=1))) rfl hq38 (.bool (!(decide (x31=(-1))))) (pu_neq (k:=.i64) (a:=x31) (b:=(-1)) rfl rfl)<|lp (.bool (!(decide (x31=(-1))))) (pu_pickT (q:=(!(decide (x31=1)))) rfl hq38 rfl)<|ln (hK37 _ _ ?_)
 refine Wc.cond (t:=(!(decide (x31=(-1))))) (rfl) (fun hq39=>?_) (fun hq39=>?_)
 replace hb:=tt hq39 hb
 refine Wc.seq fun _ hK40=>rg<|lp (.bool false) (pu_assign rfl)<|ln (hK40 _ _ ?_)
 obtain rfl:=os hb
 obtain rfl:=(lX hl0).symm
 replace hb:=hbK0
 obtain rfl:=os hb
 refine Wc.ret (hKR _ _ ?_)
 refine ⟨_,res1 results83 (tV (.bool false) rfl),_,rfl,rfl,hC.sE []⟩
 replace hb:=tf hq39 hb
 refine Wc.skip (hK29 _ _ ?_)
 refine rg ?_
 obtain ⟨z41,h42,hb⟩:=bd hb
 refine lp (iv z41) (pu_addc (a:=z) (b:=1) e32 rfl h42)<|lp (iv z41) (pu_move rfl)<|ln ?_
 obtain rfl:=os hb
 exact hK21 m22' _ _ (Nat.lt_succ_self _) ⟨z41,e1,e2,e3,e30,e31,rfl,(chk_rng h42),hC.sE [0,1,2],lN hl0⟩
 replace hb:=tf hq38 hb
 refine gs rfl rfl (!(decide (x31=1))) rfl hq38<|gs rfl rfl (!(decide (x31=1))) rfl hq38<|lp (.bool false) (pu_pickF (q:=(!(decide (x31=1)))) rfl hq38 rfl)<|ln (hK37 _ _ ?_)
 refine Wc.cond_false (rfl) ?_
 refine Wc.skip (hK29 _ _ ?_)
 refine rg ?_
 obtain ⟨z43,h44,hb⟩:=bd hb
 refine lp (iv z43) (pu_addc (a:=z) (b:=1) e32 rfl h44)<|lp (iv z43) (pu_move rfl)<|ln ?_
 obtain rfl:=os hb
 exact hK21 m22' _ _ (Nat.lt_succ_self _) ⟨z43,e1,e2,e3,e30,e31,rfl,(chk_rng h44),hC.sE [0,1,2],lN hl0⟩
 replace hb:=tf hq28 hb
 refine Wc.exit rfl ?_
 obtain rfl:=os hb
 obtain rfl:=(lX hl0).symm
 exact hK20 _ _ ⟨z,e1,e2,e3,J,hC.sE [0,1,2],hbK0⟩
 clear hb hC hl0
 rintro E46 w45 ⟨z,e1,e2,e3,J,hC,hb⟩
 refine hK17 _ _<|Wc.seq fun _ hK47=>rg<|lp _ (pu_move e3) ?_
 obtain ⟨u48,h49,hb⟩:=bd hb
 refine lex.op (hC.make (s:=.bool) (n:=(c.length:Int)) underlying122 type4 rfl rfl rfl rfl rfl (pos_some h49).1 (pos_some h49).2 (by decide)) ?_
 rintro _ w54 ⟨A50,c51,rfl,hl52,hc53,hC,-,-⟩
 refine lp (.slice A50 (((List.replicate (c.length:Int).toNat false)).length) c51) (pu_assign rfl)<|ln (hK47 _ _ ?_)
 refine Wc.seq fun _ hK56=>rg<|lp _ (pu_move e3) ?_
 obtain ⟨u57,h58,hb⟩:=bd hb
 refine lex.op (hC.make (s:=.bool) (n:=(c.length:Int)) underlying122 type4 rfl rfl rfl rfl rfl (pos_some h58).1 (pos_some h58).2 (by decide)) ?_
 rintro _ w63 ⟨A59,c60,rfl,hl61,hc62,hC,-,-⟩
 refine lp (.slice A59 (((List.replicate (c.length:Int).toNat false)).length) c60) (pu_assign rfl)<|ln (hK56 _ _ ?_)
 refine Wc.seq fun _ hK65=>rg<|lp (iv 0) (pu_assign rfl)<|ln (hK65 _ _ ?_)
 refine Wc.seq fun _ hK66=>?_
 refine Wc.seq fun _ hK67=>rg<|lp (.pointer (some ((⟨g4,0,none⟩:Addr).add 0))) (pu_field (sz:=1) underlying77 rfl sizeOf75 (by decide) rfl e1)<|lv (.slice l d.length g) (ld_fld (hC.bx (i:=2) rfl) isAgg75 rfl rfl)<|lp (iv (d.length:Int)) (pu_len (A:=l) (n:=d.length) (m:=g) underlying75 rfl)<|lp (iv 0) (pu_move rfl)<|ln (hK67 _ _ ?_)
 refine Wc.fresh fun E68 hE=>?_
 have e2:=cg hE 2 e2
 have e3:=cg hE 3 e3
 have e6:E68 6=.slice A50 (((List.replicate (c.length:Int).toNat false)).length) c51:=cg hE 6 rfl
 have e7:E68 7=.slice A59 (((List.replicate (c.length:Int).toNat false)).length) c60:=cg hE 7 rfl
 have e8:E68 8=iv 0:=cg hE 8 rfl
 have e48:E68 48=.slice l d.length g:=cg hE 48 rfl
 have e49:E68 49=iv (d.length:Int):=cg hE 49 rfl
 have e50:E68 50=iv 0:=cg hE 50 rfl
 clear hE
 obtain ⟨o69,hl1,hb⟩:=bd hb
 refine Wc.cut (fun E wv=> ∃(u:Int) (h:Int) (C:List Bool) (D:List Bool),E 2=.bool false∧E 3=iv (c.length:Int)∧E 8=iv u∧I64 u∧I64 h∧Cx (fun _=>False) O0 w wv []∧((chk (2*(c.length:Int))).bind fun z187=>some (decide (u=z187)):Option (Bool))=some r) (fun _ hK70=>?_) ?_
 refine Wc.block ?_
 refine Wc.loop (fun m E wv=> ∃(u:Int) (h:Int) (C:List Bool) (D:List Bool),E 2=.bool false∧E 3=iv (c.length:Int)∧E 6=.slice A50 (((List.replicate (c.length:Int).toNat false)).length) c51∧E 7=.slice A59 (((List.replicate (c.length:Int).toNat false)).length) c60∧E 8=iv u∧E 48=.slice l d.length g∧E 49=iv (d.length:Int)∧E 50=iv h∧I64 u∧I64 h∧Cx (fun _=>False) O0 w wv [.own 4 .bool (.slice A50 (((List.replicate (c.length:Int).toNat false)).length) c51) C,.own 4 .bool (.slice A59 (((List.replicate (c.length:Int).toNat false)).length) c60) D,.ro (.sl (.sl (.pr si .bool))) [.slice l d.length g] d]∧loopN m (F.gauss_Valid_b1 n d c) (u,h,C,D)=some o69) n ⟨0,0,(List.replicate (c.length:Int).toNat false),(List.replicate (c.length:Int).toNat false),e2,e3,e6,e7,e8,e48,e49,e50,(show I64 0 from by unfold I64; omega),(show I64 0 from by unfold I64; omega),hC.sE [1,0,3],hl1⟩ ?_
 have hbK1:=hb
 clear hb hC hl1
 rintro m72 E74 w73 ⟨u,h,C,D,e2,e3,e6,e7,e8,e48,e49,e50,G,K,hC,hl1⟩ K71 hK71
 obtain ⟨m72',o75,rfl,hb,hl1⟩:=loopN_some hl1
 unfold F.gauss_Valid_b1 at hb
 refine Wc.seq fun _ hK76=>rg<|lp _ (pu_lss e50 e49)<|ln (hK76 _ _ ?_)
 refine Wc.seq fun _ hK77=>?_
 refine Wc.cond (t:=(decide (h<(d.length:Int)))) (rfl) (fun hq78=>?_) (fun hq78=>?_)
 replace hb:=tt hq78 hb
 refine Wc.skip (hK77 _ _ ?_)
 refine Wc.seq fun _ hK79=>?_
 refine Wc.block<|Wc.seq fun _ hK80=>rg ?_
 obtain ⟨x81,h82,hb⟩:=bd hb
 obtain ⟨ad83,cs84,hA,hc85,hr86⟩:=hC.elr (i:=2) rfl (get_some h82).2
 subst hA
 refine lp (.pointer (some (ad83.add (h.toNat*1)))) (pu_index (a:=h) underlying75 sizeOf116 e48 e50 (get_some h82).1) ?_
 have hR:=hr86
 obtain ⟨A87,c88,rfl,hl89,hc90,_⟩:=hr86
 replace hC:=hC.ro hR
 clear hR
 refine lv (.slice A87 x81.length c88) (ld_one isAgg116 rfl (hc85 0 _ rfl))<|lp (.slice A87 x81.length c88) (pu_assign rfl)<|ln (hK80 _ _ ?_)
 refine Wc.seq fun _ hK92=>?_
 refine Wc.seq fun _ hK93=>rg<|lp (.slice A87 x81.length c88) (pu_move rfl)<|lp (iv (x81.length:Int)) (pu_len (A:=A87) (n:=x81.length) (m:=c88) underlying116 rfl)<|lp (.bool (decide ((x81.length:Int)=0))) (pu_eql (k:=.i64) (a:=(x81.length:Int)) (b:=0) rfl rfl)<|ln (hK93 _ _ ?_)
 refine Wc.cond (t:=(decide ((x81.length:Int)=0))) (rfl) (fun hq94=>?_) (fun hq94=>?_)
 replace hb:=tt hq94 hb
 refine Wc.seq fun _ hK95=>rg<|lp (.bool false) (pu_assign rfl)<|ln (hK95 _ _ ?_)
 obtain rfl:=os hb
 obtain rfl:=(lX hl1).symm
 replace hb:=hbK1
 obtain rfl:=os hb
 refine Wc.ret (hKR _ _ ?_)
 refine ⟨_,res1 results83 (tV (.bool false) rfl),_,rfl,rfl,hC.sE []⟩
 replace hb:=tf hq94 hb
 refine Wc.skip (hK92 _ _ ?_)
 refine Wc.seq fun _ hK96=>rg<|lp (.slice A87 x81.length c88) (pu_move rfl)<|lp (iv (x81.length:Int)) (pu_len (A:=A87) (n:=x81.length) (m:=c88) underlying116 rfl)<|lp (iv 0) (pu_move rfl)<|ln (hK96 _ _ ?_)
 refine Wc.fresh fun E97 hE=>?_
 have e2:=cg hE 2 e2
 have e3:=cg hE 3 e3
 have e6:=cg hE 6 e6
 have e7:=cg hE 7 e7
 have e8:=cg hE 8 e8
 have e10:E97 10=.slice A87 x81.length c88:=cg hE 10 rfl
 have e48:=cg hE 48 e48
 have e49:=cg hE 49 e49
 have e50:=cg hE 50 e50
 have e51:E97 51=.bool (decide (h<(d.length:Int))):=cg hE 51 rfl
 have e56:E97 56=.bool (decide ((x81.length:Int)=0)):=cg hE 56 rfl
 have e57:E97 57=.slice A87 x81.length c88:=cg hE 57 rfl
 have e58:E97 58=iv (x81.length:Int):=cg hE 58 rfl
 have e59:E97 59=iv 0:=cg hE 59 rfl
 clear hE
 obtain ⟨o98,hl2,hb⟩:=bd hb
 refine Wc.cut (fun E wv=> ∃(B:Int) (j:Int) (x:List Bool) (y:List Bool),E 2=.bool false∧E 3=iv (c.length:Int)∧E 6=.slice A50 (((List.replicate (c.length:Int).toNat false)).length) c51∧E 7=.slice A59 (((List.replicate (c.length:Int).toNat false)).length) c60∧E 8=iv B∧E 10=.slice A87 x81.length c88∧E 48=.slice (some ad83) d.length g∧E 49=iv (d.length:Int)∧E 50=iv h∧E 51=.bool (decide (h<(d.length:Int)))∧E 56=.bool (decide ((x81.length:Int)=0))∧E 57=.slice A87 x81.length c88∧E 58=iv (x81.length:Int)∧E 59=iv j∧I64 B∧I64 j∧Cx (fun _=>False) O0 w wv [.own 4 .bool (.slice A50 (((List.replicate (c.length:Int).toNat false)).length) c51) x,.own 4 .bool (.slice A59 (((List.replicate (c.length:Int).toNat false)).length) c60) y,.ro (.sl (.pr si .bool)) [.slice A87 x81.length c88] x81,.ro (.sl (.sl (.pr si .bool))) [.slice (some ad83) d.length g] d]∧((chk (h+1)).bind fun z182=>some (.inl (B,z182,x,y)):Option ((Int×Int×(List Bool)×(List Bool))⊕((Int×Int×(List Bool)×(List Bool))⊕(Bool))))=some o75) (fun _ hK99=>?_) ?_
 refine Wc.block ?_
 refine Wc.loop (fun m E wv=> ∃(B:Int) (j:Int) (x:List Bool) (y:List Bool),E 2=.bool false∧E 3=iv (c.length:Int)∧E 6=.slice A50 (((List.replicate (c.length:Int).toNat false)).length) c51∧E 7=.slice A59 (((List.replicate (c.length:Int).toNat false)).length) c60∧E 8=iv B∧E 10=.slice A87 x81.length c88∧E 48=.slice (some ad83) d.length g∧E 49=iv (d.length:Int)∧E 50=iv h∧E 51=.bool (decide (h<(d.length:Int)))∧E 56=.bool (decide ((x81.length:Int)=0))∧E 57=.slice A87 x81.length c88∧E 58=iv (x81.length:Int)∧E 59=iv j∧I64 B∧I64 j∧Cx (fun _=>False) O0 w wv [.own 4 .bool (.slice A50 (((List.replicate (c.length:Int).toNat false)).length) c51) x,.own 4 .bool (.slice A59 (((List.replicate (c.length:Int).toNat false)).length) c60) y,.ro (.sl (.pr si .bool)) [.slice A87 x81.length c88] x81,.ro (.sl (.sl (.pr si .bool))) [.slice (some ad83) d.length g] d]∧loopN m (F.gauss_Valid_b2 n c x81) (B,j,x,y)=some o98) n ⟨u,0,C,D,e2,e3,e6,e7,e8,e10,e48,e49,e50,e51,e56,e57,e58,e59,G,(show I64 0 from by unfold I64; omega),hC.sE [1,2,0,3],hl2⟩ ?_
 have hbK2:=hb
 clear hb hC hl2
 rintro m101 E103 w102 ⟨B,j,x,y,e2,e3,e6,e7,e8,e10,e48,e49,e50,e51,e56,e57,e58,e59,H,L,hC,hl2⟩ K100 hK100
 obtain ⟨m101',o104,rfl,hb,hl2⟩:=loopN_some hl2
 unfold F.gauss_Valid_b2 at hb
 refine Wc.seq fun _ hK105=>rg<|lp _ (pu_lss e59 e58)<|ln (hK105 _ _ ?_)
 refine Wc.seq fun _ hK106=>?_
 refine Wc.cond (t:=(decide (j<(x81.length:Int)))) (rfl) (fun hq107=>?_) (fun hq107=>?_)
 replace hb:=tt hq107 hb
 refine Wc.skip (hK106 _ _ ?_)
 refine Wc.seq fun _ hK108=>?_
 refine Wc.block<|Wc.seq fun _ hK109=>rg ?_
 obtain ⟨x110,h111,hb⟩:=bd hb
 obtain ⟨ad112,cs113,hA,hc114,hr115⟩:=hC.elr (i:=2) rfl (get_some h111).2
 subst hA
 refine lp (.pointer (some (ad112.add (j.toNat*2)))) (pu_index (a:=j) underlying116 sizeOf119 e57 e59 (get_some h111).1) ?_
 obtain ⟨k116,k117,rfl,hr118,hr119⟩:=hr115
 obtain ⟨rfl,hr118⟩:=hr118
 obtain rfl:=(show _=_ from hr119)
 refine lv (.agg #[iv x110.1,.bool x110.2]) (ld_agg isAgg119 sizeOf119 rfl rfl hc114)<|lex.op (hC.alloc (cs:=[iv 0,.bool false]) zeroValue119 rfl) ?_
 rintro _ w121 ⟨g120,rfl,hC,hF,-⟩
 refine lex.sk (hC.seta (i:=0) (ds:=[iv x110.1,.bool x110.2]) rfl type119 rfl rfl rfl rfl rfl) ?_
 rintro w123 ⟨hC,hF⟩
 refine ln (hK109 _ _ ?_)
 refine Wc.seq fun _ hK124=>?_
 refine Wc.seq fun _ hK125=>rg<|lp (.pointer (some ((⟨g120,0,none⟩:Addr).add 0))) (pu_field (sz:=1) underlying119 rfl sizeOf3 (by decide) rfl rfl)<|lv (iv x110.1) (ld_fld (hC.bx (i:=0) rfl) isAgg3 rfl rfl)<|lp (.bool (decide (x110.1<0))) (pu_lss (k:=.i64) (a:=x110.1) (b:=0) rfl rfl)<|lp (.bool (decide (x110.1<0))) (pu_move rfl) ?_
 rcases bS (decide (x110.1<0)) with hq126 | hq126
 replace hb:=tt hq126 hb
 refine gs rfl rfl (decide (x110.1<0)) rfl hq126<|gs rfl rfl (decide (x110.1<0)) rfl hq126<|gs rfl rfl (decide (x110.1<0)) rfl hq126<|gs rfl rfl (decide (x110.1<0)) rfl hq126<|lp (.bool true) (pu_pickT (q:=(decide (x110.1<0))) rfl hq126 rfl)<|ln (hK125 _ _ ?_)
 refine Wc.cond_true (rfl) ?_
 refine Wc.seq fun _ hK127=>rg<|lp (.bool false) (pu_assign rfl)<|ln (hK127 _ _ ?_)
 obtain rfl:=os hb
 obtain rfl:=(lX hl2).symm
 replace hb:=hbK2
 obtain rfl:=os hb
 obtain rfl:=(lX hl1).symm
 replace hb:=hbK1
 obtain rfl:=os hb
 refine Wc.ret (hKR _ _ ?_)
 refine ⟨_,res1 results83 (tV (.bool false) rfl),_,rfl,rfl,hC.sE []⟩
 replace hb:=tf hq126 hb
 refine gp rfl rfl (decide (x110.1<0)) rfl hq126 (.pointer (some ((⟨g120,0,none⟩:Addr).add 0))) (pu_field (sz:=1) underlying119 rfl sizeOf3 (by decide) rfl rfl)<|gv rfl rfl (decide (x110.1<0)) rfl hq126 (iv x110.1) (ld_fld (hC.bx (i:=0) rfl) isAgg3 rfl rfl)<|gp rfl rfl (decide (x110.1<0)) rfl hq126 (iv (c.length:Int)) (pu_move e3)<|gp rfl rfl (decide (x110.1<0)) rfl hq126 (.bool (decide ((c.length:Int)≤x110.1))) (pu_geq (k:=.i64) (a:=x110.1) (b:=(c.length:Int)) rfl rfl)<|lp (.bool (decide ((c.length:Int)≤x110.1))) (pu_pickF (q:=(decide (x110.1<0))) rfl hq126 rfl)<|ln (hK125 _ _ ?_)
 refine Wc.cond (t:=(decide ((c.length:Int)≤x110.1))) (rfl) (fun hq128=>?_) (fun hq128=>?_)
 replace hb:=tt hq128 hb
 refine Wc.seq fun _ hK129=>rg<|lp (.bool false) (pu_assign rfl)<|ln (hK129 _ _ ?_)
 obtain rfl:=os hb
 obtain rfl:=(lX hl2).symm
 replace hb:=hbK2
 obtain rfl:=os hb
 obtain rfl:=(lX hl1).symm
 replace hb:=hbK1
 obtain rfl:=os hb
 refine Wc.ret (hKR _ _ ?_)
 refine ⟨_,res1 results83 (tV (.bool false) rfl),_,rfl,rfl,hC.sE []⟩
 replace hb:=tf hq128 hb
 refine Wc.skip (hK124 _ _ ?_)
 refine Wc.fresh fun E130 hE=>?_
 have e2:=cg hE 2 e2
 have e3:=cg hE 3 e3
 have e6:=cg hE 6 e6
 have e7:=cg hE 7 e7
 have e8:=cg hE 8 e8
 have e10:=cg hE 10 e10
 have e12:E130 12=pg g120:=cg hE 12 rfl
 have e48:=cg hE 48 e48
 have e49:=cg hE 49 e49
 have e50:=cg hE 50 e50
 have e51:=cg hE 51 e51
 have e56:=cg hE 56 e56
 have e57:=cg hE 57 e57
 have e58:=cg hE 58 e58
 have e59:=cg hE 59 e59
 have e60:E130 60=.bool (decide (j<(x81.length:Int))):=cg hE 60 rfl
 have e71:E130 71=.bool (decide ((c.length:Int)≤x110.1)):=cg hE 71 rfl
 clear hE
 refine Wc.seq fun _ hK131=>rg<|lp _ (pu_move e7)<|lp (.slice A59 (((List.replicate (c.length:Int).toNat false)).length) c60) (pu_assign rfl)<|ln (hK131 _ _ ?_)
 refine Wc.seq fun _ hK132=>?_
 refine Wc.seq fun _ hK133=>rg<|lp (.pointer (some ((⟨g120,0,none⟩:Addr).add 1))) (pu_field (sz:=1) underlying119 rfl sizeOf4 (by decide) rfl e12)<|lv (.bool x110.2) (ld_fld (hC.bx (i:=0) rfl) isAgg4 rfl rfl)<|ln (hK133 _ _ ?_)
 refine Wc.cond (t:=x110.2) (rfl) (fun hq134=>?_) (fun hq134=>?_)
 replace hb:=tt hq134 hb
 refine rg<|lp _ (pu_move e6)<|lp (.slice A50 (((List.replicate (c.length:Int).toNat false)).length) c51) (pu_assign rfl)<|ln (hK132 _ _ ?_)
 refine Wc.seq fun _ hK135=>?_
 refine Wc.seq fun _ hK136=>rg<|lp (.slice A50 (((List.replicate (c.length:Int).toNat false)).length) c51) (pu_move rfl)<|lp (.pointer (some ((⟨g120,0,none⟩:Addr).add 0))) (pu_field (sz:=1) underlying119 rfl sizeOf3 (by decide) rfl e12)<|lv (iv x110.1) (ld_fld (hC.bx (i:=0) rfl) isAgg3 rfl rfl) ?_
 obtain ⟨x137,h138,hb⟩:=bd hb
 obtain ⟨ad139,cs140,hA,hc141,hr142⟩:=hC.elo (i:=1) rfl (get_some h138).2
 subst hA
 refine lp (.pointer (some (ad139.add (x110.1.toNat*1)))) (pu_index (a:=x110.1) underlying122 sizeOf4 rfl rfl (by rw [(hC.ow (i:=1) rfl).sl_len.1]; exact (get_some h138).1)) ?_
 obtain rfl:=(show _=_ from hr142)
 refine lv (.bool x137) (ld_one isAgg4 rfl (hc141 0 _ rfl))<|ln (hK136 _ _ ?_)
 refine Wc.cond (t:=x137) (rfl) (fun hq143=>?_) (fun hq143=>?_)
 replace hb:=tt hq143 hb
 refine Wc.seq fun _ hK144=>rg<|lp (.bool false) (pu_assign rfl)<|ln (hK144 _ _ ?_)
 obtain rfl:=os hb
 obtain rfl:=(lX hl2).symm
 replace hb:=hbK2
 obtain rfl:=os hb
 obtain rfl:=(lX hl1).symm
 replace hb:=hbK1
 obtain rfl:=os hb
 refine Wc.ret (hKR _ _ ?_)
 refine ⟨_,res1 results83 (tV (.bool false) rfl),_,rfl,rfl,hC.sE []⟩
 replace hb:=tf hq143 hb
 refine Wc.skip (hK135 _ _ ?_)
 refine Wc.fresh fun E145 hE=>?_
 have e2:=cg hE 2 e2
 have e3:=cg hE 3 e3
 have e6:=cg hE 6 e6
 have e7:=cg hE 7 e7
 have e8:=cg hE 8 e8
 have e10:=cg hE 10 e10
 have e12:=cg hE 12 e12
 have e13:E145 13=.slice (some ad139) (((List.replicate (c.length:Int).toNat false)).length) c51:=cg hE 13 rfl
 have e48:=cg hE 48 e48
 have e49:=cg hE 49 e49
 have e50:=cg hE 50 e50
 have e51:=cg hE 51 e51
 have e56:=cg hE 56 e56
 have e57:=cg hE 57 e57
 have e58:=cg hE 58 e58
 have e59:=cg hE 59 e59
 have e60:=cg hE 60 e60
 have e71:=cg hE 71 e71
 have e74:E145 74=.bool x110.2:=cg hE 74 rfl
 have e80:E145 80=.bool x137:=cg hE 80 rfl
 clear hE
 refine Wc.seq fun _ hK146=>rg<|lp _ (pu_move e13)<|lp (.pointer (some ((⟨g120,0,none⟩:Addr).add 0))) (pu_field (sz:=1) underlying119 rfl sizeOf3 (by decide) rfl e12)<|lv (iv x110.1) (ld_fld (hC.bx (i:=0) rfl) isAgg3 rfl rfl) ?_
 obtain ⟨x147,h148,hb⟩:=bd hb
 obtain ⟨ad149,cs150,hA,hc151,hr152⟩:=hC.elo (i:=1) rfl (get_some h148).2
 obtain rfl:=Option.some.inj hA
 refine lp (.pointer (some (ad139.add (x110.1.toNat*1)))) (pu_index (a:=x110.1) underlying122 sizeOf4 rfl rfl (by rw [(hC.ow (i:=1) rfl).sl_len.1]; exact (get_some h148).1))<|lex.sk (hC.put (i:=1) rfl rfl sizeOf4 (k:=x110.1.toNat) (a:=true) (by have:=(get_some h148).1; simp at this⊢; omega) (show Rep _ _ .bool _ _ from rfl) rfl rfl rfl) ?_
 rintro w153 ⟨hC,hF⟩
 refine ln (hK146 _ _ ?_)
 refine rg<|lp _ (pu_move e8) ?_
 obtain ⟨z154,h155,hb⟩:=bd hb
 refine lp (iv z154) (pu_addc (a:=B) (b:=1) rfl rfl h155)<|lp (iv z154) (pu_assign rfl)<|ln (hK108 _ _ ?_)
 refine rg ?_
 obtain ⟨z156,h157,hb⟩:=bd hb
 refine lp (iv z156) (pu_addc (a:=j) (b:=1) e59 rfl h157)<|lp (iv z156) (pu_move rfl)<|ln ?_
 obtain rfl:=os hb
 exact hK100 m101' _ _ (Nat.lt_succ_self _) ⟨z154,z156,(x.set x110.1.toNat true),y,e2,e3,e6,e7,rfl,e10,e48,e49,e50,e51,e56,e57,e58,rfl,(chk_rng h155),(chk_rng h157),hC.sE [1,2,3,4],lN hl2⟩
 replace hb:=tf hq134 hb
 refine Wc.skip (hK132 _ _ ?_)
 refine Wc.seq fun _ hK158=>?_
 refine Wc.seq fun _ hK159=>rg<|lp (.slice A59 (((List.replicate (c.length:Int).toNat false)).length) c60) (pu_move rfl)<|lp (.pointer (some ((⟨g120,0,none⟩:Addr).add 0))) (pu_field (sz:=1) underlying119 rfl sizeOf3 (by decide) rfl e12)<|lv (iv x110.1) (ld_fld (hC.bx (i:=0) rfl) isAgg3 rfl rfl) ?_
 obtain ⟨x160,h161,hb⟩:=bd hb
 obtain ⟨ad162,cs163,hA,hc164,hr165⟩:=hC.elo (i:=2) rfl (get_some h161).2
 subst hA
 refine lp (.pointer (some (ad162.add (x110.1.toNat*1)))) (pu_index (a:=x110.1) underlying122 sizeOf4 rfl rfl (by rw [(hC.ow (i:=2) rfl).sl_len.1]; exact (get_some h161).1)) ?_
 obtain rfl:=(show _=_ from hr165)
 refine lv (.bool x160) (ld_one isAgg4 rfl (hc164 0 _ rfl))<|ln (hK159 _ _ ?_)
 refine Wc.cond (t:=x160) (rfl) (fun hq166=>?_) (fun hq166=>?_)
 replace hb:=tt hq166 hb
 refine Wc.seq fun _ hK167=>rg<|lp (.bool false) (pu_assign rfl)<|ln (hK167 _ _ ?_)
 obtain rfl:=os hb
 obtain rfl:=(lX hl2).symm
 replace hb:=hbK2
 obtain rfl:=os hb
 obtain rfl:=(lX hl1).symm
 replace hb:=hbK1
 obtain rfl:=os hb
 refine Wc.ret (hKR _ _ ?_)
 refine ⟨_,res1 results83 (tV (.bool false) rfl),_,rfl,rfl,hC.sE []⟩
 replace hb:=tf hq166 hb
 refine Wc.skip (hK158 _ _ ?_)
 refine Wc.seq fun _ hK168=>rg<|lp (.slice (some ad162) (((List.replicate (c.length:Int).toNat false)).length) c60) (pu_move rfl)<|lp (.pointer (some ((⟨g120,0,none⟩:Addr).add 0))) (pu_field (sz:=1) underlying119 rfl sizeOf3 (by decide) rfl e12)<|lv (iv x110.1) (ld_fld (hC.bx (i:=0) rfl) isAgg3 rfl rfl) ?_
 obtain ⟨x169,h170,hb⟩:=bd hb
 obtain ⟨ad171,cs172,hA,hc173,hr174⟩:=hC.elo (i:=2) rfl (get_some h170).2
 obtain rfl:=Option.some.inj hA
 refine lp (.pointer (some (ad162.add (x110.1.toNat*1)))) (pu_index (a:=x110.1) underlying122 sizeOf4 rfl rfl (by rw [(hC.ow (i:=2) rfl).sl_len.1]; exact (get_some h170).1))<|lex.sk (hC.put (i:=2) rfl rfl sizeOf4 (k:=x110.1.toNat) (a:=true) (by have:=(get_some h170).1; simp at this⊢; omega) (show Rep _ _ .bool _ _ from rfl) rfl rfl rfl) ?_
 rintro w175 ⟨hC,hF⟩
 refine ln (hK168 _ _ ?_)
 refine rg<|lp _ (pu_move e8) ?_
 obtain ⟨z176,h177,hb⟩:=bd hb
 refine lp (iv z176) (pu_addc (a:=B) (b:=1) rfl rfl h177)<|lp (iv z176) (pu_assign rfl)<|ln (hK108 _ _ ?_)
 refine rg ?_
 obtain ⟨z178,h179,hb⟩:=bd hb
 refine lp (iv z178) (pu_addc (a:=j) (b:=1) e59 rfl h179)<|lp (iv z178) (pu_move rfl)<|ln ?_
 obtain rfl:=os hb
 exact hK100 m101' _ _ (Nat.lt_succ_self _) ⟨z176,z178,x,(y.set x110.1.toNat true),e2,e3,e6,e7,rfl,e10,e48,e49,e50,e51,e56,e57,e58,rfl,(chk_rng h177),(chk_rng h179),hC.sE [1,2,3,4],lN hl2⟩
 replace hb:=tf hq107 hb
 refine Wc.exit rfl ?_
 obtain rfl:=os hb
 obtain rfl:=(lX hl2).symm
 exact hK99 _ _ ⟨B,j,x,y,e2,e3,e6,e7,e8,e10,e48,e49,e50,e51,e56,e57,e58,e59,H,L,hC.sE [0,1,2,3],hbK2⟩
 clear hb hC hl2
 rintro E181 w180 ⟨B,j,x,y,e2,e3,e6,e7,e8,e10,e48,e49,e50,e51,e56,e57,e58,e59,H,L,hC,hb⟩
 refine hK79 _ _<|rg ?_
 obtain ⟨z182,h183,hb⟩:=bd hb
 refine lp (iv z182) (pu_addc (a:=h) (b:=1) e50 rfl h183)<|lp (iv z182) (pu_move rfl)<|ln ?_
 obtain rfl:=os hb
 exact hK71 m72' _ _ (Nat.lt_succ_self _) ⟨B,z182,x,y,e2,e3,e6,e7,e8,e48,e49,rfl,H,(chk_rng h183),hC.sE [0,1,3],lN hl1⟩
 replace hb:=tf hq78 hb
 refine Wc.exit rfl ?_
 obtain rfl:=os hb
 obtain rfl:=(lX hl1).symm
 exact hK70 _ _ ⟨u,h,C,D,e2,e3,e8,G,K,hC.sE [],hbK1⟩
 clear hb hC hl1
 rintro E185 w184 ⟨u,h,C,D,e2,e3,e8,G,K,hC,hb⟩
 refine hK66 _ _<|Wc.seq fun _ hK186=>rg<|lp _ (pu_move e8)<|lp _ (pu_move e3) ?_
 obtain ⟨z187,h188,hb⟩:=bd hb
 refine lp (iv z187) (pu_mulc (a:=2) (b:=(c.length:Int)) rfl rfl h188)<|lp (.bool (decide (u=z187))) (pu_eql (k:=.i64) (a:=u) (b:=z187) rfl rfl)<|lp (.bool (decide (u=z187))) (pu_assign rfl)<|ln (hK186 _ _ ?_)
 obtain rfl:=os hb
 refine Wc.ret (hKR _ _ ?_)
 refine ⟨_,res1 results83 (tV (.bool (decide (u=z187))) rfl),_,rfl,rfl,hC.sE []⟩
end Go.Proofs.Yteajmbanlohncaa
