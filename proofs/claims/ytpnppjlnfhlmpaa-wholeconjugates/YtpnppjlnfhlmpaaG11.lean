import Derived.Test.YtpnppjlnfhlmpaaS
import Derived.Test.YtpnppjlnfhlmpaaG9
import Derived.Test.YtpnppjlnfhlmpaaG10
set_option linter.all false
namespace Go.Proofs.Ytpnppjlnfhlmpaa
open Ev Try
set_option maxRecDepth 100000
set_option maxHeartbeats 4000000
theorem bivariate_gather_c1_ok (n:Nat) {w:World} {O0:List Nat} (hO: ∀k∈O0,k<w.heap.size) {a:Int} (h:I64 a) {b:Int} (j:I64 b) {f:Int} (o:I64 f) {c:Int} (l:I64 c) {d:Int} (m:I64 d) {g:Int} (p:I64 g) {r:Int} (hb:F.qcc n a b f c d g=some r):
    Calls prog 61 #[.agg #[iv a,iv b,iv f],.agg #[iv c,iv d,iv g]] w fun e w'=> ∃v,e=.returned v∧v=iv r∧I64 r∧Cx (fun _=>False) O0 w w' []:=by
 unfold F.qcc at hb
 have hC:=Cx.start hO
 clear hO
 refine qao func61 rfl (by rw [ntmps61]; exact nb rfl) fun KR hKR=>?_
 refine Wc.seq fun _ hK1=>rg<|lex.op (hC.box (cs:=[iv a,iv b,iv f]) rfl rfl) ?_
 rintro _ w3 ⟨g2,rfl,hC,hF,-⟩
 refine lex.op (hC.box (cs:=[iv c,iv d,iv g]) rfl rfl) ?_
 rintro _ w6 ⟨g5,rfl,hC,hF,-⟩
 refine lp (iv 0) (qab rfl)<|ln (hK1 _ _ ?_)
 refine Wc.seq fun _ hK8=>?_
 refine Wc.regionMix [] (frm [] ([]:List Fact) ([]:List Fact)) (fun _=>rfl) mixed (by decide+kernel) (by decide+kernel) fun w10 hw9=>?_
 replace hC:=hC.step (Fr.qcx hw9)
 have hM:=Fr.refl (fun k=>k∈blocks ([]:List Fact)) w10
 clear hw9
 have hS:=hC
 refine mp (.pointer (some ((⟨g2,0,none⟩:Addr).add 0))) (qaf (sz:=1) underlying66 rfl sizeOf3 (by decide) rfl rfl)<|mixE.load hM (v:=iv a) (fun _ hF=>qal (hS.bx2 (i:=1) rfl [] (by decide) hF) isAgg3 rfl rfl)<|mp (.pointer (some ((⟨g5,0,none⟩:Addr).add 0))) (qaf (sz:=1) underlying66 rfl sizeOf3 (by decide) rfl rfl)<|mixE.load hM (v:=iv c) (fun _ hF=>qal (hS.bx2 (i:=0) rfl [] (by decide) hF) isAgg3 rfl rfl) ?_
 obtain ⟨y11,h12,hb⟩:=bd hb
 refine mixE.cl hM (⟨_,_,qam (vs:=[iv a,iv c]) call63 rfl rfl rfl,cmp_Compare_int_ok n hC.lt h l h12⟩) ?_
 rintro _ w14 ⟨rfl,hr13,hK⟩
 replace hM:=hM.none hK.fr
 refine ⟨hM,?_⟩
 replace hC:=hC.merge hK
 clear hK
 refine mp (.pointer (some ((⟨g2,0,none⟩:Addr).add 1))) (qaf (sz:=1) underlying66 rfl sizeOf3 (by decide) rfl rfl)<|mixE.load hM (v:=iv b) (fun _ hF=>qal (hS.bx2 (i:=1) rfl [] (by decide) hF) isAgg3 rfl rfl)<|mp (.pointer (some ((⟨g5,0,none⟩:Addr).add 1))) (qaf (sz:=1) underlying66 rfl sizeOf3 (by decide) rfl rfl)<|mixE.load hM (v:=iv d) (fun _ hF=>qal (hS.bx2 (i:=0) rfl [] (by decide) hF) isAgg3 rfl rfl) ?_
 obtain ⟨y15,h16,hb⟩:=bd hb
 refine mixE.cl hM (⟨_,_,qam (vs:=[iv b,iv d]) call63 rfl rfl rfl,cmp_Compare_int_ok n hC.lt j m h16⟩) ?_
 rintro _ w18 ⟨rfl,hr17,hK⟩
 replace hM:=hM.none hK.fr
 refine ⟨hM,?_⟩
 replace hC:=hC.merge hK
 clear hK
 refine mixE.op hM (hC.lit (s:=si) (vs:=[iv y11,iv y15]) (xs:=[y11,y15]) underlying22 type3 rfl rfl (nb rfl) rfl rfl (by simp [Value.cells,Sh.n]) rfl (show Elems _ _ si ([iv y11]++([iv y15]++([]))) ([y11,y15]:List Int) from Elems.cons (⟨rfl,I64.wr hr13⟩) (Elems.cons (⟨rfl,I64.wr hr17⟩) (Elems.nil _ _ _)))) ?_
 rintro _ w23 ⟨A19,c20,rfl,hl21,hc22,hC,hF,hN⟩
 have hBf24:=Beside.new hM hN
 replace hM:=hM.none hF
 refine ⟨hM,?_⟩
 clear hF hN
 obtain ⟨y25,h26,hb⟩:=bd hb
 refine mixE.cl hM (⟨_,_,qam (vs:=[.slice A19 ((([y11,y15]:List Int)).length) c20]) call62 rfl rfl rfl,cmp_Or_int_ok n (hC.lentLt [.slice A19 ((([y11,y15]:List Int)).length) c20]) ((hC.ow (i:=0) rfl).lend (vs:=[.slice A19 ((([y11,y15]:List Int)).length) c20]) (by simp)) h26⟩) ?_
 rintro _ w28 ⟨rfl,hr27,hK⟩
 replace hM:=hM.none hK.fr
 refine ⟨hM,?_⟩
 replace hC:=hC.mergeF hK rfl
 clear hK
 refine mp (iv y25) (qab rfl)<|mixE.nil ?_
 clear hS hM
 refine hK8 _ _ ?_
 obtain rfl:=os hb
 refine Wc.ret (hKR _ _ ?_)
 refine ⟨_,res1 results61 (tV (iv y25) rfl),_,rfl,rfl,hr27,hC.sE []⟩

def qgm:Go.Shelf.Ren:=⟨fun x=>match x with | 6=>60 | 14=>65 | 15=>66 | 20=>68 | 21=>69 | 22=>70 | 23=>71 | 24=>72 | 25=>73 | 26=>74 | 27=>75 | 28=>76 | 29=>77 | 46=>78 | 47=>79 | 48=>80 | 49=>81 | 50=>82 | 57=>83 | _=>0,fun x=>match x with | 0=>0 | 3=>3 | 4=>4 | 5=>5 | 9=>9 | 22=>35 | 24=>66 | 25=>100 | 39=>96 | 45=>104 | 46=>105 | 50=>73 | 53=>111 | 55=>113 | 66=>114 | 70=>118 | 76=>120 | 77=>121 | _=>0,fun _=>0⟩
theorem qgg:Go.Proofs.SlLaysF0.n6 prog qgm where
  mixed:=mixed
  f6:=⟨"slices.SortFunc[[]unravel/bivariate.term,unravel/bivariate.term]",by decide,by kernel_rfl⟩
  f14:=⟨"slices.pdqsortCmpFunc[unravel/bivariate.term]",by decide,by kernel_rfl⟩
  f15:=by kernel_rfl
  f20:=⟨"slices.insertionSortCmpFunc[unravel/bivariate.term]",by decide,by kernel_rfl⟩
  f21:=⟨"slices.heapSortCmpFunc[unravel/bivariate.term]",by decide,by kernel_rfl⟩
  f22:=⟨"slices.breakPatternsCmpFunc[unravel/bivariate.term]",by decide,by kernel_rfl⟩
  f23:=⟨"slices.choosePivotCmpFunc[unravel/bivariate.term]",by decide,by kernel_rfl⟩
  f24:=⟨"slices.reverseRangeCmpFunc[unravel/bivariate.term]",by decide,by kernel_rfl⟩
  f25:=⟨"slices.partialInsertionSortCmpFunc[unravel/bivariate.term]",by decide,by kernel_rfl⟩
  f26:=⟨"slices.partitionEqualCmpFunc[unravel/bivariate.term]",by decide,by kernel_rfl⟩
  f27:=⟨"slices.partitionCmpFunc[unravel/bivariate.term]",by decide,by kernel_rfl⟩
  f28:=by kernel_rfl
  f29:=by kernel_rfl
  f46:=⟨"slices.siftDownCmpFunc[unravel/bivariate.term]",by decide,by kernel_rfl⟩
  f47:=by kernel_rfl
  f48:=by kernel_rfl
  f49:=⟨"slices.medianAdjacentCmpFunc[unravel/bivariate.term]",by decide,by kernel_rfl⟩
  f50:=⟨"slices.medianCmpFunc[unravel/bivariate.term]",by decide,by kernel_rfl⟩
  f57:=⟨"slices.order2CmpFunc[unravel/bivariate.term]",by decide,by kernel_rfl⟩
  t0:=underlying0
  a0:=isAgg0
  z0:=sizeOf0
  v0:=zeroValue0
  t3:=underlying3
  a3:=isAgg3
  z3:=sizeOf3
  v3:=zeroValue3
  t4:=underlying4
  a4:=isAgg4
  z4:=sizeOf4
  v4:=zeroValue4
  t5:=underlying5
  a5:=isAgg5
  z5:=sizeOf5
  v5:=zeroValue5
  t9:=underlying9
  a9:=isAgg9
  z9:=sizeOf9
  v9:=zeroValue9
  t22:=underlying35
  a22:=isAgg35
  z22:=sizeOf35
  v22:=zeroValue35
  t25:=underlying100
  a25:=isAgg100
  z25:=sizeOf100
  v25:=zeroValue100
  t39:=underlying96
  a39:=isAgg96
  z39:=sizeOf96
  v39:=zeroValue96
  t45:=underlying104
  a45:=isAgg104
  z45:=sizeOf104
  v45:=zeroValue104
  t46:=underlying105
  a46:=isAgg105
  z46:=sizeOf105
  v46:=zeroValue105
  t50:=underlying73
  a50:=isAgg73
  z50:=sizeOf73
  v50:=zeroValue73
  t53:=underlying111
  a53:=isAgg111
  z53:=sizeOf111
  v53:=zeroValue111
  t55:=underlying113
  a55:=isAgg113
  z55:=sizeOf113
  v55:=zeroValue113
  t66:=underlying114
  a66:=isAgg114
  z66:=sizeOf114
  v66:=zeroValue114
  t70:=underlying118
  a70:=isAgg118
  z70:=sizeOf118
  v70:=zeroValue118
  t76:=underlying120
  a76:=isAgg120
  z76:=sizeOf120
  v76:=zeroValue120
  t77:=underlying121
  a77:=isAgg121
  z77:=sizeOf121
  v77:=zeroValue121
theorem qgn (n:Nat) {w:World} {O0:List Nat} (hO: ∀k∈O0,k<w.heap.size) {A0:Option Addr} {m0 c0:Nat} {a:List (Int×(Int×Int))} (hio:Tk O0 w [.own 66 (.pr si (.pr si si)) (.slice A0 m0 c0) a]) {r:List (Int×(Int×Int))} (hb:F.qbf n a=some r):
    Calls prog 60 #[.slice A0 m0 c0,.func (.func 61) #[] #[]] w fun e w'=> ∃v,e=.returned v∧v=.tuple #[]∧Cx (fun k=>k∈blocks [.own 66 (.pr si (.pr si si)) (.slice A0 m0 c0) a]) O0 w w' [.own 66 (.pr si (.pr si si)) (.slice A0 m0 c0) r]:=by
 unfold F.qbf at hb
 split at hb
 rename_i hh
 obtain rfl:=os hb
 obtain ⟨ha,hs,hl⟩:=hh
 refine sortKB (s:=(.pr si (.pr si si))) (e:=66) (B:=[]) qgg hO rfl isAgg66 sizeOf66 rfl hio call61 (fun x y:(Int×(Int×Int))=>(F.qcc n x.1 x.2.1 x.2.2 y.1 y.2.1 y.2.2).getD 0) hs hl ?_
 intro W x y u v hx hy hu hv hT hR hlt
 obtain ⟨q,hq⟩:=Option.isSome_iff_exists.1 (List.all_eq_true.1 (List.all_eq_true.1 ha x hx) y hy)
 obtain ⟨k1,k2,rfl,hr3,hr4⟩:=hu
 obtain ⟨rfl,hr3⟩:=hr3
 obtain ⟨k5,k6,rfl,hr7,hr8⟩:=hr4
 obtain ⟨rfl,hr7⟩:=hr7
 obtain ⟨rfl,hr8⟩:=hr8
 obtain ⟨k9,k10,rfl,hr11,hr12⟩:=hv
 obtain ⟨rfl,hr11⟩:=hr11
 obtain ⟨k13,k14,rfl,hr15,hr16⟩:=hr12
 obtain ⟨rfl,hr15⟩:=hr15
 obtain ⟨rfl,hr16⟩:=hr16
 have ea:(#[.agg #[iv x.1,iv x.2.1,iv x.2.2],.agg #[iv y.1,iv y.2.1,iv y.2.2]]++#[]:Array Value)=#[.agg #[iv x.1,iv x.2.1,iv x.2.2],.agg #[iv y.1,iv y.2.1,iv y.2.2]]:=by simp
 refine (show Calls _ _ (#[.agg #[iv x.1,iv x.2.1,iv x.2.2],.agg #[iv y.1,iv y.2.1,iv y.2.2]]++#[]) W _ from ea▸(bivariate_gather_c1_ok n hlt (qbi hr3) (qbi hr7) (qbi hr8) (qbi hr11) (qbi hr15) (qbi hr16) hq)).mono ?_
 rintro e W' ⟨v,rfl,rfl,hi,hK⟩
 exact ⟨_,rfl,by show _=Value.int .i64 ((F.qcc n x.1 x.2.1 x.2.2 y.1 y.2.1 y.2.2).getD 0); rw [hq]; rfl,(by have e9:(fun k=>k∈blocks ([]:List Fact))=fun _=>False:=funext fun k=>eq_false (by simp [blocks]); rw [e9]; exact hK)⟩
 cases hb

theorem bivariate_gather_ok (n:Nat) {w:World} {O0:List Nat} (hO: ∀k∈O0,k<w.heap.size) {h:Nat} {u:List ((Int×Int)×(Int×Int))} (hio:Tk O0 w [.mp h .pair (.pr si si) u]) {r:Bool×(List (Int×(Int×Int)))} (hb:F.qfk n u=some r):
    Calls prog 54 #[.map (some h)] w fun e w'=> ∃v,e=.returned v∧∃(A1:Option Addr) (m1 c1:Nat),v=.agg #[.bool r.1,.slice A1 m1 c1]∧Cx (fun k=>k∈blocks [.mp h .pair (.pr si si) u]) O0 w w' [.own 66 (.pr si (.pr si si)) (.slice A1 m1 c1) r.2]:=by
 unfold F.qfk at hb
 have hC:=Cx.startTk hO hio
 have hsub:=hio.2.2
 clear hO
 clear hio hsub
 obtain ⟨I,hI,hC⟩: ∃I:Nat→Prop,I=(fun k=>k∈blocks [.mp h .pair (.pr si si) u])∧Cx I O0 w w ([.mp h .pair (.pr si si) u]):=⟨_,rfl,hC⟩
 refine qao func54 rfl (by rw [ntmps54]; exact nb rfl) fun KR hKR=>?_
 refine Wc.seq fun _ hK2=>rg<|lex.op (hC.alloc (cs:=[.bool false,.slice none 0 0]) zeroValue37 rfl) ?_
 rintro _ w4 ⟨g3,rfl,hC,hF,-⟩
 refine ln (hK2 _ _ ?_)
 refine Wc.seq fun _ hK6=>rg<|lp (.map (some h)) (qaa rfl) ?_
 obtain ⟨z7,h8,hb⟩:=bd hb
 refine lv (iv z7) (by rw [(chk_some h8).1]; exact hC.mplen (i:=1) rfl underlying87 rfl) ?_
 obtain ⟨u9,h10,hb⟩:=bd hb
 refine lex.op (hC.make0 (s:=(.pr si (.pr si si))) (n:=z7) underlying35 type66 rfl rfl rfl rfl (qaj h10).1 (qaj h10).2 (by decide)) ?_
 rintro _ w15 ⟨A11,c12,rfl,hl13,hc14,hC,-,-⟩
 refine lp (.agg #[.bool false,.slice A11 ((([]:List (Int×(Int×Int)))).length) c12]) (qat (places:=[(0,1),(1,1)]) (pv:=[(1,.slice A11 ((([]:List (Int×(Int×Int)))).length) c12)]) type37 underlying37 rfl (qag type4 (qag type35 qbb rfl rfl) rfl rfl) rfl (by simp [Instr.fill,Value.cells]))<|lex.op (hC.alloc (cs:=[.bool false,.slice none 0 0]) zeroValue37 rfl) ?_
 rintro _ w18 ⟨g17,rfl,hC,hF,-⟩
 refine lex.sk (hC.seta (i:=0) (ds:=[.bool false,.slice A11 ((([]:List (Int×(Int×Int)))).length) c12]) rfl type37 rfl rfl rfl rfl rfl) ?_
 rintro w20 ⟨hC,hF⟩
 refine ln (hK6 _ _ ?_)
 refine Wc.seq fun _ hK21=>?_
 refine Wc.seq fun _ hK22=>rg<|lp (.map (some h)) (qaa rfl) ?_
 obtain ⟨es23,hes24,hC,hok25⟩:=hC.mpopen rfl (i:=3) rfl
 refine lex.op (hC.mrange (i:=3) rfl underlying87 rfl) ?_
 rintro _ w27 ⟨r26,rfl,hC,-⟩
 refine ln (hK22 _ _ ?_)
 obtain ⟨G,x,hM0⟩:=foldM_open hb
 refine Wc.cut (fun E wv=> ∃(c:List (Int×(Int×Int))) (f:Option Addr) (l g:Nat),E 2=pg g3∧E 3=pg g17∧Cx I O0 w wv [.box g3 37 [.bool false,.slice none 0 0],.box g17 37 [.bool false,.slice f l g],.own 66 (.pr si (.pr si si)) (.slice f l g) c,.obj h (pobj .pair (.pr si si) es23)]∧((F.qbf n c).bind fun y104=>some (false,y104):Option (Bool×(List (Int×(Int×Int)))))=some r) (fun _ hK29=>?_) ?_
 refine Wc.block ?_
 refine Wc.loop (fun m E wv=> ∃(o:Array Nat) (y:List ((Int×Int)×(Int×Int))) (c:List (Int×(Int×Int))) (f:Option Addr) (l g:Nat),E 2=pg g3∧E 3=pg g17∧E 13=pg r26∧Cx I O0 w wv [.box g3 37 [.bool false,.slice none 0 0],.box g17 37 [.bool false,.slice f l g],.own 66 (.pr si (.pr si si)) (.slice f l g) c,.obj r26 (mit h es23.length o),.obj h (pobj .pair (.pr si si) es23)]∧((lfi o es23 0).map (·.2)).Perm y∧y.length=m∧∀l2,l2.Perm y→(foldG (F.qdh n) c l2).bind G=some r) es23.length ⟨#[],es23,([]:List (Int×(Int×Int))),A11,(([]:List (Int×(Int×Int)))).length,c12,rfl,rfl,rfl,hC.sE [3,1,2,0,4],lfi_start _,rfl,fun l2 h2=>hM0 l2 (h2.trans hes24)⟩ ?_
 clear hb hC hM0
 rintro m31 E33 w32 ⟨o,y,c,f,l,g,e2,e3,e13,hC,D,J,p⟩ K30 hK30
 obtain ⟨rfl,z,B⟩:=(hC.ow (i:=2) rfl).qae
 refine Wc.seq fun _ hK34=>rg ?_
 rcases hC.mnext (P:=prog) (i:=4) (j:=3) rfl rfl D with ⟨hle,hY⟩ | ⟨d,lf35,q36,w37,he38,hp39,hp40,hY,hC2,hF⟩
 refine lv (.tuple #[.bool false]) (hY e13) ?_
 clear hY
 refine lp (.bool false) (qav rfl rfl)<|ln (hK34 _ _ ?_)
 refine Wc.seq fun _ hK41=>?_
 refine Wc.cond_false (rfl) ?_
 refine Wc.exit rfl ?_
 obtain rfl:=hle
 have hb:=p [] (.refl _)
 subst x
 exact hK29 _ _ ⟨c,f,c.length,g,e2,e3,hC.sE [0,1,2,4],hb⟩
 replace hC:=hC2
 clear hC2 hF
 obtain ⟨H,hb0⟩:=foldG_ex (p _ hp39.symm)
 have hb:=hb0
 unfold F.qdh at hb
 have hk42:=hok25 _ (List.mem_of_getElem? he38)
 refine lv (.tuple #[.bool true,.agg #[iv d.1.1,iv d.1.2],.agg #[iv d.2.1,iv d.2.2]]) (hY e13) ?_
 clear hY
 refine lp (.bool true) (qav rfl rfl)<|ln (hK34 _ _ ?_)
 refine Wc.seq fun _ hK43=>?_
 refine Wc.cond_true (rfl) ?_
 refine Wc.skip (hK43 _ _ ?_)
 refine Wc.block<|Wc.seq fun _ hK44=>rg<|lv (.tuple #[.agg #[iv d.1.1,iv d.1.2],.agg #[iv d.2.1,iv d.2.2]]) (hC.mentry (i:=4) (j:=3) rfl rfl he38 e13)<|lp (.agg #[iv d.1.1,iv d.1.2]) (qav rfl rfl)<|lp (.agg #[iv d.2.1,iv d.2.2]) (qav rfl rfl)<|lex.op (hC.alloc (cs:=[iv 0,iv 0]) zeroValue88 rfl) ?_
 rintro _ w46 ⟨g45,rfl,hC,hF,-⟩
 refine lex.op (hC.alloc (cs:=[iv 0,iv 0]) zeroValue90 rfl) ?_
 rintro _ w49 ⟨g48,rfl,hC,hF,-⟩
 refine lex.sk (hC.seta (i:=1) (ds:=[iv d.1.1,iv d.1.2]) rfl type88 rfl rfl rfl rfl rfl) ?_
 rintro w51 ⟨hC,hF⟩
 refine lex.sk (hC.seta (i:=0) (ds:=[iv d.2.1,iv d.2.2]) rfl type90 rfl rfl rfl rfl rfl) ?_
 rintro w52 ⟨hC,hF⟩
 refine ln (hK44 _ _ ?_)
 refine Wc.seq fun _ hK53=>rg<|lv (.agg #[iv d.2.1,iv d.2.2]) (qaq (hC.bx (i:=0) rfl) isAgg90 sizeOf90 rfl) ?_
 obtain ⟨y54,h55,hb⟩:=bd hb
 refine lex.cl (⟨_,_,qam (vs:=[.agg #[iv d.2.1,iv d.2.2]]) call59 rfl rfl rfl,bivariate_sum_small_ok n hC.lt (qbi hk42.2.1) (qbi hk42.2.2) h55⟩) ?_
 rintro _ w57 ⟨rfl,hr56,hK⟩
 replace hC:=hC.merge hK
 clear hK
 refine lp (.tuple #[iv y54.1,.bool y54.2]) (qaa rfl)<|lp (iv y54.1) (qav rfl rfl)<|lp (.bool y54.2) (qav rfl rfl)<|lp (iv y54.1) (qab rfl)<|lp (.bool y54.2) (qab rfl)<|ln (hK53 _ _ ?_)
 refine Wc.fresh fun E58 hE=>?_
 have e2:=cg hE 2 e2
 have e3:=cg hE 3 e3
 have e4:E58 4=pg g45:=cg hE 4 rfl
 have e5:E58 5=pg g48:=cg hE 5 rfl
 have e6:E58 6=iv y54.1:=cg hE 6 rfl
 have e7:E58 7=.bool y54.2:=cg hE 7 rfl
 have e13:=cg hE 13 e13
 have e15:E58 15=.bool true:=cg hE 15 rfl
 clear hE
 refine Wc.seqJ (fun E wv=> ∃(C:Bool),E 2=pg g3∧E 3=pg g17∧E 4=pg g45∧E 5=pg g48∧E 6=iv y54.1∧E 7=.bool y54.2∧E 13=pg r26∧E 15=.bool true∧E 28=.bool C∧Cx I O0 w wv [.box g3 37 [.bool false,.slice none 0 0],.box g17 37 [.bool false,.slice f c.length g],.own 66 (.pr si (.pr si si)) (.slice f c.length g) c,.box g45 88 [iv d.1.1,iv d.1.2],.box g48 90 [iv d.2.1,iv d.2.2],.obj r26 (mit h es23.length (o.push q36)),.obj h (pobj .pair (.pr si si) es23)]∧F.qfb n c d y54 C=some H) (fun _ hK59=>?_) ?_
 refine Wc.seq fun _ hK60=>rg<|lp _ (qaa e7)<|lp (.bool y54.2) (qaa rfl) ?_
 rcases bS y54.2 with hq61 | hq61
 replace hb:=tt hq61 hb
 refine gp rfl rfl y54.2 rfl hq61 (iv y54.1) (qaa e6)<|gp rfl rfl y54.2 rfl hq61 (.bool (decide (y54.1=0))) (qbl (k:=.i64) (a:=y54.1) (b:=0) rfl rfl)<|lp (.bool (decide (y54.1=0))) (qap (q:=y54.2) rfl hq61 rfl)<|ln (hK60 _ _ ?_)
 refine Wc.cond (t:=(decide (y54.1=0))) (rfl) (fun hq62=>?_) (fun hq62=>?_)
 replace hb:=tt hq62 hb
 refine Wc.exit rfl ?_
 obtain rfl:=os hb
 exact hK30 lf35.length _ _ (by have h9:=hp39.length_eq; rw [List.length_cons] at h9; omega) ⟨(o.push q36),lf35,c,f,c.length,g,e2,e3,e13,hC.sE [2,3,4,5,6],hp40,rfl,fun l2 h2=>foldG_inl hb0 (p (d::l2) ((h2.cons d).trans hp39.symm))⟩
 replace hb:=tf hq62 hb
 refine Wc.skip ?_
 exact hK59 _ _ ⟨(decide (y54.1=0)),e2,e3,e4,e5,e6,e7,e13,e15,rfl,hC.sE [2,3,4,1,0,5,6],hb⟩
 replace hb:=tf hq61 hb
 refine gs rfl rfl y54.2 rfl hq61<|gs rfl rfl y54.2 rfl hq61<|lp (.bool false) (qak (q:=y54.2) rfl hq61 rfl)<|ln (hK60 _ _ ?_)
 refine Wc.cond_false (rfl) ?_
 refine Wc.skip ?_
 exact hK59 _ _ ⟨false,e2,e3,e4,e5,e6,e7,e13,e15,rfl,hC.sE [2,3,4,1,0,5,6],hb⟩
 clear hb hC
 rintro E64 w63 ⟨C,e2,e3,e4,e5,e6,e7,e13,e15,e28,hC,hb⟩
 unfold F.qfb at hb
 refine Wc.seq fun _ hK65=>?_
 refine Wc.seq fun _ hK66=>rg<|lp _ (qaa e7)<|lp (.bool (!y54.2)) (qbt (q:=y54.2) rfl)<|lp (.bool (!y54.2)) (qaa rfl) ?_
 rcases bS (!y54.2) with hq67 | hq67
 replace hb:=tt hq67 hb
 refine gs rfl rfl (!y54.2) rfl hq67<|gs rfl rfl (!y54.2) rfl hq67<|gs rfl rfl (!y54.2) rfl hq67<|gs rfl rfl (!y54.2) rfl hq67<|lp (.bool true) (qap (q:=(!y54.2)) rfl hq67 rfl)<|lp (.bool true) (qaa rfl)<|gs rfl rfl true rfl rfl<|gs rfl rfl true rfl rfl<|gs rfl rfl true rfl rfl<|gs rfl rfl true rfl rfl<|lp (.bool true) (qap (q:=true) rfl rfl rfl)<|ln (hK66 _ _ ?_)
 refine Wc.cond_true (rfl) ?_
 refine Wc.seq fun _ hK68=>rg<|lp (.agg #[.bool true,.slice none 0 0]) (qat (places:=[(0,1),(1,1)]) (pv:=[(0,.bool true)]) type37 underlying37 rfl (qag type4 (qag type35 qbb rfl rfl) rfl rfl) rfl (by simp [Instr.fill,Value.cells]))<|lex.sk (hC.seta (i:=0) (ds:=[.bool true,.slice none 0 0]) rfl type37 rfl rfl rfl e2 rfl) ?_
 rintro w69 ⟨hC,hF⟩
 refine ln (hK68 _ _ ?_)
 obtain rfl:=os hb
 replace hb:=foldG_inr hb0 (p _ hp39.symm)
 subst x
 replace hC:=hC.nil 66 (.pr si (.pr si si))
 obtain rfl:=os hb
 subst hI
 refine Wc.ret (hKR _ _ ?_)
 refine ⟨_,res1 results54 ⟨_,e2,qai (hC.bx (i:=1) rfl) isAgg37 sizeOf37⟩,_,rfl,none,0,0,rfl,hC.sE [0]⟩
 replace hb:=tf hq67 hb
 refine gp rfl rfl (!y54.2) rfl hq67 (.pointer (some ((⟨g45,0,none⟩:Addr).add 0))) (pu_ixa (A:=⟨g45,0,none⟩) (a:=0) (sz:=1) underlying88 sizeOf3 e4 rfl (by decide))<|gv rfl rfl (!y54.2) rfl hq67 (iv d.1.1) (qal (hC.bx (i:=3) rfl) isAgg3 rfl rfl) ?_
 obtain ⟨y71,h72,hb⟩:=bd hb
 refine lex.gcl (qdp rfl rfl (show _=Value.bool (!y54.2) from rfl) hq67) (⟨_,_,qam (vs:=[iv d.1.1,iv 1048576]) call39 rfl rfl rfl,qby n hC.lt (show I64 _ from hk42.1.1) (show I64 1048576 from by unfold I64; omega) h72⟩) ?_
 rintro _ w73 ⟨rfl,hK⟩
 replace hC:=hC.merge hK
 clear hK
 refine gp rfl rfl (!y54.2) rfl hq67 (.bool (!y71)) (qbt (q:=y71) rfl)<|lp (.bool (!y71)) (qak (q:=(!y54.2)) rfl hq67 rfl)<|lp (.bool (!y71)) (qaa rfl) ?_
 rcases bS (!y71) with hq74 | hq74
 replace hb:=tt hq74 hb
 refine gs rfl rfl (!y71) rfl hq74<|gs rfl rfl (!y71) rfl hq74<|gs rfl rfl (!y71) rfl hq74<|gs rfl rfl (!y71) rfl hq74<|lp (.bool true) (qap (q:=(!y71)) rfl hq74 rfl)<|ln (hK66 _ _ ?_)
 refine Wc.fresh fun E75 hE=>?_
 have e2:=cg hE 2 e2
 have e3:=cg hE 3 e3
 have e4:=cg hE 4 e4
 have e5:=cg hE 5 e5
 have e6:=cg hE 6 e6
 have e7:=cg hE 7 e7
 have e13:=cg hE 13 e13
 have e15:=cg hE 15 e15
 have e28:=cg hE 28 e28
 have e42:E75 42=.bool true:=cg hE 42 rfl
 clear hE
 refine Wc.cond_true (e42) ?_
 refine Wc.seq fun _ hK76=>rg<|lp (.agg #[.bool true,.slice none 0 0]) (qat (places:=[(0,1),(1,1)]) (pv:=[(0,.bool true)]) type37 underlying37 rfl (qag type4 (qag type35 qbb rfl rfl) rfl rfl) rfl (by simp [Instr.fill,Value.cells]))<|lex.sk (hC.seta (i:=0) (ds:=[.bool true,.slice none 0 0]) rfl type37 rfl rfl rfl e2 rfl) ?_
 rintro w77 ⟨hC,hF⟩
 refine ln (hK76 _ _ ?_)
 obtain rfl:=os hb
 replace hb:=foldG_inr hb0 (p _ hp39.symm)
 subst x
 replace hC:=hC.nil 66 (.pr si (.pr si si))
 obtain rfl:=os hb
 subst hI
 refine Wc.ret (hKR _ _ ?_)
 refine ⟨_,res1 results54 ⟨_,e2,qai (hC.bx (i:=1) rfl) isAgg37 sizeOf37⟩,_,rfl,none,0,0,rfl,hC.sE [0]⟩
 replace hb:=tf hq74 hb
 refine gp rfl rfl (!y71) rfl hq74 (.pointer (some ((⟨g45,0,none⟩:Addr).add 1))) (pu_ixa (A:=⟨g45,0,none⟩) (a:=1) (sz:=1) underlying88 sizeOf3 e4 rfl (by decide))<|gv rfl rfl (!y71) rfl hq74 (iv d.1.2) (qal (hC.bx (i:=3) rfl) isAgg3 rfl rfl) ?_
 obtain ⟨y79,h80,hb⟩:=bd hb
 refine lex.gcl (qdp rfl rfl (show _=Value.bool (!y71) from rfl) hq74) (⟨_,_,qam (vs:=[iv d.1.2,iv 1048576]) call39 rfl rfl rfl,qby n hC.lt (show I64 _ from hk42.1.2) (show I64 1048576 from by unfold I64; omega) h80⟩) ?_
 rintro _ w81 ⟨rfl,hK⟩
 replace hC:=hC.merge hK
 clear hK
 refine gp rfl rfl (!y71) rfl hq74 (.bool (!y79)) (qbt (q:=y79) rfl)<|lp (.bool (!y79)) (qak (q:=(!y71)) rfl hq74 rfl)<|ln (hK66 _ _ ?_)
 refine Wc.fresh fun E82 hE=>?_
 have e2:=cg hE 2 e2
 have e3:=cg hE 3 e3
 have e4:=cg hE 4 e4
 have e5:=cg hE 5 e5
 have e6:=cg hE 6 e6
 have e7:=cg hE 7 e7
 have e13:=cg hE 13 e13
 have e15:=cg hE 15 e15
 have e28:=cg hE 28 e28
 have e42:E82 42=.bool (!y79):=cg hE 42 rfl
 clear hE
 refine Wc.cond (t:=(!y79)) (e42) (fun hq83=>?_) (fun hq83=>?_)
 replace hb:=tt hq83 hb
 refine Wc.seq fun _ hK84=>rg<|lp (.agg #[.bool true,.slice none 0 0]) (qat (places:=[(0,1),(1,1)]) (pv:=[(0,.bool true)]) type37 underlying37 rfl (qag type4 (qag type35 qbb rfl rfl) rfl rfl) rfl (by simp [Instr.fill,Value.cells]))<|lex.sk (hC.seta (i:=0) (ds:=[.bool true,.slice none 0 0]) rfl type37 rfl rfl rfl e2 rfl) ?_
 rintro w85 ⟨hC,hF⟩
 refine ln (hK84 _ _ ?_)
 obtain rfl:=os hb
 replace hb:=foldG_inr hb0 (p _ hp39.symm)
 subst x
 replace hC:=hC.nil 66 (.pr si (.pr si si))
 obtain rfl:=os hb
 subst hI
 refine Wc.ret (hKR _ _ ?_)
 refine ⟨_,res1 results54 ⟨_,e2,qai (hC.bx (i:=1) rfl) isAgg37 sizeOf37⟩,_,rfl,none,0,0,rfl,hC.sE [0]⟩
 replace hb:=tf hq83 hb
 refine Wc.skip (hK65 _ _ ?_)
 refine rg<|lp (.pointer (some ((⟨g17,0,none⟩:Addr).add 1))) (qaf (sz:=1) underlying37 rfl sizeOf35 (by decide) rfl e3)<|lv (.slice f c.length g) (qal (hC.bx (i:=1) rfl) isAgg35 rfl rfl)<|lp (.pointer (some ((⟨g45,0,none⟩:Addr).add 0))) (pu_ixa (A:=⟨g45,0,none⟩) (a:=0) (sz:=1) underlying88 sizeOf3 e4 rfl (by decide))<|lv (iv d.1.1) (qal (hC.bx (i:=3) rfl) isAgg3 rfl rfl)<|lp (.pointer (some ((⟨g45,0,none⟩:Addr).add 1))) (pu_ixa (A:=⟨g45,0,none⟩) (a:=1) (sz:=1) underlying88 sizeOf3 e4 rfl (by decide))<|lv (iv d.1.2) (qal (hC.bx (i:=3) rfl) isAgg3 rfl rfl)<|lp _ (qaa e6)<|lp (.agg #[iv d.1.1,iv d.1.2,iv y54.1]) (qat (places:=[(0,1),(1,1),(2,1)]) (pv:=[(0,iv d.1.1),(1,iv d.1.2),(2,iv y54.1)]) type66 underlying66 rfl (qag type3 (qag type3 (qag type3 qbb rfl rfl) rfl rfl) rfl rfl) rfl (by simp [Instr.fill,Value.cells]))<|lex.op (hC.lit (s:=(.pr si (.pr si si))) (vs:=[.agg #[iv d.1.1,iv d.1.2,iv y54.1]]) (xs:=[(d.1.1,(d.1.2,y54.1))]) underlying35 type66 rfl rfl (nb rfl) rfl rfl (by simp [Value.cells,Sh.n]) rfl (show Elems _ _ (.pr si (.pr si si)) ([iv d.1.1,iv d.1.2,iv y54.1]++([])) ([(d.1.1,(d.1.2,y54.1))]:List (Int×(Int×Int))) from Elems.cons (⟨[iv d.1.1],[iv d.1.2,iv y54.1],rfl,⟨rfl,I64.wr (show I64 _ from hk42.1.1)⟩,⟨[iv d.1.2],[iv y54.1],rfl,⟨rfl,I64.wr (show I64 _ from hk42.1.2)⟩,⟨rfl,I64.wr hr56⟩⟩⟩) (Elems.nil _ _ _))) ?_
 rintro _ w91 ⟨A87,c88,rfl,hl89,hc90,hC,-,-⟩
 obtain ⟨u93,h94,hb⟩:=bd hb
 refine lex.op (hC.app (i:=3) (s:=(.pr si (.pr si si))) (xs:=c) (ys:=([(d.1.1,(d.1.2,y54.1))]:List (Int×(Int×Int)))) (m:=((([(d.1.1,(d.1.2,y54.1))]:List (Int×(Int×Int)))).length)) rfl underlying35 underlying35 type66 rfl rfl rfl (hC.srco (i:=0) rfl) rfl rfl (by have:=qew h94; simp at this⊢ <;>omega) (by decide)) ?_
 rintro _ w99 ⟨A95,c96,rfl,hl97,hc98,hC,-,-⟩
 refine lp (.pointer (some ((⟨g17,0,none⟩:Addr).add 1))) (qaf (sz:=1) underlying37 rfl sizeOf35 (by decide) rfl e3)<|lex.sk (hC.setf (i:=2) (k:=1) (v:=.slice A95 ((c++([(d.1.1,(d.1.2,y54.1))]:List (Int×(Int×Int)))).length) c96) rfl sizeOf35 rfl rfl rfl rfl) ?_
 rintro w100 ⟨hC,hF⟩
 refine ln ?_
 obtain rfl:=os hb
 exact hK30 lf35.length _ _ (by have h9:=hp39.length_eq; rw [List.length_cons] at h9; omega) ⟨(o.push q36),lf35,(c++([(d.1.1,(d.1.2,y54.1))]:List (Int×(Int×Int)))),A95,(c++([(d.1.1,(d.1.2,y54.1))]:List (Int×(Int×Int)))).length,c96,e2,e3,e13,hC.sE [1,2,3,6,7],hp40,rfl,fun l2 h2=>foldG_inl hb0 (p (d::l2) ((h2.cons d).trans hp39.symm))⟩
 clear hb hC hM0
 rintro E102 w101 ⟨c,f,l,g,e2,e3,hC,hb⟩
 obtain ⟨rfl,z,B⟩:=(hC.ow (i:=2) rfl).qae
 refine hK21 _ _<|Wc.seq fun _ hK103=>rg<|lp (.pointer (some ((⟨g17,0,none⟩:Addr).add 1))) (qaf (sz:=1) underlying37 rfl sizeOf35 (by decide) rfl e3)<|lv (.slice f c.length g) (qal (hC.bx (i:=1) rfl) isAgg35 rfl rfl) ?_
 replace hC:Cx I O0 w w101 ([.own 66 (.pr si (.pr si si)) (.slice f c.length g) c]++[.box g3 37 [.bool false,.slice none 0 0],.box g17 37 [.bool false,.slice f c.length g],.obj h (pobj .pair (.pr si si) es23)]):=hC.sE [2,0,1,3]
 obtain ⟨y104,h105,hb⟩:=bd hb
 refine lex.cl (⟨_,_,qam (vs:=[.slice f c.length g,.func (.func 61) #[] #[]]) call60 rfl rfl rfl,qgn n hC.lt hC.give h105⟩) ?_
 rintro _ w106 ⟨rfl,hK⟩
 replace hC:=hC.back hK
 clear hK
 refine ln (hK103 _ _ ?_)
 refine Wc.seq fun _ hK107=>rg<|lv (.agg #[.bool false,.slice f c.length g]) (qaq (hC.bx (i:=2) rfl) isAgg37 sizeOf37 e3)<|lex.sk (hC.seta (i:=1) (ds:=[.bool false,.slice f c.length g]) rfl type37 rfl rfl rfl e2 rfl) ?_
 rintro w108 ⟨hC,hF⟩
 refine ln (hK107 _ _ ?_)
 obtain rfl:=os hb
 subst hI
 refine Wc.ret (hKR _ _ ?_)
 refine ⟨_,res1 results54 ⟨_,e2,qai (hC.bx (i:=1) rfl) isAgg37 sizeOf37⟩,_,rfl,f,c.length,g,rfl,hC.sE [0]⟩

theorem qhq (n:Nat) {w:World} {O0:List Nat} (hO: ∀k∈O0,k<w.heap.size) {o:Bool} {f:Option Addr} {u g:Nat} {c:List (Int×(Int×Int))} (x:Rep O0 w (.sl (.pr si (.pr si si))) [.slice f u g] c) {p:Bool} {h:Option Addr} {y l:Nat} {d:List (Int×(Int×Int))} (z:Rep O0 w (.sl (.pr si (.pr si si))) [.slice h y l] d) {s:Int} (B:I64 s) {r:Bool×(List (Int×(Int×Int)))} (hb:F.qdy n o c p d s=some r):
    Calls prog 40 #[.agg #[.bool o,.slice f u g],.agg #[.bool p,.slice h y l],iv s] w fun e w'=> ∃v,e=.returned v∧∃(A1:Option Addr) (m1 c1:Nat),v=.agg #[.bool r.1,.slice A1 m1 c1]∧Cx (fun _=>False) O0 w w' [.own 66 (.pr si (.pr si si)) (.slice A1 m1 c1) r.2]:=by
 unfold F.qdy at hb
 have hC:=Cx.start hO
 replace hC:=hC.arg rfl x
 replace hC:=hC.arg rfl z
 clear hO
 obtain ⟨rfl,C,D⟩:=x.qae
 obtain ⟨rfl,G,H⟩:=z.qae
 refine qao func40 rfl (by rw [ntmps40]; exact nb rfl) fun KR hKR=>?_
 refine Wc.seq fun _ hK3=>rg<|lex.op (hC.box (cs:=[.bool o,.slice f c.length g]) rfl rfl) ?_
 rintro _ w5 ⟨g4,rfl,hC,hF,-⟩
 refine lex.op (hC.box (cs:=[.bool p,.slice h d.length l]) rfl rfl) ?_
 rintro _ w8 ⟨g7,rfl,hC,hF,-⟩
 refine lex.op (hC.alloc (cs:=[.bool false,.slice none 0 0]) zeroValue37 rfl) ?_
 rintro _ w11 ⟨g10,rfl,hC,hF,-⟩
 refine ln (hK3 _ _ ?_)
 refine Wc.seq fun _ hK13=>?_
 refine Wc.seq fun _ hK14=>rg<|lp (.pointer (some ((⟨g4,0,none⟩:Addr).add 0))) (qaf (sz:=1) underlying37 rfl sizeOf4 (by decide) rfl rfl)<|lv (.bool o) (qal (hC.bx (i:=2) rfl) isAgg4 rfl rfl)<|lp (.bool o) (qaa rfl) ?_
 rcases bS o with hq15 | hq15
 replace hb:=tt hq15 hb
 refine gs rfl rfl o rfl hq15<|gs rfl rfl o rfl hq15<|lp (.bool true) (qap (q:=o) rfl hq15 rfl)<|ln (hK14 _ _ ?_)
 refine Wc.cond_true (rfl) ?_
 refine Wc.seq fun _ hK16=>rg<|lp (.agg #[.bool true,.slice none 0 0]) (qat (places:=[(0,1),(1,1)]) (pv:=[(0,.bool true)]) type37 underlying37 rfl (qag type4 (qag type35 qbb rfl rfl) rfl rfl) rfl (by simp [Instr.fill,Value.cells]))<|lex.sk (hC.seta (i:=0) (ds:=[.bool true,.slice none 0 0]) rfl type37 rfl rfl rfl rfl rfl) ?_
 rintro w17 ⟨hC,hF⟩
 refine ln (hK16 _ _ ?_)
 replace hC:=hC.nil 66 (.pr si (.pr si si))
 obtain rfl:=os hb
 refine Wc.ret (hKR _ _ ?_)
 refine ⟨_,res1 results40 ⟨_,rfl,qai (hC.bx (i:=1) rfl) isAgg37 sizeOf37⟩,_,rfl,none,0,0,rfl,hC.sE [0]⟩
 replace hb:=tf hq15 hb
 refine gp rfl rfl o rfl hq15 (.pointer (some ((⟨g7,0,none⟩:Addr).add 0))) (qaf (sz:=1) underlying37 rfl sizeOf4 (by decide) rfl rfl)<|gv rfl rfl o rfl hq15 (.bool p) (qal (hC.bx (i:=1) rfl) isAgg4 rfl rfl)<|lp (.bool p) (qak (q:=o) rfl hq15 rfl)<|ln (hK14 _ _ ?_)
 refine Wc.cond (t:=p) (rfl) (fun hq19=>?_) (fun hq19=>?_)
 replace hb:=tt hq19 hb
 refine Wc.seq fun _ hK20=>rg<|lp (.agg #[.bool true,.slice none 0 0]) (qat (places:=[(0,1),(1,1)]) (pv:=[(0,.bool true)]) type37 underlying37 rfl (qag type4 (qag type35 qbb rfl rfl) rfl rfl) rfl (by simp [Instr.fill,Value.cells]))<|lex.sk (hC.seta (i:=0) (ds:=[.bool true,.slice none 0 0]) rfl type37 rfl rfl rfl rfl rfl) ?_
 rintro w21 ⟨hC,hF⟩
 refine ln (hK20 _ _ ?_)
 replace hC:=hC.nil 66 (.pr si (.pr si si))
 obtain rfl:=os hb
 refine Wc.ret (hKR _ _ ?_)
 refine ⟨_,res1 results40 ⟨_,rfl,qai (hC.bx (i:=1) rfl) isAgg37 sizeOf37⟩,_,rfl,none,0,0,rfl,hC.sE [0]⟩
 replace hb:=tf hq19 hb
 refine Wc.skip (hK13 _ _ ?_)
 refine Wc.seq fun _ hK23=>rg<|lp (.pointer (some ((⟨g4,0,none⟩:Addr).add 1))) (qaf (sz:=1) underlying37 rfl sizeOf35 (by decide) rfl rfl)<|lv (.slice f c.length g) (qal (hC.bx (i:=2) rfl) isAgg35 rfl rfl)<|lp (iv (c.length:Int)) (qay (A:=f) (n:=c.length) (m:=g) underlying35 rfl)<|lp (.pointer (some ((⟨g7,0,none⟩:Addr).add 1))) (qaf (sz:=1) underlying37 rfl sizeOf35 (by decide) rfl rfl)<|lv (.slice h d.length l) (qal (hC.bx (i:=1) rfl) isAgg35 rfl rfl)<|lp (iv (d.length:Int)) (qay (A:=h) (n:=d.length) (m:=l) underlying35 rfl) ?_
 obtain ⟨z24,h25,hb⟩:=bd hb
 refine lp (iv z24) (qau (a:=(c.length:Int)) (b:=(d.length:Int)) rfl rfl h25)<|lex.op (hC.mkmpn .pair (.pr si si) underlying87 rfl) ?_
 rintro _ w27 ⟨g26,rfl,hC,-,-⟩
 refine lex.op (hC.alloc (cs:=[.map none]) zeroValue87 rfl) ?_
 rintro _ w30 ⟨g29,rfl,hC,hF,-⟩
 refine lex.sk (hC.setf (i:=0) (k:=0) (v:=.map (some g26)) rfl sizeOf87 rfl (by rw [Addr.add_zero']; exact rfl) rfl rfl) ?_
 rintro w32 ⟨hC,hF⟩
 refine ln (hK23 _ _ ?_)
 refine Wc.fresh fun E33 hE=>?_
 have e2:E33 2=iv s:=cg hE 2 rfl
 have e3:E33 3=pg g4:=cg hE 3 rfl
 have e4:E33 4=pg g7:=cg hE 4 rfl
 have e6:E33 6=pg g10:=cg hE 6 rfl
 have e7:E33 7=pg g29:=cg hE 7 rfl
 clear hE
 refine Wc.seq fun _ hK34=>rg<|lp (.func (.func 52) #[] #[pg g29]) (qga (map_of (m2_cons e7 m2_nil)))<|lp (.func (.func 52) #[] #[pg g29]) (qab rfl)<|ln (hK34 _ _ ?_)
 refine Wc.seq fun _ hK35=>rg<|lp (.func (.func 52) #[] #[pg g29]) (qaa rfl)<|lp (.pointer (some ((⟨g4,0,none⟩:Addr).add 1))) (qaf (sz:=1) underlying37 rfl sizeOf35 (by decide) rfl e3)<|lv (.slice f c.length g) (qal (hC.bx (i:=4) rfl) isAgg35 rfl rfl) ?_
 replace hC:Cx (fun _=>False) O0 w w32 ([.mp g26 .pair (.pr si si) ([]:List ((Int×Int)×(Int×Int))),.box g29 87 [.map (some g26)]]++[.box g10 37 [.bool false,.slice none 0 0],.box g7 37 [.bool p,.slice h d.length l],.box g4 37 [.bool o,.slice f c.length g],.ro (.sl (.pr si (.pr si si))) [.slice h d.length l] d,.ro (.sl (.pr si (.pr si si))) [.slice f c.length g] c]):=hC.sE [1,0,2,3,4,5,6]
 obtain ⟨y36,h37,hb⟩:=bd hb
 refine lex.cl (⟨_,_,qco (vs:=[.slice f c.length g,iv 1,pg g29]) (ca:=#[pg g29]) call52 rfl rfl rfl,qhk n hC.lt (hC.rd (i:=6) rfl) (show I64 1 from by unfold I64; omega) hC.give h37⟩) ?_
 rintro _ w38 ⟨rfl,hK⟩
 replace hC:=hC.back hK
 clear hK
 refine ln (hK35 _ _ ?_)
 refine Wc.seq fun _ hK39=>rg<|lp (.func (.func 52) #[] #[pg g29]) (qaa rfl)<|lp (.pointer (some ((⟨g7,0,none⟩:Addr).add 1))) (qaf (sz:=1) underlying37 rfl sizeOf35 (by decide) rfl e4)<|lv (.slice h d.length l) (qal (hC.bx (i:=3) rfl) isAgg35 rfl rfl)<|lp _ (qaa e2) ?_
 replace hC:Cx (fun _=>False) O0 w w38 ([.mp g26 .pair (.pr si si) y36,.box g29 87 [.map (some g26)]]++[.box g10 37 [.bool false,.slice none 0 0],.box g7 37 [.bool p,.slice h d.length l],.box g4 37 [.bool o,.slice f c.length g],.ro (.sl (.pr si (.pr si si))) [.slice h d.length l] d,.ro (.sl (.pr si (.pr si si))) [.slice f c.length g] c]):=hC.sE [0,1,2,3,4,5,6]
 obtain ⟨y40,h41,hb⟩:=bd hb
 refine lex.cl (⟨_,_,qco (vs:=[.slice h d.length l,iv s,pg g29]) (ca:=#[pg g29]) call52 rfl rfl rfl,qhk n hC.lt (hC.rd (i:=5) rfl) B hC.give h41⟩) ?_
 rintro _ w42 ⟨rfl,hK⟩
 replace hC:=hC.back hK
 clear hK
 refine ln (hK39 _ _ ?_)
 refine Wc.seq fun _ hK43=>rg<|lv (.map (some g26)) (qaw isAgg87 e7 ((hC.bx (i:=1) rfl).cell (j:=0) rfl)) ?_
 replace hC:Cx (fun _=>False) O0 w w42 ([.mp g26 .pair (.pr si si) y40]++[.box g29 87 [.map (some g26)],.box g10 37 [.bool false,.slice none 0 0],.box g7 37 [.bool p,.slice h d.length l],.box g4 37 [.bool o,.slice f c.length g],.ro (.sl (.pr si (.pr si si))) [.slice h d.length l] d,.ro (.sl (.pr si (.pr si si))) [.slice f c.length g] c]):=hC.sE [0,1,2,3,4,5,6]
 obtain ⟨y44,h45,hb⟩:=bd hb
 refine lex.cl (⟨_,_,qam (vs:=[.map (some g26)]) call54 rfl rfl rfl,bivariate_gather_ok n hC.lt hC.give h45⟩) ?_
 rintro _ w50 ⟨A46,m47,c48,rfl,hK⟩
 replace hC:=hC.back hK
 clear hK
 obtain ⟨rfl,hl51,hc52⟩:=(hC.ow (i:=0) rfl).qae
 refine lex.sk (hC.seta (i:=2) (ds:=[.bool y44.1,.slice A46 y44.2.length c48]) rfl type37 rfl rfl rfl e6 rfl) ?_
 rintro w53 ⟨hC,hF⟩
 refine ln (hK43 _ _ ?_)
 obtain rfl:=os hb
 refine Wc.ret (hKR _ _ ?_)
 refine ⟨_,res1 results40 ⟨_,e6,qai (hC.bx (i:=2) rfl) isAgg37 sizeOf37⟩,_,rfl,A46,y44.2.length,c48,rfl,hC.sE [0]⟩

theorem bivariate_Poly_Add_ok (n:Nat) {w:World} {O0:List Nat} (hO: ∀k∈O0,k<w.heap.size) {f:Bool} {a:Option Addr} {l b:Nat} {g:List (Int×(Int×Int))} (m:Rep O0 w (.sl (.pr si (.pr si si))) [.slice a l b] g) {h:Bool} {c:Option Addr} {o d:Nat} {j:List (Int×(Int×Int))} (p:Rep O0 w (.sl (.pr si (.pr si si))) [.slice c o d] j) {r:Bool×(List (Int×(Int×Int)))} (hb:F.qel n f g h j=some r):
    Calls prog 22 #[.agg #[.bool f,.slice a l b],.agg #[.bool h,.slice c o d]] w fun e w'=> ∃v,e=.returned v∧∃(A1:Option Addr) (m1 c1:Nat),v=.agg #[.bool r.1,.slice A1 m1 c1]∧Cx (fun _=>False) O0 w w' [.own 66 (.pr si (.pr si si)) (.slice A1 m1 c1) r.2]:=by
 unfold F.qel at hb
 have hC:=Cx.start hO
 replace hC:=hC.arg rfl m
 replace hC:=hC.arg rfl p
 clear hO
 obtain ⟨rfl,q,s⟩:=m.qae
 obtain ⟨rfl,t,u⟩:=p.qae
 refine qao func22 rfl (by rw [ntmps22]; exact nb rfl) fun KR hKR=>?_
 refine Wc.seq fun _ hK3=>rg<|lex.op (hC.box (cs:=[.bool f,.slice a g.length b]) rfl rfl) ?_
 rintro _ w5 ⟨g4,rfl,hC,hF,-⟩
 refine lex.op (hC.box (cs:=[.bool h,.slice c j.length d]) rfl rfl) ?_
 rintro _ w8 ⟨g7,rfl,hC,hF,-⟩
 refine lex.op (hC.alloc (cs:=[.bool false,.slice none 0 0]) zeroValue37 rfl) ?_
 rintro _ w11 ⟨g10,rfl,hC,hF,-⟩
 refine ln (hK3 _ _ ?_)
 refine Wc.seq fun _ hK13=>rg<|lv (.agg #[.bool f,.slice a g.length b]) (qaq (hC.bx (i:=2) rfl) isAgg37 sizeOf37 rfl)<|lv (.agg #[.bool h,.slice c j.length d]) (qaq (hC.bx (i:=1) rfl) isAgg37 sizeOf37 rfl) ?_
 obtain ⟨y14,h15,hb⟩:=bd hb
 refine lex.cl (⟨_,_,qam (vs:=[.agg #[.bool f,.slice a g.length b],.agg #[.bool h,.slice c j.length d],iv 1]) call40 rfl rfl rfl,qhq n hC.lt (hC.rd (i:=4) rfl) (hC.rd (i:=3) rfl) (show I64 1 from by unfold I64; omega) h15⟩) ?_
 rintro _ w20 ⟨A16,m17,c18,rfl,hK⟩
 replace hC:=hC.merge hK
 clear hK
 obtain ⟨rfl,hl21,hc22⟩:=(hC.ow (i:=0) rfl).qae
 refine lex.sk (hC.seta (i:=1) (ds:=[.bool y14.1,.slice A16 y14.2.length c18]) rfl type37 rfl rfl rfl rfl rfl) ?_
 rintro w23 ⟨hC,hF⟩
 refine ln (hK13 _ _ ?_)
 obtain rfl:=os hb
 refine Wc.ret (hKR _ _ ?_)
 refine ⟨_,res1 results22 ⟨_,rfl,qai (hC.bx (i:=1) rfl) isAgg37 sizeOf37⟩,_,rfl,A16,y14.2.length,c18,rfl,hC.sE [0]⟩

theorem qht (n:Nat) {w:World} {O0:List Nat} (hO: ∀k∈O0,k<w.heap.size) {f:Bool} {a:Option Addr} {l b:Nat} {g:List (Int×(Int×Int))} (m:Rep O0 w (.sl (.pr si (.pr si si))) [.slice a l b] g) {h:Bool} {c:Option Addr} {o d:Nat} {j:List (Int×(Int×Int))} (p:Rep O0 w (.sl (.pr si (.pr si si))) [.slice c o d] j) {r:Bool×(List (Int×(Int×Int)))} (hb:F.qdl n f g h j=some r):
    Calls prog 23 #[.agg #[.bool f,.slice a l b],.agg #[.bool h,.slice c o d]] w fun e w'=> ∃v,e=.returned v∧∃(A1:Option Addr) (m1 c1:Nat),v=.agg #[.bool r.1,.slice A1 m1 c1]∧Cx (fun _=>False) O0 w w' [.own 66 (.pr si (.pr si si)) (.slice A1 m1 c1) r.2]:=by
 unfold F.qdl at hb
 have hC:=Cx.start hO
 replace hC:=hC.arg rfl m
 replace hC:=hC.arg rfl p
 clear hO
 obtain ⟨rfl,q,s⟩:=m.qae
 obtain ⟨rfl,t,u⟩:=p.qae
 refine qao func23 rfl (by rw [ntmps23]; exact nb rfl) fun KR hKR=>?_
 refine Wc.seq fun _ hK3=>rg<|lex.op (hC.box (cs:=[.bool f,.slice a g.length b]) rfl rfl) ?_
 rintro _ w5 ⟨g4,rfl,hC,hF,-⟩
 refine lex.op (hC.box (cs:=[.bool h,.slice c j.length d]) rfl rfl) ?_
 rintro _ w8 ⟨g7,rfl,hC,hF,-⟩
 refine lex.op (hC.alloc (cs:=[.bool false,.slice none 0 0]) zeroValue37 rfl) ?_
 rintro _ w11 ⟨g10,rfl,hC,hF,-⟩
 refine ln (hK3 _ _ ?_)
 refine Wc.seq fun _ hK13=>rg<|lv (.agg #[.bool f,.slice a g.length b]) (qaq (hC.bx (i:=2) rfl) isAgg37 sizeOf37 rfl)<|lv (.agg #[.bool h,.slice c j.length d]) (qaq (hC.bx (i:=1) rfl) isAgg37 sizeOf37 rfl) ?_
 obtain ⟨y14,h15,hb⟩:=bd hb
 refine lex.cl (⟨_,_,qam (vs:=[.agg #[.bool f,.slice a g.length b],.agg #[.bool h,.slice c j.length d],iv (-1)]) call40 rfl rfl rfl,qhq n hC.lt (hC.rd (i:=4) rfl) (hC.rd (i:=3) rfl) (show I64 (-1) from by unfold I64; omega) h15⟩) ?_
 rintro _ w20 ⟨A16,m17,c18,rfl,hK⟩
 replace hC:=hC.merge hK
 clear hK
 obtain ⟨rfl,hl21,hc22⟩:=(hC.ow (i:=0) rfl).qae
 refine lex.sk (hC.seta (i:=1) (ds:=[.bool y14.1,.slice A16 y14.2.length c18]) rfl type37 rfl rfl rfl rfl rfl) ?_
 rintro w23 ⟨hC,hF⟩
 refine ln (hK13 _ _ ?_)
 obtain rfl:=os hb
 refine Wc.ret (hKR _ _ ?_)
 refine ⟨_,res1 results23 ⟨_,rfl,qai (hC.bx (i:=1) rfl) isAgg37 sizeOf37⟩,_,rfl,A16,y14.2.length,c18,rfl,hC.sE [0]⟩

theorem qfv (n:Nat) {w:World} {O0:List Nat} (hO: ∀k∈O0,k<w.heap.size) {a:Bool} {b:Option Addr} {f c:Nat} {d:List (Int×(Int×Int))} (g:Rep O0 w (.sl (.pr si (.pr si si))) [.slice b f c] d) {r:Bool} (hb:F.qcy n a d=some r):
    Calls prog 24 #[.agg #[.bool a,.slice b f c]] w fun e w'=> ∃v,e=.returned v∧v=.bool r∧Cx (fun _=>False) O0 w w' []:=by
 unfold F.qcy at hb
 have hC:=Cx.start hO
 replace hC:=hC.arg rfl g
 clear hO
 obtain ⟨rfl,h,j⟩:=g.qae
 refine qao func24 rfl (by rw [ntmps24]; exact nb rfl) fun KR hKR=>?_
 refine Wc.seq fun _ hK2=>rg<|lex.op (hC.box (cs:=[.bool a,.slice b d.length c]) rfl rfl) ?_
 rintro _ w4 ⟨g3,rfl,hC,hF,-⟩
 refine lp (.bool false) (qab rfl)<|ln (hK2 _ _ ?_)
 refine Wc.seq fun _ hK6=>rg<|lp (.pointer (some ((⟨g3,0,none⟩:Addr).add 0))) (qaf (sz:=1) underlying37 rfl sizeOf4 (by decide) rfl rfl)<|lv (.bool a) (qal (hC.bx (i:=0) rfl) isAgg4 rfl rfl)<|lp (.bool a) (qab rfl)<|ln (hK6 _ _ ?_)
 obtain rfl:=os hb
 refine Wc.ret (hKR _ _ ?_)
 refine ⟨_,res1 results24 (tV (.bool a) rfl),_,rfl,rfl,hC.sE []⟩

theorem qhp (n:Nat) {w:World} {O0:List Nat} (hO: ∀k∈O0,k<w.heap.size) {c:Int} (g:I64 c) {f:Int} (h:I64 f) {d:Int} (j:I64 d) {r:Bool×(List (Int×(Int×Int)))} (hb:F.qfh n c f d=some r):
    Calls prog 41 #[iv c,iv f,iv d] w fun e w'=> ∃v,e=.returned v∧∃(A1:Option Addr) (m1 c1:Nat),v=.agg #[.bool r.1,.slice A1 m1 c1]∧Cx (fun _=>False) O0 w w' [.own 66 (.pr si (.pr si si)) (.slice A1 m1 c1) r.2]:=by
 unfold F.qfh at hb
 have hC:=Cx.start hO
 clear hO
 refine qao func41 rfl (by rw [ntmps41]; exact nb rfl) fun KR hKR=>?_
 refine Wc.seq fun _ hK1=>rg<|lex.op (hC.alloc (cs:=[.bool false,.slice none 0 0]) zeroValue37 rfl) ?_
 rintro _ w3 ⟨g2,rfl,hC,hF,-⟩
 refine ln (hK1 _ _ ?_)
 refine Wc.seq fun _ hK5=>?_
 refine Wc.block<|Wc.seq fun _ hK6=>rg<|lp (iv c) (qaa rfl)<|lp (.bool (decide (c=0))) (qbl (k:=.i64) (a:=c) (b:=0) rfl rfl)<|lp (.bool (decide (c=0))) (qab rfl)<|ln (hK6 _ _ ?_)
 refine Wc.cond (t:=(decide (c=0))) (rfl) (fun hq7=>?_) (fun hq7=>?_)
 replace hb:=tt hq7 hb
 refine Wc.seq fun _ hK8=>rg<|lp (.agg #[.bool false,.slice none 0 0]) (qat (places:=[(0,1),(1,1)]) (pv:=[]) type37 underlying37 rfl (qag type4 (qag type35 qbb rfl rfl) rfl rfl) rfl (by simp [Instr.fill,Value.cells]))<|lex.sk (hC.seta (i:=0) (ds:=[.bool false,.slice none 0 0]) rfl type37 rfl rfl rfl rfl rfl) ?_
 rintro w9 ⟨hC,hF⟩
 refine ln (hK8 _ _ ?_)
 replace hC:=hC.nil 66 (.pr si (.pr si si))
 obtain rfl:=os hb
 refine Wc.ret (hKR _ _ ?_)
 refine ⟨_,res1 results41 ⟨_,rfl,qai (hC.bx (i:=1) rfl) isAgg37 sizeOf37⟩,_,rfl,none,0,0,rfl,hC.sE [0]⟩
 replace hb:=tf hq7 hb
 refine Wc.seq fun _ hK11=>rg<|lp (iv c) (qaa rfl) ?_
 obtain ⟨y12,h13,hb⟩:=bd hb
 refine lex.cl (⟨_,_,qam (vs:=[iv c,iv 1125899906842624]) call39 rfl rfl rfl,qby n hC.lt g (show I64 1125899906842624 from by unfold I64; omega) h13⟩) ?_
 rintro _ w14 ⟨rfl,hK⟩
 replace hC:=hC.merge hK
 clear hK
 refine lp (.bool (!y12)) (qbt (q:=y12) rfl)<|lp (.bool (!y12)) (qaa rfl) ?_
 rcases bS (!y12) with hq15 | hq15
 replace hb:=tt hq15 hb
 refine gs rfl rfl (!y12) rfl hq15<|gs rfl rfl (!y12) rfl hq15<|gs rfl rfl (!y12) rfl hq15<|lp (.bool true) (qap (q:=(!y12)) rfl hq15 rfl)<|lp (.bool true) (qaa rfl)<|gs rfl rfl true rfl rfl<|gs rfl rfl true rfl rfl<|gs rfl rfl true rfl rfl<|lp (.bool true) (qap (q:=true) rfl rfl rfl)<|lp (.bool true) (qab rfl)<|ln (hK11 _ _ ?_)
 refine Wc.fresh fun E16 hE=>?_
 have e0:E16 0=iv c:=cg hE 0 rfl
 have e1:E16 1=iv f:=cg hE 1 rfl
 have e2:E16 2=iv d:=cg hE 2 rfl
 have e6:E16 6=pg g2:=cg hE 6 rfl
 have e11:E16 11=.bool true:=cg hE 11 rfl
 clear hE
 refine Wc.cond_true (e11) ?_
 refine Wc.seq fun _ hK17=>rg<|lp (.agg #[.bool true,.slice none 0 0]) (qat (places:=[(0,1),(1,1)]) (pv:=[(0,.bool true)]) type37 underlying37 rfl (qag type4 (qag type35 qbb rfl rfl) rfl rfl) rfl (by simp [Instr.fill,Value.cells]))<|lex.sk (hC.seta (i:=0) (ds:=[.bool true,.slice none 0 0]) rfl type37 rfl rfl rfl e6 rfl) ?_
 rintro w18 ⟨hC,hF⟩
 refine ln (hK17 _ _ ?_)
 replace hC:=hC.nil 66 (.pr si (.pr si si))
 obtain rfl:=os hb
 refine Wc.ret (hKR _ _ ?_)
 refine ⟨_,res1 results41 ⟨_,e6,qai (hC.bx (i:=1) rfl) isAgg37 sizeOf37⟩,_,rfl,none,0,0,rfl,hC.sE [0]⟩
 replace hb:=tf hq15 hb
 refine gp rfl rfl (!y12) rfl hq15 (iv f) (qaa rfl) ?_
 obtain ⟨y20,h21,hb⟩:=bd hb
 refine lex.gcl (qdp rfl rfl (show _=Value.bool (!y12) from rfl) hq15) (⟨_,_,qam (vs:=[iv f,iv 1048576]) call39 rfl rfl rfl,qby n hC.lt h (show I64 1048576 from by unfold I64; omega) h21⟩) ?_
 rintro _ w22 ⟨rfl,hK⟩
 replace hC:=hC.merge hK
 clear hK
 refine gp rfl rfl (!y12) rfl hq15 (.bool (!y20)) (qbt (q:=y20) rfl)<|lp (.bool (!y20)) (qak (q:=(!y12)) rfl hq15 rfl)<|lp (.bool (!y20)) (qaa rfl) ?_
 rcases bS (!y20) with hq23 | hq23
 replace hb:=tt hq23 hb
 refine gs rfl rfl (!y20) rfl hq23<|gs rfl rfl (!y20) rfl hq23<|gs rfl rfl (!y20) rfl hq23<|lp (.bool true) (qap (q:=(!y20)) rfl hq23 rfl)<|lp (.bool true) (qab rfl)<|ln (hK11 _ _ ?_)
 refine Wc.fresh fun E24 hE=>?_
 have e0:E24 0=iv c:=cg hE 0 rfl
 have e1:E24 1=iv f:=cg hE 1 rfl
 have e2:E24 2=iv d:=cg hE 2 rfl
 have e6:E24 6=pg g2:=cg hE 6 rfl
 have e11:E24 11=.bool true:=cg hE 11 rfl
 clear hE
 refine Wc.cond_true (e11) ?_
 refine Wc.seq fun _ hK25=>rg<|lp (.agg #[.bool true,.slice none 0 0]) (qat (places:=[(0,1),(1,1)]) (pv:=[(0,.bool true)]) type37 underlying37 rfl (qag type4 (qag type35 qbb rfl rfl) rfl rfl) rfl (by simp [Instr.fill,Value.cells]))<|lex.sk (hC.seta (i:=0) (ds:=[.bool true,.slice none 0 0]) rfl type37 rfl rfl rfl e6 rfl) ?_
 rintro w26 ⟨hC,hF⟩
 refine ln (hK25 _ _ ?_)
 replace hC:=hC.nil 66 (.pr si (.pr si si))
 obtain rfl:=os hb
 refine Wc.ret (hKR _ _ ?_)
 refine ⟨_,res1 results41 ⟨_,e6,qai (hC.bx (i:=1) rfl) isAgg37 sizeOf37⟩,_,rfl,none,0,0,rfl,hC.sE [0]⟩
 replace hb:=tf hq23 hb
 refine gp rfl rfl (!y20) rfl hq23 (iv d) (qaa rfl) ?_
 obtain ⟨y28,h29,hb⟩:=bd hb
 refine lex.gcl (qdp rfl rfl (show _=Value.bool (!y20) from rfl) hq23) (⟨_,_,qam (vs:=[iv d,iv 1048576]) call39 rfl rfl rfl,qby n hC.lt j (show I64 1048576 from by unfold I64; omega) h29⟩) ?_
 rintro _ w30 ⟨rfl,hK⟩
 replace hC:=hC.merge hK
 clear hK
 refine gp rfl rfl (!y20) rfl hq23 (.bool (!y28)) (qbt (q:=y28) rfl)<|lp (.bool (!y28)) (qak (q:=(!y20)) rfl hq23 rfl)<|lp (.bool (!y28)) (qab rfl)<|ln (hK11 _ _ ?_)
 refine Wc.fresh fun E31 hE=>?_
 have e0:E31 0=iv c:=cg hE 0 rfl
 have e1:E31 1=iv f:=cg hE 1 rfl
 have e2:E31 2=iv d:=cg hE 2 rfl
 have e6:E31 6=pg g2:=cg hE 6 rfl
 have e11:E31 11=.bool (!y28):=cg hE 11 rfl
 clear hE
 refine Wc.cond (t:=(!y28)) (e11) (fun hq32=>?_) (fun hq32=>?_)
 replace hb:=tt hq32 hb
 refine Wc.seq fun _ hK33=>rg<|lp (.agg #[.bool true,.slice none 0 0]) (qat (places:=[(0,1),(1,1)]) (pv:=[(0,.bool true)]) type37 underlying37 rfl (qag type4 (qag type35 qbb rfl rfl) rfl rfl) rfl (by simp [Instr.fill,Value.cells]))<|lex.sk (hC.seta (i:=0) (ds:=[.bool true,.slice none 0 0]) rfl type37 rfl rfl rfl e6 rfl) ?_
 rintro w34 ⟨hC,hF⟩
 refine ln (hK33 _ _ ?_)
 replace hC:=hC.nil 66 (.pr si (.pr si si))
 obtain rfl:=os hb
 refine Wc.ret (hKR _ _ ?_)
 refine ⟨_,res1 results41 ⟨_,e6,qai (hC.bx (i:=1) rfl) isAgg37 sizeOf37⟩,_,rfl,none,0,0,rfl,hC.sE [0]⟩
 replace hb:=tf hq32 hb
 refine Wc.skip (hK5 _ _ ?_)
 refine Wc.seq fun _ hK36=>rg<|lp _ (qaa e1)<|lp _ (qaa e2)<|lp _ (qaa e0)<|lp (.agg #[iv f,iv d,iv c]) (qat (places:=[(0,1),(1,1),(2,1)]) (pv:=[(0,iv f),(1,iv d),(2,iv c)]) type66 underlying66 rfl (qag type3 (qag type3 (qag type3 qbb rfl rfl) rfl rfl) rfl rfl) rfl (by simp [Instr.fill,Value.cells]))<|lex.op (hC.lit (s:=(.pr si (.pr si si))) (vs:=[.agg #[iv f,iv d,iv c]]) (xs:=[(f,(d,c))]) underlying35 type66 rfl rfl (nb rfl) rfl rfl (by simp [Value.cells,Sh.n]) rfl (show Elems _ _ (.pr si (.pr si si)) ([iv f,iv d,iv c]++([])) ([(f,(d,c))]:List (Int×(Int×Int))) from Elems.cons (⟨[iv f],[iv d,iv c],rfl,⟨rfl,I64.wr h⟩,⟨[iv d],[iv c],rfl,⟨rfl,I64.wr j⟩,⟨rfl,I64.wr g⟩⟩⟩) (Elems.nil _ _ _))) ?_
 rintro _ w41 ⟨A37,c38,rfl,hl39,hc40,hC,-,-⟩
 refine lp (.agg #[.bool false,.slice A37 ((([(f,(d,c))]:List (Int×(Int×Int)))).length) c38]) (qat (places:=[(0,1),(1,1)]) (pv:=[(1,.slice A37 ((([(f,(d,c))]:List (Int×(Int×Int)))).length) c38)]) type37 underlying37 rfl (qag type4 (qag type35 qbb rfl rfl) rfl rfl) rfl (by simp [Instr.fill,Value.cells]))<|lex.sk (hC.seta (i:=1) (ds:=[.bool false,.slice A37 ((([(f,(d,c))]:List (Int×(Int×Int)))).length) c38]) rfl type37 rfl rfl rfl e6 rfl) ?_
 rintro w43 ⟨hC,hF⟩
 refine ln (hK36 _ _ ?_)
 obtain rfl:=os hb
 refine Wc.ret (hKR _ _ ?_)
 refine ⟨_,res1 results41 ⟨_,e6,qai (hC.bx (i:=1) rfl) isAgg37 sizeOf37⟩,_,rfl,A37,(([(f,(d,c))]:List (Int×(Int×Int)))).length,c38,rfl,hC.sE [0]⟩
