import Derived.Test.YtlkmcbgkohpmiaaS
import Derived.Test.YtlkmcbgkohpmiaaG2
set_option linter.all false
namespace Go.Proofs.Ytlkmcbgkohpmiaa
open Ev Try
set_option maxRecDepth 100000
set_option maxHeartbeats 4000000
theorem perm_All_ok {w:World} {O0:List Nat} {a:Int} (hO: ∀k∈O0,k<w.heap.size):Calls prog 89 #[iv a] w fun e w'=> ∃v,e=.returned v∧∃gb,v=.func (.func 93) #[] #[pg gb]∧Cx (fun _=>False) O0 w w' [.box gb 3 [iv a]]:=by
 have hC:=Cx.start hO
 refine qao func89 rfl (by rw [ntmps89]; exact nb rfl) fun KR hKR=>?_
 refine Wc.seq fun _ hK1=>rg<|lex.op (hC.box (cs:=[iv a]) rfl rfl) ?_
 rintro _ w2 ⟨g1,rfl,hC,hF,hG⟩
 refine lp (.nilFunc) (qab rfl)<|ln (hK1 _ _ ?_)
 refine Wc.seq fun _ hK2=>rg<|lp (.func (.func 93) #[] #[pg g1]) (qga (l:=[pg g1]) rfl)<|lp (.func (.func 93) #[] #[pg g1]) (qab rfl)<|ln (hK2 _ _ ?_)
 refine Wc.ret (hKR _ _ ?_)
 exact ⟨_,res1 results89 (tV (.func (.func 93) #[] #[pg g1]) rfl),_,rfl,g1,rfl,hC⟩

theorem slices_Clone_Perm_int_ok (n:Nat) {w:World} {O0:List Nat} (hO: ∀k∈O0,k<w.heap.size) {a:Option Addr} {d c:Nat} {b:List Int} (f:Rep O0 w (.sl si) [.slice a d c] b) {r:(List Int)} (hb:F.qgg n b=some r):
    Calls prog 64 #[.slice a d c] w fun e w'=> ∃v,e=.returned v∧∃(A0:Option Addr) (m0 c0:Nat),v=.slice A0 m0 c0∧Cx (fun _=>False) O0 w w' [.own 3 si (.slice A0 m0 c0) r]:=by
 unfold F.qgg at hb
 have hC:=Cx.start hO
 replace hC:=hC.arg rfl f
 clear hO
 obtain ⟨rfl,g,h⟩:=f.qaf
 refine qao func64 rfl (by rw [ntmps64]; exact nb rfl) fun KR hKR=>?_
 refine Wc.seq fun _ hK2=>rg<|lp (.slice none 0 0) (qab rfl)<|ln (hK2 _ _ ?_)
 refine Wc.seq fun _ hK3=>?_
 refine Wc.seq fun _ hK4=>rg<|lp (.slice a b.length c) (qaa rfl)<|lp (.bool a.isNone) (pu_eqlnil underlying52 rfl rfl)<|ln (hK4 _ _ ?_)
 refine Wc.cond (t:=a.isNone) (rfl) (fun hq5=>?_) (fun hq5=>?_)
 have hz:a=none:=by simpa using hq5
 have hx:=(hC.rd (i:=0) rfl).none_nil' hz
 replace hb:some ([])=some r:=by have hb2:=hb; rw [hx] at hb2; first | exact hb2 | simpa [lim] using hb2
 refine Wc.seq fun _ hK7=>rg<|lp (.slice none 0 0) (qab rfl)<|ln (hK7 _ _ ?_)
 replace hC:=hC.nil 3 si
 obtain rfl:=os hb
 refine Wc.ret (hKR _ _ ?_)
 refine ⟨_,res1 results64 (tV (.slice none 0 0) rfl),_,rfl,none,0,0,rfl,hC.sE [0]⟩
 refine Wc.skip (hK3 _ _ ?_)
 refine Wc.seq fun _ hK9=>rg<|lex.op (hC.lit (s:=si) (vs:=[]) (xs:=[]) underlying52 type3 rfl rfl (nb rfl) rfl rfl (by simp [Value.cells,Sh.n]) rfl (show Elems _ _ si ([]) ([]:List Int) from Elems.nil _ _ _)) ?_
 rintro _ w14 ⟨A10,c11,rfl,hl12,hc13,hC,-,-⟩
 refine lp (.slice a b.length c) (qaa rfl) ?_
 obtain ⟨u16,h17,hb⟩:=bd hb
 refine lex.op (hC.app (i:=0) (s:=si) (xs:=([]:List Int)) (ys:=b) (m:=b.length) rfl underlying52 underlying52 type3 rfl rfl rfl (hC.srcr (i:=1) rfl) rfl rfl (by have:=qbn h17; simp at this⊢ <;>omega) (by decide)) ?_
 rintro _ w22 ⟨A18,c19,rfl,hl20,hc21,hC,-,-⟩
 refine lp (.slice A18 ((([]:List Int)++b).length) c19) (qab rfl)<|ln (hK9 _ _ ?_)
 obtain rfl:=os hb
 refine Wc.ret (hKR _ _ ?_)
 refine ⟨_,res1 results64 (tV (.slice A18 ((([]:List Int)++b).length) c19) rfl),_,rfl,A18,(([]:List Int)++b).length,c19,rfl,hC.sE [0]⟩

def qhg:Go.Shelf.Ren:=⟨fun x=>match x with | 35=>83 | _=>0,fun x=>match x with | 0=>0 | 3=>3 | 4=>4 | 22=>52 | 23=>3 | _=>0,fun _=>0⟩
theorem slices_Reverse_Perm_int_tail:Go.Proofs.SlLaysN.n35 prog qhg where
  mixed:=mixed
  f35:=⟨"slices.Reverse[unravel/perm.Perm,int]",by decide,by kernel_rfl⟩
  t0:=underlying0
  a0:=isAgg0
  z0:=sizeOf0
  v0:=zeroValue0
  t3:=underlying3
  a3:=isAgg3
  z3:=sizeOf3
  v3:=zeroValue3
  t4:=underlying4
  a4:=isAgg4
  z4:=sizeOf4
  v4:=zeroValue4
  t22:=underlying52
  a22:=isAgg52
  z22:=sizeOf52
  v22:=zeroValue52
  t23:=underlying3
  a23:=isAgg3
  z23:=sizeOf3
  v23:=zeroValue3

theorem perm_advance_ok (n:Nat) {w:World} {O0:List Nat} (hO: ∀k∈O0,k<w.heap.size) {h:Option Addr} {l f:Nat} {d:List Int} (hio:Tk O0 w [.own 3 si (.slice h l f) d]) {r:Bool×(List Int)} (hb:F.perm_advance n d=some r):
    Calls prog 94 #[.slice h l f] w fun e w'=> ∃v,e=.returned v∧v=.bool r.1∧Cx (fun k=>k∈blocks [.own 3 si (.slice h l f) d]) O0 w w' [.own 3 si (.slice h l f) r.2]:=by
 unfold F.perm_advance at hb
 have hC:=Cx.startTk hO hio
 have hsub:=hio.2.2
 clear hO
 obtain ⟨rfl,p,s⟩:=(hC.ow (i:=0) rfl).qaf
 clear hio hsub
 obtain ⟨I,hI,hC⟩: ∃I:Nat→Prop,I=(fun k=>k∈blocks [.own 3 si (.slice h d.length f) d])∧Cx I O0 w w ([.own 3 si (.slice h d.length f) d]):=⟨_,rfl,hC⟩
 refine qao func94 rfl (by rw [ntmps94]; exact nb rfl) fun KR hKR=>?_
 refine Wc.seq fun _ hK2=>rg<|lp (.bool false) (qab rfl)<|ln (hK2 _ _ ?_)
 refine Wc.seq fun _ hK3=>rg<|lp (.slice h d.length f) (qaa rfl)<|lp (iv (d.length:Int)) (qan (A:=h) (n:=d.length) (m:=f) underlying52 rfl) ?_
 obtain ⟨z4,h5,hb⟩:=bd hb
 refine lp (iv z4) (qbu (a:=(d.length:Int)) (b:=2) rfl rfl h5)<|lp (iv z4) (qab rfl)<|ln (hK3 _ _ ?_)
 refine Wc.seq fun _ hK6=>?_
 obtain ⟨o7,hl0,hb⟩:=bd hb
 refine Wc.cut (fun E wv=> ∃(c:Int),E 0=.slice h d.length f∧E 2=.bool false∧E 3=iv c∧I64 c∧Cx I O0 w wv [.own 3 si (.slice h d.length f) d]∧(cond (decide (c<0)) (some (false,d)) ((chk ((d.length:Int)-1)).bind fun z45=>((loopN n (F.qgz n d c) z45).bind fun o48=>match o48 with | g=>(get d g).bind fun x81=>(get d c).bind fun x88=>(get d c).bind fun x95=>(get (d.set c.toNat x81) g).bind fun x103=>(chk (c+1)).bind fun z112=>(cut z112 (((d.set c.toNat x81).set g.toNat x88).length:Int) ((d.set c.toNat x81).set g.toNat x88).length).bind fun u114=>some (true,(((d.set c.toNat x81).set g.toNat x88).take z112.toNat++(((d.set c.toNat x81).set g.toNat x88).drop z112.toNat).reverse)))):Option (Bool×(List Int)))=some r) (fun _ hK8=>?_) ?_
 refine Wc.block ?_
 refine Wc.loop (fun m E wv=> ∃(c:Int),E 0=.slice h d.length f∧E 2=.bool false∧E 3=iv c∧I64 c∧Cx I O0 w wv [.own 3 si (.slice h d.length f) d]∧loopN m (F.perm_advance_b0 n d) c=some o7) n ⟨z4,rfl,rfl,rfl,(qai h5),hC.sE [0],hl0⟩ ?_
 have hbK0:=hb
 clear hb hC hl0
 rintro m10 E12 w11 ⟨c,e0,e2,e3,j,hC,hl0⟩ K9 hK9
 obtain ⟨m10',o13,rfl,hb,hl0⟩:=qam hl0
 unfold F.perm_advance_b0 at hb
 refine Wc.seq fun _ hK14=>?_
 refine Wc.seq fun _ hK15=>?_
 refine Wc.regionMix [] (frm [] ([]:List Fact) ([]:List Fact)) (fun _=>rfl) mixed (by decide+kernel) (by decide+kernel) fun w17 hw16=>?_
 replace hC:=hC.step (Fr.qbh hw16)
 have hM:=Fr.refl (fun k=>k∈blocks ([]:List Fact)) w17
 clear hw16
 have hS:=hC
 refine mp (iv c) (qaa e3)<|mp (.bool (decide (0≤c))) (pu_geq (k:=.i64) (a:=c) (b:=0) rfl rfl)<|mp (.bool (decide (0≤c))) (qaa rfl) ?_
 rcases bS (decide (0≤c)) with hq18 | hq18
 replace hb:=tt hq18 hb
 refine mixE.gpure rfl (qdy rfl rfl (show _=Value.bool (decide (0≤c)) from rfl) hq18) (v:=.slice h d.length f) (qaa e0)<|mixE.gpure rfl (qdy rfl rfl (show _=Value.bool (decide (0≤c)) from rfl) hq18) (v:=iv c) (qaa e3) ?_
 obtain ⟨x19,h20,hb⟩:=bd hb
 obtain ⟨ad21,cs22,hA,ho25,hc23,hr24⟩:=hS.elo2 (i:=0) rfl (qac h20).2 [] (by decide)
 subst hA
 refine mixE.gpure rfl (qdy rfl rfl (show _=Value.bool (decide (0≤c)) from rfl) hq18) (v:=.pointer (some (ad21.add (c.toNat*1)))) (qag (a:=c) underlying52 sizeOf3 rfl rfl (qac h20).1) ?_
 obtain ⟨rfl,hr24'⟩:=hr24
 refine mixE.gload rfl (qdy rfl rfl (show _=Value.bool (decide (0≤c)) from rfl) hq18) hM (v:=iv x19) (fun _ hF=>qah isAgg3 rfl (hF.cell (hc23 0 _ rfl) (off1 ho25)))<|mixE.gpure rfl (qdy rfl rfl (show _=Value.bool (decide (0≤c)) from rfl) hq18) (v:=.slice (some ad21) d.length f) (qaa e0)<|mixE.gpure rfl (qdy rfl rfl (show _=Value.bool (decide (0≤c)) from rfl) hq18) (v:=iv c) (qaa e3) ?_
 obtain ⟨z26,h27,hb⟩:=bd hb
 refine mixE.gpure rfl (qdy rfl rfl (show _=Value.bool (decide (0≤c)) from rfl) hq18) (v:=iv z26) (qak (a:=c) (b:=1) rfl rfl h27) ?_
 obtain ⟨x28,h29,hb⟩:=bd hb
 obtain ⟨ad30,cs31,hA,ho34,hc32,hr33⟩:=hS.elo2 (i:=0) rfl (qac h29).2 [] (by decide)
 obtain rfl:=Option.some.inj hA
 refine mixE.gpure rfl (qdy rfl rfl (show _=Value.bool (decide (0≤c)) from rfl) hq18) (v:=.pointer (some (ad21.add (z26.toNat*1)))) (qag (a:=z26) underlying52 sizeOf3 rfl rfl (qac h29).1) ?_
 obtain ⟨rfl,hr33'⟩:=hr33
 refine mixE.gload rfl (qdy rfl rfl (show _=Value.bool (decide (0≤c)) from rfl) hq18) hM (v:=iv x28) (fun _ hF=>qah isAgg3 rfl (hF.cell (hc32 0 _ rfl) (off1 ho34)))<|mixE.gpure rfl (qdy rfl rfl (show _=Value.bool (decide (0≤c)) from rfl) hq18) (v:=.bool (decide (x28<x19))) (qbi (k:=.i64) (a:=x19) (b:=x28) rfl rfl)<|mp (.bool (decide (x28<x19))) (qap (q:=(decide (0≤c))) rfl hq18 rfl)<|mixE.nil ?_
 clear hS hM
 refine hK15 _ _<|Wc.cond (t:=(decide (x28<x19))) (rfl) (fun hq35=>?_) (fun hq35=>?_)
 replace hb:=tt hq35 hb
 refine Wc.skip (hK14 _ _ ?_)
 refine Wc.block<|rg<|lp _ (qaa e3) ?_
 obtain ⟨z36,h37,hb⟩:=bd hb
 refine lp (iv z36) (qbu (a:=c) (b:=1) rfl rfl h37)<|lp (iv z36) (qab rfl)<|ln ?_
 obtain rfl:=os hb
 exact hK9 m10' _ _ (Nat.lt_succ_self _) ⟨z36,e0,e2,rfl,(qai h37),hC.sE [0],lN hl0⟩
 replace hb:=tf hq35 hb
 refine Wc.exit rfl ?_
 obtain rfl:=os hb
 obtain rfl:=(lX hl0).symm
 exact hK8 _ _ ⟨c,e0,e2,e3,j,hC.sE [0],hbK0⟩
 replace hb:=tf hq18 hb
 refine mixE.gskip (want_f rfl rfl (show _=Value.bool (decide (0≤c)) from rfl) hq18)<|mixE.gskip (want_f rfl rfl (show _=Value.bool (decide (0≤c)) from rfl) hq18)<|mixE.gskip (want_f rfl rfl (show _=Value.bool (decide (0≤c)) from rfl) hq18)<|mixE.gskip (want_f rfl rfl (show _=Value.bool (decide (0≤c)) from rfl) hq18)<|mixE.gskip (want_f rfl rfl (show _=Value.bool (decide (0≤c)) from rfl) hq18)<|mixE.gskip (want_f rfl rfl (show _=Value.bool (decide (0≤c)) from rfl) hq18)<|mixE.gskip (want_f rfl rfl (show _=Value.bool (decide (0≤c)) from rfl) hq18)<|mixE.gskip (want_f rfl rfl (show _=Value.bool (decide (0≤c)) from rfl) hq18)<|mixE.gskip (want_f rfl rfl (show _=Value.bool (decide (0≤c)) from rfl) hq18)<|mixE.gskip (want_f rfl rfl (show _=Value.bool (decide (0≤c)) from rfl) hq18)<|mp (.bool false) (qat (q:=(decide (0≤c))) rfl hq18 rfl)<|mixE.nil ?_
 clear hS hM
 refine hK15 _ _ ?_
 refine Wc.cond_false (rfl) ?_
 refine Wc.exit rfl ?_
 obtain rfl:=os hb
 obtain rfl:=(lX hl0).symm
 exact hK8 _ _ ⟨c,e0,e2,e3,j,hC.sE [0],hbK0⟩
 clear hb hC hl0
 rintro E39 w38 ⟨c,e0,e2,e3,j,hC,hb⟩
 refine hK6 _ _ ?_
 refine Wc.seq fun _ hK40=>?_
 refine Wc.seq fun _ hK41=>rg<|lp _ (qaa e3)<|lp (.bool (decide (c<0))) (qau (k:=.i64) (a:=c) (b:=0) rfl rfl)<|ln (hK41 _ _ ?_)
 refine Wc.cond (t:=(decide (c<0))) (rfl) (fun hq42=>?_) (fun hq42=>?_)
 replace hb:=tt hq42 hb
 refine Wc.seq fun _ hK43=>rg<|lp (.bool false) (qab rfl)<|ln (hK43 _ _ ?_)
 obtain rfl:=os hb
 subst hI
 refine Wc.ret (hKR _ _ ?_)
 refine ⟨_,res1 results94 (tV (.bool false) rfl),_,rfl,rfl,hC.sE [0]⟩
 replace hb:=tf hq42 hb
 refine Wc.skip (hK40 _ _ ?_)
 refine Wc.seq fun _ hK44=>rg<|lp _ (qaa e0)<|lp (iv (d.length:Int)) (qan (A:=h) (n:=d.length) (m:=f) underlying52 rfl) ?_
 obtain ⟨z45,h46,hb⟩:=bd hb
 refine lp (iv z45) (qbu (a:=(d.length:Int)) (b:=1) rfl rfl h46)<|lp (iv z45) (qab rfl)<|ln (hK44 _ _ ?_)
 refine Wc.seq fun _ hK47=>?_
 obtain ⟨o48,hl1,f48,hf48,hb⟩:=bn hb
 refine Wc.cut (fun E wv=> ∃(g:Int),E 0=.slice h d.length f∧E 2=.bool false∧E 3=iv c∧E 4=iv g∧I64 g∧Cx I O0 w wv [.own 3 si (.slice h d.length f) d]∧f48 g=some r) (fun _ hK49=>?_) ?_
 refine Wc.block ?_
 refine Wc.loop (fun m E wv=> ∃(g:Int),E 0=.slice h d.length f∧E 2=.bool false∧E 3=iv c∧E 4=iv g∧I64 g∧Cx I O0 w wv [.own 3 si (.slice h d.length f) d]∧loopN m (F.qgz n d c) g=some o48) n ⟨z45,e0,e2,e3,rfl,(qai h46),hC.sE [0],hl1⟩ ?_
 have hbK1:=hb
 clear hb hC hl1
 rintro m51 E53 w52 ⟨g,e0,e2,e3,e4,o,hC,hl1⟩ K50 hK50
 obtain ⟨m51',o54,rfl,hb,hl1⟩:=qam hl1
 unfold F.qgz at hb
 refine Wc.seq fun _ hK55=>?_
 refine Wc.seq fun _ hK56=>?_
 refine Wc.regionMix [] (frm [] ([]:List Fact) ([]:List Fact)) (fun _=>rfl) mixed (by decide+kernel) (by decide+kernel) fun w58 hw57=>?_
 replace hC:=hC.step (Fr.qbh hw57)
 have hM:=Fr.refl (fun k=>k∈blocks ([]:List Fact)) w58
 clear hw57
 have hS:=hC
 refine mp (.slice h d.length f) (qaa e0)<|mp (iv g) (qaa e4) ?_
 obtain ⟨x59,h60,hb⟩:=bd hb
 obtain ⟨ad61,cs62,hA,ho65,hc63,hr64⟩:=hS.elo2 (i:=0) rfl (qac h60).2 [] (by decide)
 subst hA
 refine mp (.pointer (some (ad61.add (g.toNat*1)))) (qag (a:=g) underlying52 sizeOf3 rfl rfl (qac h60).1) ?_
 obtain ⟨rfl,hr64'⟩:=hr64
 refine mixE.load hM (v:=iv x59) (fun _ hF=>qah isAgg3 rfl (hF.cell (hc63 0 _ rfl) (off1 ho65)))<|mp (.slice (some ad61) d.length f) (qaa e0)<|mp (iv c) (qaa e3) ?_
 obtain ⟨x66,h67,hb⟩:=bd hb
 obtain ⟨ad68,cs69,hA,ho72,hc70,hr71⟩:=hS.elo2 (i:=0) rfl (qac h67).2 [] (by decide)
 obtain rfl:=Option.some.inj hA
 refine mp (.pointer (some (ad61.add (c.toNat*1)))) (qag (a:=c) underlying52 sizeOf3 rfl rfl (qac h67).1) ?_
 obtain ⟨rfl,hr71'⟩:=hr71
 refine mixE.load hM (v:=iv x66) (fun _ hF=>qah isAgg3 rfl (hF.cell (hc70 0 _ rfl) (off1 ho72)))<|mp (.bool (decide (x59<x66))) (qau (k:=.i64) (a:=x59) (b:=x66) rfl rfl)<|mixE.nil ?_
 clear hS hM
 refine hK56 _ _<|Wc.cond (t:=(decide (x59<x66))) (rfl) (fun hq73=>?_) (fun hq73=>?_)
 replace hb:=tt hq73 hb
 refine Wc.skip (hK55 _ _ ?_)
 refine Wc.block<|rg<|lp _ (qaa e4) ?_
 obtain ⟨z74,h75,hb⟩:=bd hb
 refine lp (iv z74) (qbu (a:=g) (b:=1) rfl rfl h75)<|lp (iv z74) (qab rfl)<|ln ?_
 obtain rfl:=os hb
 exact hK50 m51' _ _ (Nat.lt_succ_self _) ⟨z74,e0,e2,e3,rfl,(qai h75),hC.sE [0],lN hl1⟩
 replace hb:=tf hq73 hb
 refine Wc.exit rfl ?_
 obtain rfl:=os hb
 obtain rfl:=(lX hl1).symm
 exact hK49 _ _ ⟨g,e0,e2,e3,e4,o,hC.sE [0],hbK1⟩
 clear hb hC hl1
 rintro E77 w76 ⟨g,e0,e2,e3,e4,o,hC,hb⟩
 subst hf48
 refine hK47 _ _ ?_
 refine Wc.seq fun _ hK78=>?_
 refine Wc.regionMix [] (frm [] ([]:List Fact) [.own 3 si (.slice h d.length f) d]) (fun _=>rfl) mixed (by decide+kernel) (by decide+kernel) fun w80 hw79=>?_
 replace hC:=hC.step (Fr.qbh hw79)
 have hM:=Fr.refl (fun k=>k∈blocks ([]:List Fact)) w80
 clear hw79
 have hS:=hC
 have hD:Fr (fun k=>k∈blocks (([]:List Fact)++[.own 3 si (.slice h d.length f) d])) w80 w80:=hM.wide
 have hUf1:Beside (([]:List Fact)++[.own 3 si (.slice h d.length f) d]) w80 (.slice h d.length f):=Beside.of (i:=0) rfl
 refine mp (.slice h d.length f) (qaa e0)<|mp (iv c) (qaa e3)<|mp (.slice h d.length f) (qaa e0)<|mp (iv g) (qaa e4)<|mp (.slice h d.length f) (qaa e0)<|mp (iv g) (qaa e4) ?_
 obtain ⟨x81,h82,hb⟩:=bd hb
 obtain ⟨ad83,cs84,hA,ho87,hc85,hr86⟩:=hS.elo2 (i:=0) rfl (qac h82).2 [] (by decide)
 subst hA
 refine mp (.pointer (some (ad83.add (g.toNat*1)))) (qag (a:=g) underlying52 sizeOf3 rfl rfl (qac h82).1) ?_
 obtain ⟨rfl,hr86'⟩:=hr86
 refine mixE.load hM (v:=iv x81) (fun _ hF=>qah isAgg3 rfl (hF.cell (hc85 0 _ rfl) (off1 ho87)))<|mp (.slice (some ad83) d.length f) (qaa e0)<|mp (iv c) (qaa e3) ?_
 obtain ⟨x88,h89,hb⟩:=bd hb
 obtain ⟨ad90,cs91,hA,ho94,hc92,hr93⟩:=hS.elo2 (i:=0) rfl (qac h89).2 [] (by decide)
 obtain rfl:=Option.some.inj hA
 refine mp (.pointer (some (ad83.add (c.toNat*1)))) (qag (a:=c) underlying52 sizeOf3 rfl rfl (qac h89).1) ?_
 obtain ⟨rfl,hr93'⟩:=hr93
 refine mixE.load hM (v:=iv x88) (fun _ hF=>qah isAgg3 rfl (hF.cell (hc92 0 _ rfl) (off1 ho94))) ?_
 obtain ⟨x95,h96,hb⟩:=bd hb
 obtain ⟨ad97,cs98,hA,ho101,hc99,hr100⟩:=hS.elo2 (i:=0) rfl (qac h96).2 [] (by decide)
 obtain rfl:=Option.some.inj hA
 refine mp (.pointer (some (ad83.add (c.toNat*1)))) (qag (a:=c) underlying52 sizeOf3 rfl rfl (qac h96).1)<|mixE.sk hD (hC.put (i:=0) rfl rfl sizeOf3 (k:=c.toNat) (a:=x81) (by have:=(qac h96).1; simp at this⊢; omega) (⟨rfl,I64.wr (qbl hr86')⟩) rfl rfl rfl) ?_
 rintro w102 ⟨hC,hF⟩
 replace hD:=hD.beside hUf1 hF
 clear hF
 refine ⟨hD,?_⟩
 obtain ⟨x103,h104,hb⟩:=bd hb
 obtain ⟨ad105,cs106,hA,hc107,hr108⟩:=hC.elo (i:=0) rfl (qac h104).2
 obtain rfl:=Option.some.inj hA
 refine mp (.pointer (some (ad83.add (g.toNat*1)))) (qag (a:=g) underlying52 sizeOf3 rfl rfl (by rw [(hC.ow (i:=0) rfl).qaf.1]; exact (qac h104).1))<|mixE.sk hD (hC.put (i:=0) rfl rfl sizeOf3 (k:=g.toNat) (a:=x88) (by have:=(qac h104).1; simp at this⊢; omega) (⟨rfl,I64.wr (qbl hr93')⟩) rfl rfl rfl) ?_
 rintro w109 ⟨hC,hF⟩
 replace hD:=hD.beside hUf1 hF
 clear hF
 refine ⟨hD,?_⟩
 refine mixE.nil ?_
 clear hS hM
 clear hD
 refine hK78 _ _<|Wc.fresh fun E110 hE=>?_
 have e0:=cg hE 0 e0
 have e2:=cg hE 2 e2
 have e3:=cg hE 3 e3
 clear hE
 refine Wc.seq fun _ hK111=>rg<|lp _ (qaa e0)<|lp _ (qaa e3) ?_
 obtain ⟨z112,h113,hb⟩:=bd hb
 refine lp (iv z112) (qak (a:=c) (b:=1) rfl rfl h113) ?_
 obtain ⟨u114,h115,hb⟩:=bd hb
 refine lp (.slice (if f=z112.toNat then (some ad83) else (some ad83).map (·.add (z112.toNat*1))) (d.length-z112.toNat) (f-z112.toNat)) (pu_slice_l (a:=z112) underlying52 sizeOf3 rfl rfl (by have h1:=cut_some h115; have h2:=(hC.ow (i:=0) rfl).qaf; omega))<|lex.cl (⟨_,_,qas (vs:=[.slice (if f=z112.toNat then (some ad83) else (some ad83).map (·.add (z112.toNat*1))) (d.length-z112.toNat) (f-z112.toNat)]) call83 rfl rfl rfl,Cx.revTail slices_Reverse_Perm_int_tail hC (i:=0) rfl (by have h1:=cut_some h115; omega)⟩) ?_
 rintro _ w116 ⟨rfl,hC,-⟩
 refine ln (hK111 _ _ ?_)
 refine Wc.seq fun _ hK117=>rg<|lp (.bool true) (qab rfl)<|ln (hK117 _ _ ?_)
 obtain rfl:=os hb
 subst hI
 refine Wc.ret (hKR _ _ ?_)
 refine ⟨_,res1 results94 (tV (.bool true) rfl),_,rfl,rfl,hC.sE [0]⟩

theorem perm_All_c1_it (n:Nat) {Sg Xg:Type} (step:List Int→Sg→Option (Sg⊕Xg)) {f:Nat} {c:Int} (y:I64 c):IterF prog 93 #[pg f] 3 [.box f 3 [iv c]] step (fun sg=>F.perm_All_c1 step n sg c):=by
 intro l I O0 w JJ JX sg r T w1 hY hJ hb hC
 unfold F.perm_All_c1 at hb
 refine qao func93 rfl (by rw [ntmps93]; exact nb rfl) fun KR hKR=>?_
 refine Wc.seq fun _ hK2=>?_
 refine Wc.seq fun _ hK3=>rg ?_
 replace hC:Cx I O0 w w1 ([.box f 3 [iv c]]++T):=hC
 refine lv (iv c) (qah isAgg3 rfl ((hC.bx (i:=0) rfl).cell (j:=0) rfl))<|lp (.bool (decide (c<0))) (qau (k:=.i64) (a:=c) (b:=0) rfl rfl)<|lp (.bool (decide (c<0))) (qaa rfl) ?_
 rcases bS (decide (c<0)) with hq4 | hq4
 replace hb:=tt hq4 hb
 refine gs rfl rfl (decide (c<0)) rfl hq4<|gs rfl rfl (decide (c<0)) rfl hq4<|lp (.bool true) (qap (q:=(decide (c<0))) rfl hq4 rfl)<|ln (hK3 _ _ ?_)
 refine Wc.cond_true (rfl) ?_
 obtain rfl:=os hb
 refine Wc.ret (hKR _ _ ?_)
 exact ⟨_,res0 results93,_,rfl,.inl ⟨_,_,rfl,hJ,hC.selT [0] (by decide)⟩⟩
 replace hb:=tf hq4 hb
 refine gv rfl rfl (decide (c<0)) rfl hq4 (iv c) (qah isAgg3 rfl ((hC.bx (i:=0) rfl).cell (j:=0) rfl))<|gp rfl rfl (decide (c<0)) rfl hq4 (.bool (decide (8<c))) (qbi (k:=.i64) (a:=c) (b:=8) rfl rfl)<|lp (.bool (decide (8<c))) (qat (q:=(decide (c<0))) rfl hq4 rfl)<|ln (hK3 _ _ ?_)
 refine Wc.cond (t:=(decide (8<c))) (rfl) (fun hq5=>?_) (fun hq5=>?_)
 replace hb:=tt hq5 hb
 obtain rfl:=os hb
 refine Wc.ret (hKR _ _ ?_)
 exact ⟨_,res0 results93,_,rfl,.inl ⟨_,_,rfl,hJ,hC.selT [0] (by decide)⟩⟩
 replace hb:=tf hq5 hb
 refine Wc.skip (hK2 _ _ ?_)
 refine Wc.seq fun _ hK6=>rg<|lv (iv c) (qah isAgg3 rfl ((hC.bx (i:=0) rfl).cell (j:=0) rfl)) ?_
 obtain ⟨u7,h8,hb⟩:=bd hb
 refine lex.op (hC.make (s:=si) (n:=c) underlying52 type3 rfl rfl rfl rfl rfl (qae h8).1 (qae h8).2 (by decide)) ?_
 rintro _ w13 ⟨A9,c10,rfl,hl11,hc12,hC,-,-⟩
 replace hC:Cx I O0 w w13 ([.own 3 si (.slice A9 (((rZ c)).length) c10) (rZ c),.box f 3 [iv c]]++T):=hC
 refine lp (.slice A9 (((rZ c)).length) c10) (qab rfl)<|ln (hK6 _ _ ?_)
 refine Wc.seq fun _ hK15=>?_
 refine Wc.seq fun _ hK16=>rg<|lp (.slice A9 (((rZ c)).length) c10) (qaa rfl)<|lp (iv (((rZ c)).length:Int)) (qan (A:=A9) (n:=((rZ c)).length) (m:=c10) underlying52 rfl)<|lp (iv 0) (qaa rfl)<|ln (hK16 _ _ ?_)
 refine Wc.fresh fun E17 hE=>?_
 have e0:E17 0=.func (.yield l) #[] #[]:=cg hE 0 rfl
 have e3:E17 3=.slice A9 (((rZ c)).length) c10:=cg hE 3 rfl
 have e15:E17 15=iv (((rZ c)).length:Int):=cg hE 15 rfl
 have e16:E17 16=iv 0:=cg hE 16 rfl
 clear hE
 obtain ⟨o18,hl0,hb⟩:=bd hb
 refine Wc.cut (fun E wv=> ∃(h:List Fact) (u:Sg) (d:Int) (g:List Int),E 0=.func (.yield l) #[] #[]∧E 3=.slice A9 (((rZ c)).length) c10∧I64 d∧JJ u h∧Cx I O0 w wv ([.own 3 si (.slice A9 (((rZ c)).length) c10) g,.box f 3 [iv c]]++h)∧(((loopN n (F.qhd step n) (u,true,g)).bind fun o42=>match o42 with | (.inl (v,p,e))=>some (.inl v) | (.inr q)=>some q):Option (Sg⊕Xg))=some r) (fun _ hK19=>?_) ?_
 refine Wc.block ?_
 refine Wc.loop (fun m E wv=> ∃(h:List Fact) (u:Sg) (d:Int) (g:List Int),E 0=.func (.yield l) #[] #[]∧E 3=.slice A9 (((rZ c)).length) c10∧E 15=iv (((rZ c)).length:Int)∧E 16=iv d∧I64 d∧JJ u h∧Cx I O0 w wv ([.own 3 si (.slice A9 (((rZ c)).length) c10) g,.box f 3 [iv c]]++h)∧loopN m (F.perm_All_c1_b0 step n c) (u,d,g)=some o18) n ⟨T,sg,0,(rZ c),e0,e3,e15,e16,(show I64 0 from by unfold I64; omega),hJ,hC.selT [0,1] (by decide),hl0⟩ ?_
 have hbK0:=hb
 clear hb hC hl0
 rintro m21 E23 w22 ⟨h,u,d,g,e0,e3,e15,e16,x,hJ,hC,hl0⟩ K20 hK20
 obtain ⟨m21',o24,rfl,hb,hl0⟩:=qam hl0
 unfold F.perm_All_c1_b0 at hb
 refine Wc.seq fun _ hK25=>rg ?_
 replace hC:Cx I O0 w w22 ([.own 3 si (.slice A9 (((rZ c)).length) c10) g,.box f 3 [iv c]]++h):=hC
 refine lp _ (qau e16 e15)<|ln (hK25 _ _ ?_)
 refine Wc.seq fun _ hK26=>?_
 refine Wc.cond (t:=(decide (d<(((rZ c)).length:Int)))) (rfl) (fun hq27=>?_) (fun hq27=>?_)
 replace hb:=tt hq27 hb
 refine Wc.skip (hK26 _ _ ?_)
 refine Wc.seq fun _ hK28=>?_
 refine Wc.block<|Wc.seq fun _ hK29=>rg<|lp _ (qaa e16)<|lp (iv d) (qab rfl)<|ln (hK29 _ _ ?_)
 refine rg<|lp _ (qaa e3)<|lp (iv d) (qaa rfl)<|lp (iv d) (qaa rfl) ?_
 obtain ⟨x30,h31,hb⟩:=bd hb
 obtain ⟨ad32,cs33,hA,hc34,hr35⟩:=hC.elo (i:=0) rfl (qac h31).2
 subst hA
 refine lp (.pointer (some (ad32.add (d.toNat*1)))) (qag (a:=d) underlying52 sizeOf3 rfl rfl (by rw [(hC.ow (i:=0) rfl).qaf.1]; exact (qac h31).1)) ?_
 replace hC:Cx I O0 w w22 ([.own 3 si (.slice (some ad32) (((rZ c)).length) c10) g,.box f 3 [iv c]]++h):=hC
 refine lex.sk (hC.put (i:=0) rfl rfl sizeOf3 (k:=d.toNat) (a:=d) (by have:=(qac h31).1; simp at this⊢; omega) (⟨rfl,I64.wr x⟩) rfl rfl rfl) ?_
 rintro w36 ⟨hC,hF⟩
 refine ln (hK28 _ _ ?_)
 refine rg ?_
 replace hC:Cx I O0 w w36 ([.own 3 si (.slice (some ad32) (((rZ c)).length) c10) (g.set d.toNat d),.box f 3 [iv c]]++h):=hC
 obtain ⟨z37,h38,hb⟩:=bd hb
 refine lp (iv z37) (qak (a:=d) (b:=1) e16 rfl h38)<|lp (iv z37) (qaa rfl)<|ln ?_
 obtain rfl:=os hb
 exact hK20 m21' _ _ (Nat.lt_succ_self _) ⟨h,u,z37,(g.set d.toNat d),e0,e3,e15,rfl,(qai h38),hJ,hC.selT [0,1] (by decide),lN hl0⟩
 replace hb:=tf hq27 hb
 refine Wc.exit rfl ?_
 obtain rfl:=os hb
 obtain rfl:=(lX hl0).symm
 exact hK19 _ _ ⟨h,u,d,g,e0,e3,x,hJ,hC.selT [0,1] (by decide),hbK0⟩
 clear hb hC hl0
 rintro E40 w39 ⟨h,u,d,g,e0,e3,x,hJ,hC,hb⟩
 refine hK15 _ _<|Wc.seq fun _ hK41=>rg ?_
 replace hC:Cx I O0 w w39 ([.own 3 si (.slice A9 (((rZ c)).length) c10) g,.box f 3 [iv c]]++h):=hC
 refine lp (.bool true) (qab rfl)<|ln (hK41 _ _ ?_)
 obtain ⟨o42,hl1,hb⟩:=bd hb
 refine Wc.cut (fun E wv=> ∃(o:List Fact) (v:Sg) (p:Bool) (e:List Int),JJ v o∧Cx I O0 w wv ([.box f 3 [iv c]]++o)∧(some (.inl v):Option (Sg⊕Xg))=some r) (fun _ hK43=>?_) ?_
 refine Wc.block ?_
 refine Wc.loop (fun m E wv=> ∃(o:List Fact) (v:Sg) (p:Bool) (e:List Int),E 0=.func (.yield l) #[] #[]∧E 3=.slice A9 (((rZ c)).length) c10∧E 5=.bool p∧JJ v o∧Cx I O0 w wv ([.own 3 si (.slice A9 (((rZ c)).length) c10) e,.box f 3 [iv c]]++o)∧loopN m (F.qhd step n) (v,p,e)=some o42) n ⟨h,u,true,g,e0,e3,rfl,hJ,hC.selT [0,1] (by decide),hl1⟩ ?_
 have hbK1:=hb
 clear hb hC hl1
 rintro m45 E47 w46 ⟨o,v,p,e,e0,e3,e5,hJ,hC,hl1⟩ K44 hK44
 obtain ⟨m45',o48,rfl,hb,hl1⟩:=qam hl1
 unfold F.qhd at hb
 refine Wc.seq fun _ hK49=>?_
 refine Wc.seq fun _ hK50=>rg ?_
 replace hC:Cx I O0 w w46 ([.own 3 si (.slice A9 (((rZ c)).length) c10) e,.box f 3 [iv c]]++o):=hC
 refine lp _ (qaa e5)<|ln (hK50 _ _ ?_)
 refine Wc.cond (t:=p) (rfl) (fun hq51=>?_) (fun hq51=>?_)
 replace hb:=tt hq51 hb
 refine Wc.skip (hK49 _ _ ?_)
 refine Wc.seq fun _ hK52=>?_
 refine Wc.block<|Wc.seq fun _ hK53=>rg<|lp _ (qaa e0)<|lp _ (qaa e3) ?_
 obtain ⟨y54,h55,hb⟩:=bd hb
 refine lex.cl (⟨_,_,qas (vs:=[.slice A9 (((rZ c)).length) c10]) call64 rfl rfl rfl,slices_Clone_Perm_int_ok n (hC.lentLt [.slice A9 (((rZ c)).length) c10]) ((hC.ow (i:=0) rfl).lend (vs:=[.slice A9 (((rZ c)).length) c10]) (by simp)) h55⟩) ?_
 rintro _ w60 ⟨A56,m57,c58,rfl,hK⟩
 replace hC:=hC.mergeF hK rfl
 clear hK
 obtain ⟨rfl,hl61,hc62⟩:=(hC.ow (i:=0) rfl).qaf
 replace hC:Cx I O0 w w60 ([.own 3 si (.slice A56 y54.length c58) y54,.own 3 si (.slice A9 (((rZ c)).length) c10) e,.box f 3 [iv c]]++o):=hC
 replace hC:=hC.selT [0,1,2] (by decide)
 replace hC:Cx I O0 w w60 (([.own 3 si (.slice A56 y54.length c58) y54]++[.own 3 si (.slice A9 (((rZ c)).length) c10) e,.box f 3 [iv c]])++o):=hC
 obtain ⟨o63,h64,hb⟩:=bd hb
 obtain ⟨fn65,tm66,as67,bd68,hy69,hR70⟩:=hY _ _ _ _ _ _ _ _ hJ h64 hC.yarg
 refine lex.yield (op_yield (vs:=[.slice A56 y54.length c58]) rfl rfl rfl hy69) hR70 ?_
 rintro _ w71 (⟨s72,T73,he74,rfl,hJ,hC⟩ | ⟨s75,T76,he74,rfl,hX,hC⟩)
 subst he74
 replace hb:=sumL hb
 replace hC:Cx I O0 w w71 ([.own 3 si (.slice A9 (((rZ c)).length) c10) e,.box f 3 [iv c]]++T73):=hC.comm
 refine ⟨_,rfl,?_⟩
 replace hC:Cx I O0 w w71 ([.own 3 si (.slice A9 (((rZ c)).length) c10) e,.box f 3 [iv c]]++T73):=hC
 refine lp (.bool false) (qcd (q:=true) rfl)<|ln (hK53 _ _ ?_)
 refine Wc.cond_false (rfl) ?_
 refine Wc.skip (hK52 _ _ ?_)
 refine rg<|lp _ (qaa e3) ?_
 replace hC:=hC.selT [0,1] (by decide)
 replace hC:Cx I O0 w w71 ([.own 3 si (.slice A9 (((rZ c)).length) c10) e]++([.box f 3 [iv c]]++T73)):=hC
 obtain ⟨y77,h78,hb⟩:=bd hb
 refine lex.cl (⟨_,_,qas (vs:=[.slice A9 (((rZ c)).length) c10]) call94 rfl rfl rfl,perm_advance_ok n hC.lt hC.give h78⟩) ?_
 rintro _ w79 ⟨rfl,hK⟩
 replace hC:=hC.back hK
 clear hK
 replace hC:Cx I O0 w w79 ([.own 3 si (.slice A9 (((rZ c)).length) c10) y77.2,.box f 3 [iv c]]++T73):=hC
 refine lp (.bool y77.1) (qab rfl)<|ln ?_
 obtain rfl:=os hb
 exact hK44 m45' _ _ (Nat.lt_succ_self _) ⟨T73,s72,y77.1,y77.2,e0,e3,rfl,hJ,hC.selT [0,1] (by decide),lN hl1⟩
 subst he74
 replace hb:=sumR hb
 replace hC:Cx I O0 w w71 ([.own 3 si (.slice A9 (((rZ c)).length) c10) e,.box f 3 [iv c]]++T76):=hC.comm
 refine ⟨_,rfl,?_⟩
 replace hC:Cx I O0 w w71 ([.own 3 si (.slice A9 (((rZ c)).length) c10) e,.box f 3 [iv c]]++T76):=hC
 refine lp (.bool true) (qcd (q:=false) rfl)<|ln (hK53 _ _ ?_)
 refine Wc.cond_true (rfl) ?_
 obtain rfl:=os hb
 obtain rfl:=(lX hl1).symm
 replace hb:=hbK1
 obtain rfl:=os hb
 refine Wc.ret (hKR _ _ ?_)
 exact ⟨_,res0 results93,_,rfl,.inr ⟨_,_,rfl,hX,hC.selT [1] (by decide)⟩⟩
 replace hb:=tf hq51 hb
 refine Wc.exit rfl ?_
 obtain rfl:=os hb
 obtain rfl:=(lX hl1).symm
 exact hK43 _ _ ⟨o,v,p,e,hJ,hC.selT [1] (by decide),hbK1⟩
 clear hb hC hl1
 rintro E81 w80 ⟨o,v,p,e,hJ,hC,hb⟩
 replace hC:Cx I O0 w w80 ([.box f 3 [iv c]]++o):=hC
 obtain rfl:=os hb
 refine hKR _ _ ?_
 exact ⟨_,res0 results93,_,rfl,.inl ⟨_,_,rfl,hJ,hC.selT [0] (by decide)⟩⟩

theorem perm_Type_c1_ok (n:Nat) {w:World} {O0:List Nat} (hO: ∀k∈O0,k<w.heap.size) {f:Option Addr} {j g:Nat} {c:List Int} (l:Rep O0 w (.sl si) [.slice f j g] c) {h:Option Addr} {o i:Nat} {d:List Int} (p:Rep O0 w (.sl si) [.slice h o i] d) {r:Int} (hb:F.qgm n c d=some r):
    Calls prog 96 #[.slice f j g,.slice h o i] w fun e w'=> ∃v,e=.returned v∧v=iv r∧I64 r∧Cx (fun _=>False) O0 w w' []:=by
 unfold F.qgm at hb
 have hC:=Cx.start hO
 replace hC:=hC.arg rfl l
 replace hC:=hC.arg rfl p
 clear hO
 obtain ⟨rfl,q,s⟩:=l.qaf
 obtain ⟨rfl,t,u⟩:=p.qaf
 refine qao func96 rfl (by rw [ntmps96]; exact nb rfl) fun KR hKR=>?_
 refine Wc.seq fun _ hK3=>rg<|lp (iv 0) (qab rfl)<|ln (hK3 _ _ ?_)
 refine Wc.seq fun _ hK4=>rg<|lp (.slice h d.length i) (qaa rfl)<|lp (iv (d.length:Int)) (qan (A:=h) (n:=d.length) (m:=i) underlying22 rfl)<|lp (.slice f c.length g) (qaa rfl)<|lp (iv (c.length:Int)) (qan (A:=f) (n:=c.length) (m:=g) underlying22 rfl) ?_
 obtain ⟨z5,h6,hb⟩:=bd hb
 refine lp (iv z5) (qbu (a:=(d.length:Int)) (b:=(c.length:Int)) rfl rfl h6)<|lp (iv z5) (qab rfl)<|ln (hK4 _ _ ?_)
 obtain rfl:=os hb
 refine Wc.ret (hKR _ _ ?_)
 refine ⟨_,res1 results96 (tV (iv z5) rfl),_,rfl,rfl,(qai h6),hC.sE []⟩

def qgd:Go.Shelf.Ren:=⟨fun x=>match x with | 6=>95 | 14=>98 | 15=>99 | 20=>100 | 21=>101 | 22=>102 | 23=>103 | 24=>104 | 25=>105 | 26=>106 | 27=>107 | 28=>108 | 29=>109 | 46=>110 | 47=>111 | 48=>112 | 49=>113 | 50=>114 | 57=>115 | _=>0,fun x=>match x with | 0=>0 | 3=>3 | 4=>4 | 5=>5 | 9=>9 | 22=>41 | 24=>22 | 25=>128 | 39=>131 | 45=>133 | 46=>134 | 50=>112 | 53=>140 | 55=>142 | 66=>143 | 70=>147 | 76=>149 | 77=>150 | _=>0,fun _=>0⟩
theorem qgb:Go.Proofs.SlLaysF.n6 prog qgd where
  mixed:=mixed
  f6:=⟨"slices.SortFunc[[][]int,[]int]",by decide,by kernel_rfl⟩
  f14:=⟨"slices.pdqsortCmpFunc[[]int]",by decide,by kernel_rfl⟩
  f15:=by kernel_rfl
  f20:=⟨"slices.insertionSortCmpFunc[[]int]",by decide,by kernel_rfl⟩
  f21:=⟨"slices.heapSortCmpFunc[[]int]",by decide,by kernel_rfl⟩
  f22:=⟨"slices.breakPatternsCmpFunc[[]int]",by decide,by kernel_rfl⟩
  f23:=⟨"slices.choosePivotCmpFunc[[]int]",by decide,by kernel_rfl⟩
  f24:=⟨"slices.reverseRangeCmpFunc[[]int]",by decide,by kernel_rfl⟩
  f25:=⟨"slices.partialInsertionSortCmpFunc[[]int]",by decide,by kernel_rfl⟩
  f26:=⟨"slices.partitionEqualCmpFunc[[]int]",by decide,by kernel_rfl⟩
  f27:=⟨"slices.partitionCmpFunc[[]int]",by decide,by kernel_rfl⟩
  f28:=by kernel_rfl
  f29:=by kernel_rfl
  f46:=⟨"slices.siftDownCmpFunc[[]int]",by decide,by kernel_rfl⟩
  f47:=by kernel_rfl
  f48:=by kernel_rfl
  f49:=⟨"slices.medianAdjacentCmpFunc[[]int]",by decide,by kernel_rfl⟩
  f50:=⟨"slices.medianCmpFunc[[]int]",by decide,by kernel_rfl⟩
  f57:=⟨"slices.order2CmpFunc[[]int]",by decide,by kernel_rfl⟩
  t0:=underlying0
  a0:=isAgg0
  z0:=sizeOf0
  v0:=zeroValue0
  t3:=underlying3
  a3:=isAgg3
  z3:=sizeOf3
  v3:=zeroValue3
  t4:=underlying4
  a4:=isAgg4
  z4:=sizeOf4
  v4:=zeroValue4
  t5:=underlying5
  a5:=isAgg5
  z5:=sizeOf5
  v5:=zeroValue5
  t9:=underlying9
  a9:=isAgg9
  z9:=sizeOf9
  v9:=zeroValue9
  t22:=underlying41
  a22:=isAgg41
  z22:=sizeOf41
  v22:=zeroValue41
  a24:=isAgg22
  z24:=sizeOf22
  t25:=underlying128
  a25:=isAgg128
  z25:=sizeOf128
  v25:=zeroValue128
  t39:=underlying131
  a39:=isAgg131
  z39:=sizeOf131
  v39:=zeroValue131
  t45:=underlying133
  a45:=isAgg133
  z45:=sizeOf133
  v45:=zeroValue133
  t46:=underlying134
  a46:=isAgg134
  z46:=sizeOf134
  v46:=zeroValue134
  t50:=underlying112
  a50:=isAgg112
  z50:=sizeOf112
  v50:=zeroValue112
  t53:=underlying140
  a53:=isAgg140
  z53:=sizeOf140
  v53:=zeroValue140
  t55:=underlying142
  a55:=isAgg142
  z55:=sizeOf142
  v55:=zeroValue142
  t66:=underlying143
  a66:=isAgg143
  z66:=sizeOf143
  v66:=zeroValue143
  t70:=underlying147
  a70:=isAgg147
  z70:=sizeOf147
  v70:=zeroValue147
  t76:=underlying149
  a76:=isAgg149
  z76:=sizeOf149
  v76:=zeroValue149
  t77:=underlying150
  a77:=isAgg150
  z77:=sizeOf150
  v77:=zeroValue150
theorem qgh (n:Nat) {w:World} {O0:List Nat} (hO: ∀k∈O0,k<w.heap.size) {A0:Option Addr} {m0 c0:Nat} {a:List (List Int)} (hio:Tk O0 w [.own 22 (.sl si) (.slice A0 m0 c0) a]) {r:List (List Int)} (hb:F.qbw n a=some r):
    Calls prog 95 #[.slice A0 m0 c0,.func (.func 96) #[] #[]] w fun e w'=> ∃v,e=.returned v∧v=.tuple #[]∧Cx (fun k=>k∈blocks [.own 22 (.sl si) (.slice A0 m0 c0) a]) O0 w w' [.own 22 (.sl si) (.slice A0 m0 c0) r]:=by
 have hC:=Cx.startTk hO hio
 unfold F.qbw at hb
 split at hb
 rename_i hh
 obtain rfl:=os hb
 obtain ⟨ha,hs,hl⟩:=hh
 refine (Cx.sort1 qgb hC rfl (i:=0) rfl (g:=96) (cb:=#[]) call96 (fun x y:(List Int)=>(F.qgm n x y).getD 0) hs hl ?_).mono ?_
 intro W x y u v hx hy hf h1 h2
 obtain ⟨q,hq⟩:=Option.isSome_iff_exists.1 (List.all_eq_true.1 (List.all_eq_true.1 ha x hx) y hy)
 obtain ⟨A1,c1,h1e,h1r⟩:=h1
 obtain ⟨A2,c2,h2e,h2r⟩:=h2
 obtain rfl:=(List.cons.inj h1e).1
 obtain rfl:=(List.cons.inj h2e).1
 rw [Array.append_empty]
 refine (perm_Type_c1_ok n (fun k hk=>Nat.lt_of_lt_of_le (hC.lt k hk) hf.size) ⟨A1,c1,rfl,h1r⟩ ⟨A2,c2,rfl,h2r⟩ hq).mono ?_
 rintro e W' ⟨v,rfl,rfl,hi,hK⟩
 exact ⟨by rw [hq]; rfl,hK.fr⟩
 rintro e w' ⟨v,rfl,rfl,hK,-⟩
 exact ⟨_,rfl,rfl,hK⟩
 cases hb

theorem perm_Type_ok (n:Nat) {w:World} {O0:List Nat} (hO: ∀k∈O0,k<w.heap.size) {j:Option Addr} {q l:Nat} {o:List Int} (u:Rep O0 w (.sl si) [.slice j q l] o) {r:(List Int)} (hb:F.perm_Type n o=some r):
    Calls prog 91 #[.slice j q l] w fun e w'=> ∃v,e=.returned v∧∃(A0:Option Addr) (m0 c0:Nat),v=.slice A0 m0 c0∧Cx (fun _=>False) O0 w w' [.own 3 si (.slice A0 m0 c0) r]:=by
 unfold F.perm_Type at hb
 have hC:=Cx.start hO
 replace hC:=hC.arg rfl u
 clear hO
 obtain ⟨rfl,z,B⟩:=u.qaf
 refine qao func91 rfl (by rw [ntmps91]; exact nb rfl) fun KR hKR=>?_
 refine Wc.seq fun _ hK2=>rg<|lp (.slice none 0 0) (qab rfl)<|ln (hK2 _ _ ?_)
 refine Wc.seq fun _ hK3=>rg<|lp (.slice j o.length l) (qaa rfl) ?_
 obtain ⟨y4,h5,hb⟩:=bd hb
 refine lex.cl (⟨_,_,qas (vs:=[.slice j o.length l]) call39 rfl rfl rfl,perm_Cycles_ok n hC.lt (hC.rd (i:=0) rfl) h5⟩) ?_
 rintro _ w10 ⟨A6,m7,c8,rfl,hK⟩
 replace hC:=hC.merge hK
 clear hK
 obtain ⟨rfl,hl11,hc12⟩:=(hC.ow (i:=0) rfl).qaf
 refine lp (.slice A6 y4.length c8) (qab rfl)<|ln (hK3 _ _ ?_)
 refine Wc.seq fun _ hK13=>rg<|lp (.slice A6 y4.length c8) (qaa rfl) ?_
 replace hC:Cx (fun _=>False) O0 w w10 ([.own 22 (.sl si) (.slice A6 y4.length c8) y4]++[.ro (.sl si) [.slice j o.length l] o]):=hC.sE [0,1]
 obtain ⟨y14,h15,hb⟩:=bd hb
 refine lex.cl (⟨_,_,qas (vs:=[.slice A6 y4.length c8,.func (.func 96) #[] #[]]) call95 rfl rfl rfl,qgh n hC.lt hC.give h15⟩) ?_
 rintro _ w16 ⟨rfl,hK⟩
 replace hC:=hC.back hK
 clear hK
 refine ln (hK13 _ _ ?_)
 refine Wc.seq fun _ hK17=>rg<|lp (.slice none 0 0) (qab rfl)<|ln (hK17 _ _ ?_)
 refine Wc.seq fun _ hK18=>?_
 refine Wc.seq fun _ hK19=>rg<|lp (.slice A6 y4.length c8) (qaa rfl)<|lp (iv (y4.length:Int)) (qan (A:=A6) (n:=y4.length) (m:=c8) underlying41 rfl)<|lp (iv 0) (qaa rfl)<|ln (hK19 _ _ ?_)
 refine Wc.fresh fun E20 hE=>?_
 have e2:E20 2=.slice none 0 0:=cg hE 2 rfl
 have e4:E20 4=.slice none 0 0:=cg hE 4 rfl
 have e11:E20 11=.slice A6 y4.length c8:=cg hE 11 rfl
 have e12:E20 12=iv (y4.length:Int):=cg hE 12 rfl
 have e13:E20 13=iv 0:=cg hE 13 rfl
 clear hE
 replace hC:=hC.nil 3 si
 obtain ⟨o22,hl0,f22,hf22,hb⟩:=bn hb
 refine Wc.cut (fun E wv=> ∃(d:List Int) (c:Int) (f:Option Addr) (h g:Nat),E 2=.slice none 0 0∧E 4=.slice f h g∧I64 c∧Cx (fun _=>False) O0 w wv [.own 3 si (.slice f h g) d]∧f22 (d,c)=some r) (fun _ hK23=>?_) ?_
 refine Wc.block ?_
 refine Wc.loop (fun m E wv=> ∃(d:List Int) (c:Int) (f:Option Addr) (h g:Nat),E 2=.slice none 0 0∧E 4=.slice f h g∧E 11=.slice A6 y4.length c8∧E 12=iv (y4.length:Int)∧E 13=iv c∧I64 c∧Cx (fun _=>False) O0 w wv [.own 3 si (.slice f h g) d,.own 22 (.sl si) (.slice A6 y4.length c8) y14]∧loopN m (F.perm_Type_b0 n y4 y14) (d,c)=some o22) n ⟨([]:List Int),0,none,0,0,e2,e4,e11,e12,e13,(show I64 0 from by unfold I64; omega),hC.sE [0,1],hl0⟩ ?_
 have hbK0:=hb
 clear hb hC hl0
 rintro m25 E27 w26 ⟨d,c,f,h,g,e2,e4,e11,e12,e13,p,hC,hl0⟩ K24 hK24
 obtain ⟨m25',o28,rfl,hb,hl0⟩:=qam hl0
 unfold F.perm_Type_b0 at hb
 obtain ⟨rfl,x,y⟩:=(hC.ow (i:=0) rfl).qaf
 refine Wc.seq fun _ hK29=>rg<|lp _ (qau e13 e12)<|ln (hK29 _ _ ?_)
 refine Wc.seq fun _ hK30=>?_
 refine Wc.cond (t:=(decide (c<(y4.length:Int)))) (rfl) (fun hq31=>?_) (fun hq31=>?_)
 replace hb:=tt hq31 hb
 refine Wc.skip (hK30 _ _ ?_)
 refine Wc.seq fun _ hK32=>?_
 refine Wc.block<|Wc.seq fun _ hK33=>rg ?_
 obtain ⟨x34,h35,hb⟩:=bd hb
 obtain ⟨ad36,cs37,hA,hc38,hr39⟩:=hC.elo (i:=1) rfl (qac h35).2
 subst hA
 refine lp (.pointer (some (ad36.add (c.toNat*1)))) (qag (a:=c) underlying41 sizeOf22 e11 e13 (by rw [(hC.ow (i:=1) rfl).qaf.1]; exact (qac h35).1)) ?_
 have hR:=hr39
 obtain ⟨A40,c41,rfl,hl42,hc43,_⟩:=hr39
 replace hC:=hC.ro hR
 clear hR
 refine lv (.slice A40 x34.length c41) (qah isAgg22 rfl (hc38 0 _ rfl))<|lp (.slice A40 x34.length c41) (qab rfl)<|ln (hK33 _ _ ?_)
 refine rg<|lp _ (qaa e4)<|lp (.slice A40 x34.length c41) (qaa rfl)<|lp (iv (x34.length:Int)) (qan (A:=A40) (n:=x34.length) (m:=c41) underlying22 rfl)<|lex.op (hC.lit (s:=si) (vs:=[iv (x34.length:Int)]) (xs:=[(x34.length:Int)]) underlying22 type3 rfl rfl (nb rfl) rfl rfl (by simp [Value.cells,Sh.n]) rfl (show Elems _ _ si ([iv (x34.length:Int)]++([])) ([(x34.length:Int)]:List Int) from Elems.cons (⟨rfl,I64.wr (I64.len hl42 hc43)⟩) (Elems.nil _ _ _))) ?_
 rintro _ w49 ⟨A45,c46,rfl,hl47,hc48,hC,-,-⟩
 obtain ⟨u51,h52,hb⟩:=bd hb
 refine lex.op (hC.app (i:=2) (s:=si) (xs:=d) (ys:=([(x34.length:Int)]:List Int)) (m:=((([(x34.length:Int)]:List Int)).length)) rfl underlying22 underlying22 type3 rfl rfl rfl (hC.srco (i:=0) rfl) rfl rfl (by have:=qbn h52; simp at this⊢ <;>omega) (by decide)) ?_
 rintro _ w57 ⟨A53,c54,rfl,hl55,hc56,hC,-,-⟩
 refine lp (.slice A53 ((d++([(x34.length:Int)]:List Int)).length) c54) (qab rfl)<|ln (hK32 _ _ ?_)
 refine rg ?_
 obtain ⟨z58,h59,hb⟩:=bd hb
 refine lp (iv z58) (qak (a:=c) (b:=1) e13 rfl h59)<|lp (iv z58) (qaa rfl)<|ln ?_
 obtain rfl:=os hb
 exact hK24 m25' _ _ (Nat.lt_succ_self _) ⟨(d++([(x34.length:Int)]:List Int)),z58,A53,(d++([(x34.length:Int)]:List Int)).length,c54,e2,rfl,e11,e12,rfl,(qai h59),hC.sE [2,3],lN hl0⟩
 replace hb:=tf hq31 hb
 refine Wc.exit rfl ?_
 obtain rfl:=os hb
 obtain rfl:=(lX hl0).symm
 exact hK23 _ _ ⟨d,c,f,d.length,g,e2,e4,p,hC.sE [0],hbK0⟩
 clear hb hC hl0
 rintro E61 w60 ⟨d,c,f,h,g,e2,e4,p,hC,hb⟩
 subst hf22
 obtain ⟨rfl,x,y⟩:=(hC.ow (i:=0) rfl).qaf
 refine hK18 _ _<|Wc.seq fun _ hK62=>rg<|lp _ (qaa e4)<|lp (.slice f d.length g) (qab rfl)<|ln (hK62 _ _ ?_)
 obtain rfl:=os hb
 refine Wc.ret (hKR _ _ ?_)
 refine ⟨_,res1 results91 (tV (.slice f d.length g) rfl),_,rfl,f,d.length,g,rfl,hC.sE [0]⟩

theorem slices_Equal_Lint_int_ok (n:Nat) {w:World} {O0:List Nat} (hO: ∀k∈O0,k<w.heap.size) {g:Option Addr} {p h:Nat} {d:List Int} (q:Rep O0 w (.sl si) [.slice g p h] d) {j:Option Addr} {s l:Nat} {f:List Int} (u:Rep O0 w (.sl si) [.slice j s l] f) {r:Bool} (hb:F.qgc n d f=some r):
    Calls prog 90 #[.slice g p h,.slice j s l] w fun e w'=> ∃v,e=.returned v∧v=.bool r∧Cx (fun _=>False) O0 w w' []:=by
 unfold F.qgc at hb
 have hC:=Cx.start hO
 replace hC:=hC.arg rfl q
 replace hC:=hC.arg rfl u
 clear hO
 obtain ⟨rfl,x,y⟩:=q.qaf
 obtain ⟨rfl,z,B⟩:=u.qaf
 refine qao func90 rfl (by rw [ntmps90]; exact nb rfl) fun KR hKR=>?_
 refine Wc.seq fun _ hK3=>rg<|lp (.bool false) (qab rfl)<|ln (hK3 _ _ ?_)
 refine Wc.seq fun _ hK4=>?_
 refine Wc.seq fun _ hK5=>rg<|lp (.slice g d.length h) (qaa rfl)<|lp (iv (d.length:Int)) (qan (A:=g) (n:=d.length) (m:=h) underlying22 rfl)<|lp (.slice j f.length l) (qaa rfl)<|lp (iv (f.length:Int)) (qan (A:=j) (n:=f.length) (m:=l) underlying22 rfl)<|lp (.bool (!(decide ((d.length:Int)=(f.length:Int))))) (qbv (k:=.i64) (a:=(d.length:Int)) (b:=(f.length:Int)) rfl rfl)<|ln (hK5 _ _ ?_)
 refine Wc.cond (t:=(!(decide ((d.length:Int)=(f.length:Int))))) (rfl) (fun hq6=>?_) (fun hq6=>?_)
 replace hb:=tt hq6 hb
 refine Wc.seq fun _ hK7=>rg<|lp (.bool false) (qab rfl)<|ln (hK7 _ _ ?_)
 obtain rfl:=os hb
 refine Wc.ret (hKR _ _ ?_)
 refine ⟨_,res1 results90 (tV (.bool false) rfl),_,rfl,rfl,hC.sE []⟩
 replace hb:=tf hq6 hb
 refine Wc.skip (hK4 _ _ ?_)
 refine Wc.seq fun _ hK8=>?_
 refine Wc.seq fun _ hK9=>rg<|lp (.slice g d.length h) (qaa rfl)<|lp (iv (d.length:Int)) (qan (A:=g) (n:=d.length) (m:=h) underlying22 rfl)<|lp (iv 0) (qaa rfl)<|ln (hK9 _ _ ?_)
 obtain ⟨o10,hl0,hb⟩:=bd hb
 refine Wc.cut (fun E wv=> ∃(c:Int),E 4=.bool false∧I64 c∧Cx (fun _=>False) O0 w wv []∧(some true:Option (Bool))=some r) (fun _ hK11=>?_) ?_
 refine Wc.block ?_
 refine Wc.loop (fun m E wv=> ∃(c:Int),E 0=.slice g d.length h∧E 1=.slice j f.length l∧E 4=.bool false∧E 12=iv (d.length:Int)∧E 13=iv c∧I64 c∧Cx (fun _=>False) O0 w wv [.ro (.sl si) [.slice g d.length h] d,.ro (.sl si) [.slice j f.length l] f]∧loopN m (F.qfj n d f) c=some o10) n ⟨0,rfl,rfl,rfl,rfl,rfl,(show I64 0 from by unfold I64; omega),hC.sE [1,0],hl0⟩ ?_
 have hbK0:=hb
 clear hb hC hl0
 rintro m13 E15 w14 ⟨c,e0,e1,e4,e12,e13,o,hC,hl0⟩ K12 hK12
 obtain ⟨m13',o16,rfl,hb,hl0⟩:=qam hl0
 unfold F.qfj at hb
 refine Wc.seq fun _ hK17=>rg<|lp _ (qau e13 e12)<|ln (hK17 _ _ ?_)
 refine Wc.seq fun _ hK18=>?_
 refine Wc.cond (t:=(decide (c<(d.length:Int)))) (rfl) (fun hq19=>?_) (fun hq19=>?_)
 replace hb:=tt hq19 hb
 refine Wc.skip (hK18 _ _ ?_)
 refine Wc.seq fun _ hK20=>?_
 refine Wc.block<|Wc.seq fun _ hK21=>rg<|lp _ (qaa e13)<|lp (iv c) (qab rfl)<|ln (hK21 _ _ ?_)
 refine Wc.seq fun _ hK22=>?_
 refine Wc.regionMix [] (frm [] ([]:List Fact) ([]:List Fact)) (fun _=>rfl) mixed (by decide+kernel) (by decide+kernel) fun w24 hw23=>?_
 replace hC:=hC.step (Fr.qbh hw23)
 have hM:=Fr.refl (fun k=>k∈blocks ([]:List Fact)) w24
 clear hw23
 have hS:=hC
 refine mp (.slice g d.length h) (qaa e0)<|mp (iv c) (qaa rfl) ?_
 obtain ⟨x25,h26,hb⟩:=bd hb
 obtain ⟨ad27,cs28,hA,ho31,hc29,hr30⟩:=hS.elr2 (i:=0) rfl (qac h26).2 []
 subst hA
 refine mp (.pointer (some (ad27.add (c.toNat*1)))) (qag (a:=c) underlying22 sizeOf3 rfl rfl (qac h26).1) ?_
 obtain ⟨rfl,hr30'⟩:=hr30
 refine mixE.load hM (v:=iv x25) (fun _ hF=>qah isAgg3 rfl (hF.cell (hc29 0 _ rfl) (off1 ho31)))<|mp (.slice j f.length l) (qaa e1)<|mp (iv c) (qaa rfl) ?_
 obtain ⟨x32,h33,hb⟩:=bd hb
 obtain ⟨ad34,cs35,hA,ho38,hc36,hr37⟩:=hS.elr2 (i:=1) rfl (qac h33).2 []
 subst hA
 refine mp (.pointer (some (ad34.add (c.toNat*1)))) (qag (a:=c) underlying22 sizeOf3 rfl rfl (qac h33).1) ?_
 obtain ⟨rfl,hr37'⟩:=hr37
 refine mixE.load hM (v:=iv x32) (fun _ hF=>qah isAgg3 rfl (hF.cell (hc36 0 _ rfl) (off1 ho38)))<|mp (.bool (!(decide (x25=x32)))) (qbv (k:=.i64) (a:=x25) (b:=x32) rfl rfl)<|mixE.nil ?_
 clear hS hM
 refine hK22 _ _<|Wc.cond (t:=(!(decide (x25=x32)))) (rfl) (fun hq39=>?_) (fun hq39=>?_)
 replace hb:=tt hq39 hb
 refine Wc.seq fun _ hK40=>rg<|lp (.bool false) (qab rfl)<|ln (hK40 _ _ ?_)
 obtain rfl:=os hb
 obtain rfl:=(lX hl0).symm
 replace hb:=hbK0
 obtain rfl:=os hb
 refine Wc.ret (hKR _ _ ?_)
 refine ⟨_,res1 results90 (tV (.bool false) rfl),_,rfl,rfl,hC.sE []⟩
 replace hb:=tf hq39 hb
 refine Wc.skip (hK20 _ _ ?_)
 refine rg ?_
 obtain ⟨z41,h42,hb⟩:=bd hb
 refine lp (iv z41) (qak (a:=c) (b:=1) e13 rfl h42)<|lp (iv z41) (qaa rfl)<|ln ?_
 obtain rfl:=os hb
 exact hK12 m13' _ _ (Nat.lt_succ_self _) ⟨z41,e0,e1,e4,e12,rfl,(qai h42),hC.sE [0,1],lN hl0⟩
 replace hb:=tf hq19 hb
 refine Wc.exit rfl ?_
 obtain rfl:=os hb
 obtain rfl:=(lX hl0).symm
 exact hK11 _ _ ⟨c,e4,o,hC.sE [],hbK0⟩
 clear hb hC hl0
 rintro E44 w43 ⟨c,e4,o,hC,hb⟩
 refine hK8 _ _<|Wc.seq fun _ hK45=>rg<|lp (.bool true) (qab rfl)<|ln (hK45 _ _ ?_)
 obtain rfl:=os hb
 refine Wc.ret (hKR _ _ ?_)
 refine ⟨_,res1 results90 (tV (.bool true) rfl),_,rfl,rfl,hC.sE []⟩
