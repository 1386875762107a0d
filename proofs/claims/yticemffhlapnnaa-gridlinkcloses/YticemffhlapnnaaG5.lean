import Derived.Test.YticemffhlapnnaaS
import Derived.Test.YticemffhlapnnaaG4
set_option linter.all false
namespace Go.Proofs.Yticemffhlapnnaa
open Ev Try
set_option maxRecDepth 100000
set_option maxHeartbeats 4000000
theorem gridlink_Braid_ok (n:Nat) {w:World} {O0:List Nat} (hO: ∀k∈O0,k<w.heap.size) {z:Int} (o5:I64 z) {d9:Option Addr} {o3 d6:Nat} {a7:List Int} (o4:Rep O0 w (.sl si) [.slice d9 o3 d6] a7) {r:(List Int)×(List Int)×Int} (hb:F.qec n z a7=some r):
    Calls prog 18 #[.agg #[iv z,.slice d9 o3 d6]] w fun e w'=> ∃v,e=.returned v∧∃(A0:Option Addr) (m0 c0:Nat) (A1:Option Addr) (m1 c1:Nat),v=.tuple #[.agg #[.slice A0 m0 c0,.slice A1 m1 c1],iv r.2.2]∧I64 r.2.2∧Cx (fun _=>False) O0 w w' [.own 3 si (.slice A0 m0 c0) r.1,.own 3 si (.slice A1 m1 c1) r.2.1]:=by
 unfold F.qec at hb
 have hC:=Cx.start hO
 replace hC:=hC.arg rfl o4
 clear hO
 obtain ⟨rfl,q2,q3⟩:=o4.qad
 refine qaq func18 rfl (by rw [ntmps18]; exact nb rfl) fun KR hKR=>?_
 refine Wc.seq fun _ hK2=>rg<|lex.op (hC.box (cs:=[iv z,.slice d9 a7.length d6]) rfl rfl) ?_
 rintro _ w4 ⟨g3,rfl,hC,hF,-⟩
 refine lex.op (hC.alloc (cs:=[.slice none 0 0,.slice none 0 0]) zeroValue24 rfl) ?_
 rintro _ w7 ⟨g6,rfl,hC,hF,-⟩
 refine lp (iv 0) (qab rfl)<|ln (hK2 _ _ ?_)
 refine Wc.seq fun _ hK9=>?_
 refine Wc.seq fun _ hK10=>rg<|lv (.agg #[iv z,.slice d9 a7.length d6]) (qbs (hC.bx (i:=1) rfl) isAgg40 sizeOf40 rfl) ?_
 obtain ⟨y11,h12,hb⟩:=bd hb
 refine lex.cl (⟨_,_,qas (vs:=[.agg #[iv z,.slice d9 a7.length d6]]) call22 rfl rfl rfl,braid_Valid_ok n hC.lt o5 (hC.rd (i:=2) rfl) h12⟩) ?_
 rintro _ w13 ⟨rfl,hK⟩
 replace hC:=hC.merge hK
 clear hK
 refine lp (.bool (!y11)) (pu_not (q:=y11) rfl)<|ln (hK10 _ _ ?_)
 refine Wc.cond (t:=(!y11)) (rfl) (fun hq14=>?_) (fun hq14=>?_)
 replace hb:=tt hq14 hb
 refine Wc.seq fun _ hK15=>rg<|lp (.agg #[.slice none 0 0,.slice none 0 0]) (qbr (places:=[(0,1),(1,1)]) (pv:=[]) type24 underlying24 rfl (qar type22 (qar type22 qco rfl rfl) rfl rfl) rfl (by simp [Instr.fill,Value.cells]))<|lex.sk (hC.seta (i:=0) (ds:=[.slice none 0 0,.slice none 0 0]) rfl type24 rfl rfl rfl rfl rfl) ?_
 rintro w16 ⟨hC,hF⟩
 refine lp (iv 1) (qab rfl)<|ln (hK15 _ _ ?_)
 replace hC:=hC.nil 3 si
 replace hC:=hC.nil 3 si
 obtain rfl:=os hb
 refine Wc.ret (hKR _ _ ?_)
 refine ⟨_,res2 results18 ⟨_,rfl,qch (hC.bx (i:=2) rfl) isAgg24 sizeOf24⟩ (tV (iv 1) rfl),_,rfl,none,0,0,none,0,0,rfl,(show I64 1 from by unfold I64; omega),hC.sE [1,0]⟩
 replace hb:=tf hq14 hb
 refine Wc.skip (hK9 _ _ ?_)
 refine Wc.seq fun _ hK19=>?_
 refine Wc.regionMix [] (frm [] ([]:List Fact) ([]:List Fact)) (fun _=>rfl) mixed (by decide+kernel) (by decide+kernel) fun w21 hw20=>?_
 replace hC:=hC.step (Fr.qbb hw20)
 have hM:=Fr.refl (fun k=>k∈blocks ([]:List Fact)) w21
 clear hw20
 have hS:=hC
 refine mp (.pointer (some ((⟨g3,0,none⟩:Addr).add 0))) (qag (sz:=1) underlying40 rfl sizeOf3 (by decide) rfl rfl)<|mixE.load hM (v:=iv z) (fun _ hF=>qam (hS.bx2 (i:=1) rfl [] (by decide) hF) isAgg3 rfl rfl)<|mp (.pointer (some ((⟨g3,0,none⟩:Addr).add 1))) (qag (sz:=1) underlying40 rfl sizeOf22 (by decide) rfl rfl)<|mixE.load hM (v:=.slice d9 a7.length d6) (fun _ hF=>qam (hS.bx2 (i:=1) rfl [] (by decide) hF) isAgg22 rfl rfl)<|mp (iv (a7.length:Int)) (qao (A:=d9) (n:=a7.length) (m:=d6) underlying22 rfl)<|mp (iv z) (qab rfl)<|mp (iv (a7.length:Int)) (qab rfl)<|mixE.nil ?_
 clear hS hM
 refine hK19 _ _<|Wc.fresh fun E22 hE=>?_
 have e1:E22 1=pg g3:=cg hE 1 rfl
 have e2:E22 2=pg g6:=cg hE 2 rfl
 have e3:E22 3=iv 0:=cg hE 3 rfl
 have e4:E22 4=iv z:=cg hE 4 rfl
 have e5:E22 5=iv (a7.length:Int):=cg hE 5 rfl
 clear hE
 refine Wc.seq fun _ hK23=>rg<|lp _ (qaa e4) ?_
 obtain ⟨z24,h25,hb⟩:=bd hb
 refine lp (iv z24) (qbx (a:=2) (b:=z) rfl rfl h25)<|lp _ (qaa e5) ?_
 obtain ⟨z26,h27,hb⟩:=bd hb
 refine lp (iv z26) (qal (a:=z24) (b:=(a7.length:Int)) rfl rfl h27)<|lp (iv z26) (qab rfl)<|ln (hK23 _ _ ?_)
 refine Wc.seq fun _ hK28=>?_
 refine Wc.seq fun _ hK29=>rg<|lp (iv z26) (qaa rfl)<|lp (.bool (decide (40<z26))) (qed (k:=.i64) (a:=z26) (b:=40) rfl rfl)<|ln (hK29 _ _ ?_)
 refine Wc.cond (t:=(decide (40<z26))) (rfl) (fun hq30=>?_) (fun hq30=>?_)
 replace hb:=tt hq30 hb
 refine Wc.seq fun _ hK31=>rg<|lp (.agg #[.slice none 0 0,.slice none 0 0]) (qbr (places:=[(0,1),(1,1)]) (pv:=[]) type24 underlying24 rfl (qar type22 (qar type22 qco rfl rfl) rfl rfl) rfl (by simp [Instr.fill,Value.cells]))<|lex.sk (hC.seta (i:=0) (ds:=[.slice none 0 0,.slice none 0 0]) rfl type24 rfl rfl rfl e2 rfl) ?_
 rintro w32 ⟨hC,hF⟩
 refine lp (iv 5) (qab rfl)<|ln (hK31 _ _ ?_)
 replace hC:=hC.nil 3 si
 replace hC:=hC.nil 3 si
 obtain rfl:=os hb
 refine Wc.ret (hKR _ _ ?_)
 refine ⟨_,res2 results18 ⟨_,e2,qch (hC.bx (i:=2) rfl) isAgg24 sizeOf24⟩ (tV (iv 5) rfl),_,rfl,none,0,0,none,0,0,rfl,(show I64 5 from by unfold I64; omega),hC.sE [1,0]⟩
 replace hb:=tf hq30 hb
 refine Wc.skip (hK28 _ _ ?_)
 refine Wc.seq fun _ hK35=>rg<|lp (.slice none 0 0) (qab rfl)<|ln (hK35 _ _ ?_)
 refine Wc.seq fun _ hK36=>rg<|lp (.slice none 0 0) (qab rfl)<|lp (.slice none 0 0) (qab rfl)<|ln (hK36 _ _ ?_)
 refine Wc.fresh fun E37 hE=>?_
 have e1:=cg hE 1 e1
 have e2:=cg hE 2 e2
 have e3:=cg hE 3 e3
 have e4:=cg hE 4 e4
 have e6:E37 6=iv z26:=cg hE 6 rfl
 have e7:E37 7=.slice none 0 0:=cg hE 7 rfl
 have e8:E37 8=.slice none 0 0:=cg hE 8 rfl
 have e9:E37 9=.slice none 0 0:=cg hE 9 rfl
 clear hE
 refine Wc.seq fun _ hK38=>?_
 refine Wc.seq fun _ hK39=>rg<|lp _ (qaa e4)<|lp (iv 0) (qaa rfl)<|ln (hK39 _ _ ?_)
 replace hC:=hC.nil 67 (.pr si si)
 replace hC:=hC.nil 3 si
 replace hC:=hC.nil 3 si
 obtain ⟨o43,hl0,f43,hf43,hb⟩:=bn hb
 refine Wc.cut (fun E wv=> ∃(g9:List (Int×Int)) (h0:List Int) (d4:List Int) (a3:Int) (h5:Option Addr) (i8 h6:Nat) (h7:Option Addr) (i9 h8:Nat) (f0:Option Addr) (j0 e0:Nat),E 1=pg g3∧E 2=pg g6∧E 3=iv 0∧E 4=iv z∧E 6=iv z26∧E 7=.slice h5 i8 h6∧E 8=.slice h7 i9 h8∧E 9=.slice f0 j0 e0∧I64 a3∧Cx (fun _=>False) O0 w wv [.box g3 40 [iv z,.slice d9 a7.length d6],.ro (.sl si) [.slice d9 a7.length d6] a7,.box g6 24 [.slice none 0 0,.slice none 0 0],.own 67 (.pr si si) (.slice h5 i8 h6) g9,.own 3 si (.slice h7 i9 h8) h0,.own 3 si (.slice f0 j0 e0) d4]∧f43 (g9,h0,d4,a3)=some r) (fun _ hK44=>?_) ?_
 refine Wc.block ?_
 refine Wc.loop (fun m E wv=> ∃(g9:List (Int×Int)) (h0:List Int) (d4:List Int) (a3:Int) (h5:Option Addr) (i8 h6:Nat) (h7:Option Addr) (i9 h8:Nat) (f0:Option Addr) (j0 e0:Nat),E 1=pg g3∧E 2=pg g6∧E 3=iv 0∧E 4=iv z∧E 6=iv z26∧E 7=.slice h5 i8 h6∧E 8=.slice h7 i9 h8∧E 9=.slice f0 j0 e0∧E 40=iv z∧E 41=iv a3∧I64 a3∧Cx (fun _=>False) O0 w wv [.box g3 40 [iv z,.slice d9 a7.length d6],.ro (.sl si) [.slice d9 a7.length d6] a7,.box g6 24 [.slice none 0 0,.slice none 0 0],.own 67 (.pr si si) (.slice h5 i8 h6) g9,.own 3 si (.slice h7 i9 h8) h0,.own 3 si (.slice f0 j0 e0) d4]∧loopN m (F.qdj n z) (g9,h0,d4,a3)=some o43) n ⟨([]:List (Int×Int)),([]:List Int),([]:List Int),0,none,0,0,none,0,0,none,0,0,e1,e2,e3,e4,e6,e7,e8,e9,rfl,rfl,(show I64 0 from by unfold I64; omega),hC.sE [4,5,3,2,1,0],hl0⟩ ?_
 have hbK0:=hb
 clear hb hC hl0
 rintro m46 E48 w47 ⟨g9,h0,d4,a3,h5,i8,h6,h7,i9,h8,f0,j0,e0,e1,e2,e3,e4,e6,e7,e8,e9,e40,e41,i7,hC,hl0⟩ K45 hK45
 obtain ⟨m46',o49,rfl,hb,hl0⟩:=qan hl0
 unfold F.qdj at hb
 obtain ⟨rfl,o6,o7⟩:=(hC.ow (i:=3) rfl).qad
 obtain ⟨rfl,o8,o9⟩:=(hC.ow (i:=4) rfl).qad
 obtain ⟨rfl,p0,p1⟩:=(hC.ow (i:=5) rfl).qad
 refine Wc.seq fun _ hK50=>rg<|lp _ (qap e41 e40)<|ln (hK50 _ _ ?_)
 refine Wc.seq fun _ hK51=>?_
 refine Wc.cond (t:=(decide (a3<z))) (rfl) (fun hq52=>?_) (fun hq52=>?_)
 replace hb:=tt hq52 hb
 refine Wc.skip (hK51 _ _ ?_)
 refine Wc.seq fun _ hK53=>?_
 refine Wc.block<|Wc.seq fun _ hK54=>rg<|lp _ (qaa e41)<|lp (iv a3) (qab rfl)<|ln (hK54 _ _ ?_)
 refine Wc.seq fun _ hK55=>rg<|lp _ (qaa e7)<|lp (iv a3) (qaa rfl)<|lp (.agg #[iv a3,iv 0]) (pu_builda (pv:=[(0,iv a3),(1,iv 0)]) (sz:=1) type67 underlying67 rfl type3 rfl rfl (by simp [Instr.fill,Value.cells]))<|lex.op (hC.lit (s:=(.pr si si)) (vs:=[.agg #[iv a3,iv 0]]) (xs:=[(a3,0)]) underlying33 type67 rfl rfl (nb rfl) rfl rfl (by simp [Value.cells,Sh.n]) rfl (show Elems _ _ (.pr si si) ([iv a3,iv 0]++([])) ([(a3,0)]:List (Int×Int)) from Elems.cons (⟨[iv a3],[iv 0],rfl,⟨rfl,I64.wr i7⟩,⟨rfl,I64.wr (show I64 0 from by unfold I64; omega)⟩⟩) (Elems.nil _ _ _))) ?_
 rintro _ w60 ⟨A56,c57,rfl,hl58,hc59,hC,-,-⟩
 obtain ⟨u62,h63,hb⟩:=bd hb
 refine lex.op (hC.app (i:=4) (s:=(.pr si si)) (xs:=g9) (ys:=([(a3,0)]:List (Int×Int))) (m:=((([(a3,0)]:List (Int×Int))).length)) rfl underlying33 underlying33 type67 rfl rfl rfl (hC.srco (i:=0) rfl) rfl rfl (by have:=qaw h63; simp at this⊢ <;>omega) (by decide)) ?_
 rintro _ w68 ⟨A64,c65,rfl,hl66,hc67,hC,-,-⟩
 refine lp (.slice A64 ((g9++([(a3,0)]:List (Int×Int))).length) c65) (qab rfl)<|ln (hK55 _ _ ?_)
 refine Wc.seq fun _ hK69=>rg<|lp _ (qaa e8)<|lp (iv a3) (qaa rfl)<|lex.op (hC.lit (s:=si) (vs:=[iv a3]) (xs:=[a3]) underlying22 type3 rfl rfl (nb rfl) rfl rfl (by simp [Value.cells,Sh.n]) rfl (show Elems _ _ si ([iv a3]++([])) ([a3]:List Int) from Elems.cons (⟨rfl,I64.wr i7⟩) (Elems.nil _ _ _))) ?_
 rintro _ w74 ⟨A70,c71,rfl,hl72,hc73,hC,-,-⟩
 obtain ⟨u76,h77,hb⟩:=bd hb
 refine lex.op (hC.app (i:=6) (s:=si) (xs:=h0) (ys:=([a3]:List Int)) (m:=((([a3]:List Int)).length)) rfl underlying22 underlying22 type3 rfl rfl rfl (hC.srco (i:=0) rfl) rfl rfl (by have:=qaw h77; simp at this⊢ <;>omega) (by decide)) ?_
 rintro _ w82 ⟨A78,c79,rfl,hl80,hc81,hC,-,-⟩
 refine lp (.slice A78 ((h0++([a3]:List Int)).length) c79) (qab rfl)<|ln (hK69 _ _ ?_)
 refine Wc.fresh fun E83 hE=>?_
 have e1:=cg hE 1 e1
 have e2:=cg hE 2 e2
 have e3:=cg hE 3 e3
 have e4:=cg hE 4 e4
 have e6:=cg hE 6 e6
 have e7:E83 7=.slice A64 ((g9++([(a3,0)]:List (Int×Int))).length) c65:=cg hE 7 rfl
 have e8:E83 8=.slice A78 ((h0++([a3]:List Int)).length) c79:=cg hE 8 rfl
 have e9:=cg hE 9 e9
 have e10:E83 10=iv a3:=cg hE 10 rfl
 have e40:=cg hE 40 e40
 have e41:=cg hE 41 e41
 have e42:E83 42=.bool (decide (a3<z)):=cg hE 42 rfl
 clear hE
 refine rg<|lp _ (qaa e9)<|lp _ (qaa e10)<|lex.op (hC.lit (s:=si) (vs:=[iv a3]) (xs:=[a3]) underlying22 type3 rfl rfl (nb rfl) rfl rfl (by simp [Value.cells,Sh.n]) rfl (show Elems _ _ si ([iv a3]++([])) ([a3]:List Int) from Elems.cons (⟨rfl,I64.wr i7⟩) (Elems.nil _ _ _))) ?_
 rintro _ w88 ⟨A84,c85,rfl,hl86,hc87,hC,-,-⟩
 obtain ⟨u90,h91,hb⟩:=bd hb
 refine lex.op (hC.app (i:=8) (s:=si) (xs:=d4) (ys:=([a3]:List Int)) (m:=((([a3]:List Int)).length)) rfl underlying22 underlying22 type3 rfl rfl rfl (hC.srco (i:=0) rfl) rfl rfl (by have:=qaw h91; simp at this⊢ <;>omega) (by decide)) ?_
 rintro _ w96 ⟨A92,c93,rfl,hl94,hc95,hC,-,-⟩
 refine lp (.slice A92 ((d4++([a3]:List Int)).length) c93) (qab rfl)<|ln (hK53 _ _ ?_)
 refine rg ?_
 obtain ⟨z97,h98,hb⟩:=bd hb
 refine lp (iv z97) (qal (a:=a3) (b:=1) e41 rfl h98)<|lp (iv z97) (qaa rfl)<|ln ?_
 obtain rfl:=os hb
 exact hK45 m46' _ _ (Nat.lt_succ_self _) ⟨(g9++([(a3,0)]:List (Int×Int))),(h0++([a3]:List Int)),(d4++([a3]:List Int)),z97,A64,(g9++([(a3,0)]:List (Int×Int))).length,c65,A78,(h0++([a3]:List Int)).length,c79,A92,(d4++([a3]:List Int)).length,c93,e1,e2,e3,e4,e6,e7,e8,rfl,e40,rfl,(qai h98),hC.sE [3,4,5,6,7,8],lN hl0⟩
 replace hb:=tf hq52 hb
 refine Wc.exit rfl ?_
 obtain rfl:=os hb
 obtain rfl:=(lX hl0).symm
 exact hK44 _ _ ⟨g9,h0,d4,a3,h5,g9.length,h6,h7,h0.length,h8,f0,d4.length,e0,e1,e2,e3,e4,e6,e7,e8,e9,i7,hC.sE [0,1,2,3,4,5],hbK0⟩
 clear hb hC hl0
 rintro E100 w99 ⟨g9,h0,d4,a3,h5,i8,h6,h7,i9,h8,f0,j0,e0,e1,e2,e3,e4,e6,e7,e8,e9,i7,hC,hb⟩
 subst hf43
 obtain ⟨rfl,o6,o7⟩:=(hC.ow (i:=3) rfl).qad
 obtain ⟨rfl,o8,o9⟩:=(hC.ow (i:=4) rfl).qad
 obtain ⟨rfl,p0,p1⟩:=(hC.ow (i:=5) rfl).qad
 refine hK38 _ _ ?_
 refine Wc.seq fun _ hK101=>?_
 refine Wc.seq fun _ hK102=>rg<|lp (.pointer (some ((⟨g3,0,none⟩:Addr).add 1))) (qag (sz:=1) underlying40 rfl sizeOf22 (by decide) rfl e1)<|lv (.slice d9 a7.length d6) (qam (hC.bx (i:=0) rfl) isAgg22 rfl rfl)<|lp (iv (a7.length:Int)) (qao (A:=d9) (n:=a7.length) (m:=d6) underlying22 rfl)<|lp (iv 0) (qaa rfl)<|ln (hK102 _ _ ?_)
 obtain ⟨o103,hl1,f103,hf103,hb⟩:=bn hb
 refine Wc.cut (fun E wv=> ∃(a2:List (Int×Int)) (N:List Int) (d5:Int) (d7:List Int) (a8:Option Addr) (j1 a4:Nat) (a5:Option Addr) (j2 a6:Nat),E 2=pg g6∧E 3=iv 0∧E 4=iv z∧E 6=iv z26∧E 7=.slice a8 j1 a4∧E 8=.slice a5 j2 a6∧E 9=.slice f0 d4.length e0∧I64 d5∧Cx (fun _=>False) O0 w wv [.box g6 24 [.slice none 0 0,.slice none 0 0],.own 67 (.pr si si) (.slice a8 j1 a4) a2,.own 3 si (.slice a5 j2 a6) N,.own 3 si (.slice f0 d4.length e0) d7]∧f103 (a2,N,d5,d7)=some r) (fun _ hK104=>?_) ?_
 refine Wc.block ?_
 refine Wc.loop (fun m E wv=> ∃(a2:List (Int×Int)) (N:List Int) (d5:Int) (d7:List Int) (a8:Option Addr) (j1 a4:Nat) (a5:Option Addr) (j2 a6:Nat),E 2=pg g6∧E 3=iv 0∧E 4=iv z∧E 6=iv z26∧E 7=.slice a8 j1 a4∧E 8=.slice a5 j2 a6∧E 9=.slice f0 d4.length e0∧E 59=.slice d9 a7.length d6∧E 60=iv (a7.length:Int)∧E 61=iv d5∧I64 d5∧Cx (fun _=>False) O0 w wv [.box g6 24 [.slice none 0 0,.slice none 0 0],.own 67 (.pr si si) (.slice a8 j1 a4) a2,.own 3 si (.slice a5 j2 a6) N,.own 3 si (.slice f0 d4.length e0) d7,.ro (.sl si) [.slice d9 a7.length d6] a7]∧loopN m (F.qcd n z a7) (a2,N,d5,d7)=some o103) n ⟨g9,h0,0,d4,h5,g9.length,h6,h7,h0.length,h8,e2,e3,e4,e6,e7,e8,e9,rfl,rfl,rfl,(show I64 0 from by unfold I64; omega),hC.sE [2,3,4,5,1],hl1⟩ ?_
 have hbK1:=hb
 clear hb hC hl1
 rintro m106 E108 w107 ⟨a2,N,d5,d7,a8,j1,a4,a5,j2,a6,e2,e3,e4,e6,e7,e8,e9,e59,e60,e61,o1,hC,hl1⟩ K105 hK105
 obtain ⟨m106',o109,rfl,hb,hl1⟩:=qan hl1
 unfold F.qcd at hb
 obtain ⟨rfl,k2,k3⟩:=(hC.ow (i:=1) rfl).qad
 obtain ⟨rfl,p2,p3⟩:=(hC.ow (i:=2) rfl).qad
 refine Wc.seq fun _ hK110=>rg<|lp _ (qap e61 e60)<|ln (hK110 _ _ ?_)
 refine Wc.seq fun _ hK111=>?_
 refine Wc.cond (t:=(decide (d5<(a7.length:Int)))) (rfl) (fun hq112=>?_) (fun hq112=>?_)
 replace hb:=tt hq112 hb
 refine Wc.skip (hK111 _ _ ?_)
 refine Wc.seq fun _ hK113=>?_
 refine Wc.block<|Wc.seq fun _ hK114=>rg<|lp _ (qaa e61) ?_
 obtain ⟨x115,h116,hb⟩:=bd hb
 obtain ⟨ad117,cs118,hA,hc119,hr120⟩:=hC.elr (i:=4) rfl (qac h116).2
 subst hA
 refine lp (.pointer (some (ad117.add (d5.toNat*1)))) (qaf (a:=d5) underlying22 sizeOf3 e59 e61 (qac h116).1) ?_
 obtain ⟨rfl,hr120'⟩:=hr120
 refine lv (iv x115) (qaj isAgg3 rfl (hc119 0 _ rfl))<|lp (iv d5) (qab rfl)<|lp (iv x115) (qab rfl)<|ln (hK114 _ _ ?_)
 refine Wc.seq fun _ hK121=>rg<|lp (iv x115) (qaa rfl)<|lp (iv x115) (qaa rfl) ?_
 obtain ⟨z122,h123,hb⟩:=bd hb
 refine lp (iv z122) (pu_negc (a:=x115) rfl h123)<|lp (iv (max x115 z122)) (pu_max (a:=x115) (b:=z122) rfl rfl)<|lp (iv (max x115 z122)) (qab rfl)<|ln (hK121 _ _ ?_)
 refine Wc.fresh fun E124 hE=>?_
 have e2:=cg hE 2 e2
 have e3:=cg hE 3 e3
 have e4:=cg hE 4 e4
 have e6:=cg hE 6 e6
 have e7:=cg hE 7 e7
 have e8:=cg hE 8 e8
 have e9:=cg hE 9 e9
 have e11:E124 11=iv d5:=cg hE 11 rfl
 have e12:E124 12=iv x115:=cg hE 12 rfl
 have e13:E124 13=iv (max x115 z122):=cg hE 13 rfl
 have e59:=cg hE 59 e59
 have e60:=cg hE 60 e60
 have e61:=cg hE 61 e61
 have e62:E124 62=.bool (decide (d5<(a7.length:Int))):=cg hE 62 rfl
 clear hE
 refine Wc.seq fun _ hK125=>rg<|lp _ (qaa e13)<|lp _ (qaa e13) ?_
 obtain ⟨z126,h127,hb⟩:=bd hb
 refine lp (iv z126) (qbk (a:=(max x115 z122)) (b:=1) rfl rfl h127)<|lp (iv (max x115 z122)) (qab rfl)<|lp (iv z126) (qab rfl)<|lp (iv 0) (qab rfl)<|ln (hK125 _ _ ?_)
 refine Wc.seqJ (fun E wv=> ∃(h4:Int) (h3:Int) (k1:Int) (o2:Bool),E 2=pg g6∧E 3=iv 0∧E 4=iv z∧E 6=iv z26∧E 7=.slice a8 a2.length a4∧E 8=.slice a5 N.length a6∧E 9=.slice f0 d4.length e0∧E 11=iv d5∧E 12=iv x115∧E 13=iv (max x115 z122)∧E 14=iv h4∧E 15=iv h3∧E 16=iv k1∧E 59=.slice (some ad117) a7.length d6∧E 60=iv (a7.length:Int)∧E 61=iv d5∧E 62=.bool (decide (d5<(a7.length:Int)))∧E 74=.bool o2∧I64 h4∧I64 h3∧I64 k1∧Cx (fun _=>False) O0 w wv [.box g6 24 [.slice none 0 0,.slice none 0 0],.own 67 (.pr si si) (.slice a8 a2.length a4) a2,.own 3 si (.slice a5 N.length a6) N,.own 3 si (.slice f0 d4.length e0) d7,.ro (.sl si) [.slice (some ad117) a7.length d6] a7]∧F.qcw n z a2 N d5 d7 h4 h3 k1 o2=some o109) (fun _ hK128=>?_) ?_
 refine Wc.seq fun _ hK129=>rg<|lp _ (qaa e12)<|lp (.bool (decide (x115<0))) (qap (k:=.i64) (a:=x115) (b:=0) rfl rfl)<|ln (hK129 _ _ ?_)
 refine Wc.cond (t:=(decide (x115<0))) (rfl) (fun hq130=>?_) (fun hq130=>?_)
 replace hb:=tt hq130 hb
 refine rg<|lp _ (qaa e13) ?_
 obtain ⟨z131,h132,hb⟩:=bd hb
 refine lp (iv z131) (qbk (a:=(max x115 z122)) (b:=1) rfl rfl h132)<|lp _ (qaa e13)<|lp (iv z131) (qab rfl)<|lp (iv (max x115 z122)) (qab rfl)<|lp (iv 1) (qab rfl)<|ln ?_
 exact hK128 _ _ ⟨z131,(max x115 z122),1,(decide (x115<0)),e2,e3,e4,e6,e7,e8,e9,e11,e12,e13,rfl,rfl,rfl,e59,e60,e61,e62,rfl,(qai h132),(I64.max (qay hr120') (qai h123)),(show I64 1 from by unfold I64; omega),hC.sE [0,1,2,3,4],hb⟩
 replace hb:=tf hq130 hb
 refine Wc.skip ?_
 exact hK128 _ _ ⟨(max x115 z122),z126,0,(decide (x115<0)),e2,e3,e4,e6,e7,e8,e9,e11,e12,e13,rfl,rfl,rfl,e59,e60,e61,e62,rfl,(I64.max (qay hr120') (qai h123)),(qai h127),(show I64 0 from by unfold I64; omega),hC.sE [0,1,2,3,4],hb⟩
 clear hb hC
 rintro E134 w133 ⟨h4,h3,k1,o2,e2,e3,e4,e6,e7,e8,e9,e11,e12,e13,e14,e15,e16,e59,e60,e61,e62,e74,q4,q5,q6,hC,hb⟩
 unfold F.qcw at hb
 refine Wc.seq fun _ hK135=>rg<|lp _ (qaa e7)<|lp _ (qaa e9)<|lp _ (qaa e14) ?_
 obtain ⟨x136,h137,hb⟩:=bd hb
 obtain ⟨ad138,cs139,hA,hc140,hr141⟩:=hC.elo (i:=3) rfl (qac h137).2
 subst hA
 refine lp (.pointer (some (ad138.add (h4.toNat*1)))) (qaf (a:=h4) underlying22 sizeOf3 rfl rfl (by rw [(hC.ow (i:=3) rfl).qad.1]; exact (qac h137).1)) ?_
 obtain ⟨rfl,hr141'⟩:=hr141
 refine lv (iv x136) (qaj isAgg3 rfl (hc140 0 _ rfl))<|lp _ (qaa e4)<|lp _ (qaa e11) ?_
 obtain ⟨z142,h143,hb⟩:=bd hb
 refine lp (iv z142) (qal (a:=z) (b:=d5) rfl rfl h143) ?_
 obtain ⟨x144,h145,hb⟩:=bd hb
 obtain ⟨ad146,cs147,hA,hc148,hr149⟩:=hC.elo (i:=1) rfl (qac h145).2
 subst hA
 refine lp (.pointer (some (ad146.add (x136.toNat*2)))) (qaf (a:=x136) underlying33 sizeOf67 rfl rfl (qac h145).1) ?_
 obtain ⟨k150,k151,rfl,hr152,hr153⟩:=hr149
 obtain ⟨rfl,hr152⟩:=hr152
 obtain ⟨rfl,hr153⟩:=hr153
 refine lp (.pointer (some ((ad146.add (x136.toNat*2)).add 1))) (qeh (A:=(ad146.add (x136.toNat*2))) (a:=1) (sz:=1) underlying67 sizeOf3 rfl rfl (by decide))<|lex.sk (hC.putAt (i:=1) (o:=1) (a:=(x144.1,z142)) rfl sizeOf3 (qac h145).2 rfl hc148 (by decide) rfl (⟨[iv x144.1],[iv z142],rfl,⟨rfl,I64.wr (qay hr152)⟩,⟨rfl,I64.wr (qai h143)⟩⟩) rfl rfl) ?_
 rintro w154 ⟨hC,hF⟩
 refine ln (hK135 _ _ ?_)
 refine Wc.fresh fun E155 hE=>?_
 have e2:=cg hE 2 e2
 have e3:=cg hE 3 e3
 have e4:=cg hE 4 e4
 have e6:=cg hE 6 e6
 have e7:=cg hE 7 e7
 have e8:=cg hE 8 e8
 have e9:=cg hE 9 e9
 have e11:=cg hE 11 e11
 have e12:=cg hE 12 e12
 have e13:=cg hE 13 e13
 have e14:=cg hE 14 e14
 have e15:=cg hE 15 e15
 have e16:=cg hE 16 e16
 have e59:=cg hE 59 e59
 have e60:=cg hE 60 e60
 have e61:=cg hE 61 e61
 have e62:=cg hE 62 e62
 have e74:=cg hE 74 e74
 clear hE
 refine Wc.seq fun _ hK156=>rg<|lp _ (qaa e8)<|lp _ (qaa e8)<|lp _ (qaa e9)<|lp _ (qaa e15) ?_
 obtain ⟨x157,h158,hb⟩:=bd hb
 obtain ⟨ad159,cs160,hA,hc161,hr162⟩:=hC.elo (i:=3) rfl (qac h158).2
 obtain rfl:=Option.some.inj hA
 refine lp (.pointer (some (ad138.add (h3.toNat*1)))) (qaf (a:=h3) underlying22 sizeOf3 rfl rfl (by rw [(hC.ow (i:=3) rfl).qad.1]; exact (qac h158).1)) ?_
 obtain ⟨rfl,hr162'⟩:=hr162
 refine lv (iv x157) (qaj isAgg3 rfl (hc161 0 _ rfl)) ?_
 obtain ⟨y163,h164,hb⟩:=bd hb
 refine lex.cl (⟨_,_,qas (vs:=[.slice a5 N.length a6,iv x157]) call47 rfl rfl rfl,slices_Index_Lint_int_ok n (hC.lentLt [.slice a5 N.length a6]) ((hC.ow (i:=2) rfl).lend (vs:=[.slice a5 N.length a6]) (by simp)) (qay hr162') h164⟩) ?_
 rintro _ w166 ⟨rfl,hr165,hK⟩
 replace hC:=hC.mergeF hK rfl
 clear hK
 refine lp _ (qaa e16) ?_
 obtain ⟨z167,h168,hb⟩:=bd hb
 refine lp (iv z167) (qal (a:=y163) (b:=k1) rfl rfl h168)<|lp _ (qaa e7)<|lp (iv (a2.length:Int)) (qao (A:=(some ad146)) (n:=a2.length) (m:=a4) underlying33 rfl)<|lex.op (hC.lit (s:=si) (vs:=[iv (a2.length:Int)]) (xs:=[(a2.length:Int)]) underlying22 type3 rfl rfl (nb rfl) rfl rfl (by simp [Value.cells,Sh.n]) rfl (show Elems _ _ si ([iv (a2.length:Int)]++([])) ([(a2.length:Int)]:List Int) from Elems.cons (⟨rfl,I64.wr (I64.len k2 k3)⟩) (Elems.nil _ _ _))) ?_
 rintro _ w173 ⟨A169,c170,rfl,hl171,hc172,hC,-,-⟩
 replace hC:Cx _ O0 w _ ([.own 3 si (.slice a5 N.length a6) N,.own 3 si (.slice A169 ((([(a2.length:Int)]:List Int)).length) c170) ([(a2.length:Int)]:List Int)]++[.box g6 24 [.slice none 0 0,.slice none 0 0],.own 67 (.pr si si) (.slice (some ad146) a2.length a4) (a2.set x136.toNat (x144.1,z142)),.own 3 si (.slice (some ad138) d4.length e0) d7,.ro (.sl si) [.slice (some ad117) a7.length d6] a7]):=hC.sE [3,0,1,2,4,5]
 obtain ⟨y175,h176,hb⟩:=bd hb
 refine lex.cl (⟨_,_,qas (vs:=[.slice a5 N.length a6,iv z167,.slice A169 ((([(a2.length:Int)]:List Int)).length) c170]) call46 rfl rfl rfl,slices_Insert_Lint_int_ok n hC.lt (qai h168) hC.give h176⟩) ?_
 rintro _ w181 ⟨A177,m178,c179,rfl,hK⟩
 replace hC:=hC.back hK
 clear hK
 obtain ⟨rfl,hl182,hc183⟩:=(hC.ow (i:=0) rfl).qad
 refine lp (.slice A177 y175.length c179) (qab rfl)<|ln (hK156 _ _ ?_)
 refine Wc.fresh fun E184 hE=>?_
 have e2:=cg hE 2 e2
 have e3:=cg hE 3 e3
 have e4:=cg hE 4 e4
 have e6:=cg hE 6 e6
 have e7:=cg hE 7 e7
 have e8:E184 8=.slice A177 y175.length c179:=cg hE 8 rfl
 have e9:=cg hE 9 e9
 have e11:=cg hE 11 e11
 have e12:=cg hE 12 e12
 have e13:=cg hE 13 e13
 have e14:=cg hE 14 e14
 have e15:=cg hE 15 e15
 have e16:=cg hE 16 e16
 have e59:=cg hE 59 e59
 have e60:=cg hE 60 e60
 have e61:=cg hE 61 e61
 have e62:=cg hE 62 e62
 have e74:=cg hE 74 e74
 clear hE
 refine Wc.seq fun _ hK185=>rg<|lp _ (qaa e9)<|lp _ (qaa e14)<|lp _ (qaa e9)<|lp _ (qaa e15)<|lp _ (qaa e9)<|lp _ (qaa e15) ?_
 obtain ⟨x186,h187,hb⟩:=bd hb
 obtain ⟨ad188,cs189,hA,hc190,hr191⟩:=hC.elo (i:=3) rfl (qac h187).2
 obtain rfl:=Option.some.inj hA
 refine lp (.pointer (some (ad138.add (h3.toNat*1)))) (qaf (a:=h3) underlying22 sizeOf3 rfl rfl (by rw [(hC.ow (i:=3) rfl).qad.1]; exact (qac h187).1)) ?_
 obtain ⟨rfl,hr191'⟩:=hr191
 refine lv (iv x186) (qaj isAgg3 rfl (hc190 0 _ rfl))<|lp _ (qaa e7)<|lp (iv (a2.length:Int)) (qao (A:=(some ad146)) (n:=a2.length) (m:=a4) underlying33 rfl) ?_
 obtain ⟨x192,h193,hb⟩:=bd hb
 obtain ⟨ad194,cs195,hA,hc196,hr197⟩:=hC.elo (i:=3) rfl (qac h193).2
 obtain rfl:=Option.some.inj hA
 refine lp (.pointer (some (ad138.add (h4.toNat*1)))) (qaf (a:=h4) underlying22 sizeOf3 rfl rfl (by rw [(hC.ow (i:=3) rfl).qad.1]; exact (qac h193).1))<|lex.sk (hC.put (i:=3) rfl rfl sizeOf3 (k:=h4.toNat) (a:=x186) (by have:=(qac h193).1; simp at this⊢; omega) (⟨rfl,I64.wr (qay hr191')⟩) rfl rfl rfl) ?_
 rintro w198 ⟨hC,hF⟩
 obtain ⟨x199,h200,hb⟩:=bd hb
 obtain ⟨ad201,cs202,hA,hc203,hr204⟩:=hC.elo (i:=3) rfl (qac h200).2
 obtain rfl:=Option.some.inj hA
 refine lp (.pointer (some (ad138.add (h3.toNat*1)))) (qaf (a:=h3) underlying22 sizeOf3 rfl rfl (by rw [(hC.ow (i:=3) rfl).qad.1]; exact (qac h200).1))<|lex.sk (hC.put (i:=3) rfl rfl sizeOf3 (k:=h3.toNat) (a:=(a2.length:Int)) (by have:=(qac h200).1; simp at this⊢; omega) (⟨rfl,I64.wr (I64.len k2 k3)⟩) rfl rfl rfl) ?_
 rintro w205 ⟨hC,hF⟩
 refine ln (hK185 _ _ ?_)
 refine Wc.fresh fun E206 hE=>?_
 have e2:=cg hE 2 e2
 have e3:=cg hE 3 e3
 have e4:=cg hE 4 e4
 have e6:=cg hE 6 e6
 have e7:=cg hE 7 e7
 have e8:=cg hE 8 e8
 have e9:=cg hE 9 e9
 have e11:=cg hE 11 e11
 have e12:=cg hE 12 e12
 have e13:=cg hE 13 e13
 have e14:=cg hE 14 e14
 have e15:=cg hE 15 e15
 have e16:=cg hE 16 e16
 have e59:=cg hE 59 e59
 have e60:=cg hE 60 e60
 have e61:=cg hE 61 e61
 have e62:=cg hE 62 e62
 have e74:=cg hE 74 e74
 clear hE
 refine rg<|lp _ (qaa e7)<|lp _ (qaa e4)<|lp _ (qaa e11) ?_
 obtain ⟨z207,h208,hb⟩:=bd hb
 refine lp (iv z207) (qal (a:=z) (b:=d5) rfl rfl h208)<|lp (.agg #[iv z207,iv 0]) (pu_builda (pv:=[(0,iv z207),(1,iv 0)]) (sz:=1) type67 underlying67 rfl type3 rfl rfl (by simp [Instr.fill,Value.cells]))<|lex.op (hC.lit (s:=(.pr si si)) (vs:=[.agg #[iv z207,iv 0]]) (xs:=[(z207,0)]) underlying33 type67 rfl rfl (nb rfl) rfl rfl (by simp [Value.cells,Sh.n]) rfl (show Elems _ _ (.pr si si) ([iv z207,iv 0]++([])) ([(z207,0)]:List (Int×Int)) from Elems.cons (⟨[iv z207],[iv 0],rfl,⟨rfl,I64.wr (qai h208)⟩,⟨rfl,I64.wr (show I64 0 from by unfold I64; omega)⟩⟩) (Elems.nil _ _ _))) ?_
 rintro _ w213 ⟨A209,c210,rfl,hl211,hc212,hC,-,-⟩
 obtain ⟨u215,h216,hb⟩:=bd hb
 refine lex.op (hC.app (i:=3) (s:=(.pr si si)) (xs:=(a2.set x136.toNat (x144.1,z142))) (ys:=([(z207,0)]:List (Int×Int))) (m:=((([(z207,0)]:List (Int×Int))).length)) rfl underlying33 underlying33 type67 rfl rfl rfl (hC.srco (i:=0) rfl) rfl rfl (by have:=qaw h216; simp at this⊢ <;>omega) (by decide)) ?_
 rintro _ w221 ⟨A217,c218,rfl,hl219,hc220,hC,-,-⟩
 refine lp (.slice A217 (((a2.set x136.toNat (x144.1,z142))++([(z207,0)]:List (Int×Int))).length) c218) (qab rfl)<|ln (hK113 _ _ ?_)
 refine rg ?_
 obtain ⟨z222,h223,hb⟩:=bd hb
 refine lp (iv z222) (qal (a:=d5) (b:=1) e61 rfl h223)<|lp (iv z222) (qaa rfl)<|ln ?_
 obtain rfl:=os hb
 exact hK105 m106' _ _ (Nat.lt_succ_self _) ⟨((a2.set x136.toNat (x144.1,z142))++([(z207,0)]:List (Int×Int))),y175,z222,((d7.set h4.toNat x186).set h3.toNat (a2.length:Int)),A217,((a2.set x136.toNat (x144.1,z142))++([(z207,0)]:List (Int×Int))).length,c218,A177,y175.length,c179,e2,e3,e4,e6,rfl,e8,e9,e59,e60,rfl,(qai h223),hC.sE [2,3,1,4,5],lN hl1⟩
 replace hb:=tf hq112 hb
 refine Wc.exit rfl ?_
 obtain rfl:=os hb
 obtain rfl:=(lX hl1).symm
 exact hK104 _ _ ⟨a2,N,d5,d7,a8,a2.length,a4,a5,N.length,a6,e2,e3,e4,e6,e7,e8,e9,o1,hC.sE [0,1,2,3],hbK1⟩
 clear hb hC hl1
 rintro E225 w224 ⟨a2,N,d5,d7,a8,j1,a4,a5,j2,a6,e2,e3,e4,e6,e7,e8,e9,o1,hC,hb⟩
 subst hf103
 obtain ⟨rfl,k2,k3⟩:=(hC.ow (i:=1) rfl).qad
 obtain ⟨rfl,p2,p3⟩:=(hC.ow (i:=2) rfl).qad
 refine hK101 _ _ ?_
 refine Wc.seq fun _ hK226=>?_
 refine Wc.seq fun _ hK227=>rg<|lp _ (qaa e9)<|lp (iv (d4.length:Int)) (qao (A:=f0) (n:=d4.length) (m:=e0) underlying22 rfl)<|lp (iv 0) (qaa rfl)<|ln (hK227 _ _ ?_)
 obtain ⟨o228,hl3,f228,hf228,hb⟩:=bn hb
 refine Wc.cut (fun E wv=> ∃(d8:Int) (b3:List (Int×Int)),E 2=pg g6∧E 3=iv 0∧E 4=iv z∧E 6=iv z26∧E 7=.slice a8 a2.length a4∧E 8=.slice a5 N.length a6∧I64 d8∧Cx (fun _=>False) O0 w wv [.box g6 24 [.slice none 0 0,.slice none 0 0],.own 67 (.pr si si) (.slice a8 a2.length a4) b3,.own 3 si (.slice a5 N.length a6) N]∧f228 (d8,b3)=some r) (fun _ hK229=>?_) ?_
 refine Wc.block ?_
 refine Wc.loop (fun m E wv=> ∃(d8:Int) (b3:List (Int×Int)),E 2=pg g6∧E 3=iv 0∧E 4=iv z∧E 6=iv z26∧E 7=.slice a8 a2.length a4∧E 8=.slice a5 N.length a6∧E 121=.slice f0 d4.length e0∧E 122=iv (d4.length:Int)∧E 123=iv d8∧I64 d8∧Cx (fun _=>False) O0 w wv [.box g6 24 [.slice none 0 0,.slice none 0 0],.own 67 (.pr si si) (.slice a8 a2.length a4) b3,.own 3 si (.slice a5 N.length a6) N,.own 3 si (.slice f0 d4.length e0) d7]∧loopN m (F.qdl n z26 d4 d7) (d8,b3)=some o228) n ⟨0,a2,e2,e3,e4,e6,e7,e8,rfl,rfl,rfl,(show I64 0 from by unfold I64; omega),hC.sE [0,1,2,3],hl3⟩ ?_
 have hbK3:=hb
 clear hb hC hl3
 rintro m231 E233 w232 ⟨d8,b3,e2,e3,e4,e6,e7,e8,e121,e122,e123,k4,hC,hl3⟩ K230 hK230
 obtain ⟨m231',o234,rfl,hb,hl3⟩:=qan hl3
 unfold F.qdl at hb
 refine Wc.seq fun _ hK235=>rg<|lp _ (qap e123 e122)<|ln (hK235 _ _ ?_)
 refine Wc.seq fun _ hK236=>?_
 refine Wc.cond (t:=(decide (d8<(d4.length:Int)))) (rfl) (fun hq237=>?_) (fun hq237=>?_)
 replace hb:=tt hq237 hb
 refine Wc.skip (hK236 _ _ ?_)
 refine Wc.seq fun _ hK238=>?_
 refine Wc.block<|Wc.seq fun _ hK239=>rg<|lp _ (qaa e123) ?_
 obtain ⟨x240,h241,hb⟩:=bd hb
 obtain ⟨ad242,cs243,hA,hc244,hr245⟩:=hC.elo (i:=3) rfl (qac h241).2
 subst hA
 refine lp (.pointer (some (ad242.add (d8.toNat*1)))) (qaf (a:=d8) underlying22 sizeOf3 e121 e123 (by rw [(hC.ow (i:=3) rfl).qad.1]; exact (qac h241).1)) ?_
 obtain ⟨rfl,hr245'⟩:=hr245
 refine lv (iv x240) (qaj isAgg3 rfl (hc244 0 _ rfl))<|lp (iv d8) (qab rfl)<|lp (iv x240) (qab rfl)<|ln (hK239 _ _ ?_)
 refine rg<|lp _ (qaa e7)<|lp (iv x240) (qaa rfl)<|lp _ (qaa e6) ?_
 obtain ⟨z246,h247,hb⟩:=bd hb
 refine lp (iv z246) (qbk (a:=z26) (b:=1) rfl rfl h247)<|lp (iv d8) (qaa rfl) ?_
 obtain ⟨z248,h249,hb⟩:=bd hb
 refine lp (iv z248) (qbk (a:=z246) (b:=d8) rfl rfl h249) ?_
 obtain ⟨x250,h251,hb⟩:=bd hb
 obtain ⟨ad252,cs253,hA,hc254,hr255⟩:=hC.elo (i:=1) rfl (qac h251).2
 subst hA
 refine lp (.pointer (some (ad252.add (x240.toNat*2)))) (qaf (a:=x240) underlying33 sizeOf67 rfl rfl (by rw [(hC.ow (i:=1) rfl).qad.1]; exact (qac h251).1)) ?_
 obtain ⟨k256,k257,rfl,hr258,hr259⟩:=hr255
 obtain ⟨rfl,hr258⟩:=hr258
 obtain ⟨rfl,hr259⟩:=hr259
 refine lp (.pointer (some ((ad252.add (x240.toNat*2)).add 1))) (qeh (A:=(ad252.add (x240.toNat*2))) (a:=1) (sz:=1) underlying67 sizeOf3 rfl rfl (by decide))<|lex.sk (hC.putAt (i:=1) (o:=1) (a:=(x250.1,z248)) rfl sizeOf3 (qac h251).2 rfl hc254 (by decide) rfl (⟨[iv x250.1],[iv z248],rfl,⟨rfl,I64.wr (qay hr258)⟩,⟨rfl,I64.wr (qai h249)⟩⟩) rfl rfl) ?_
 rintro w260 ⟨hC,hF⟩
 refine ln (hK238 _ _ ?_)
 refine rg ?_
 obtain ⟨z261,h262,hb⟩:=bd hb
 refine lp (iv z261) (qal (a:=d8) (b:=1) e123 rfl h262)<|lp (iv z261) (qaa rfl)<|ln ?_
 obtain rfl:=os hb
 exact hK230 m231' _ _ (Nat.lt_succ_self _) ⟨z261,(b3.set x240.toNat (x250.1,z248)),e2,e3,e4,e6,e7,e8,e121,e122,rfl,(qai h262),hC.sE [0,1,2,3],lN hl3⟩
 replace hb:=tf hq237 hb
 refine Wc.exit rfl ?_
 obtain rfl:=os hb
 obtain rfl:=(lX hl3).symm
 exact hK229 _ _ ⟨d8,b3,e2,e3,e4,e6,e7,e8,k4,hC.sE [0,1,2],hbK3⟩
 clear hb hC hl3
 rintro E264 w263 ⟨d8,b3,e2,e3,e4,e6,e7,e8,k4,hC,hb⟩
 subst hf228
 refine hK226 _ _ ?_
 refine Wc.seq fun _ hK265=>?_
 refine Wc.regionPlan [] (frm [] ([]:List Fact) ([]:List Fact)) (chainP [0,2] (.alt (chainP [1] (.alt (chainP [3] (chainP [4,5,6] .done)) (chainP [5] (chainP [3,4,6] .done)))) (.alt (chainP [3] (.alt (chainP [1] (chainP [4,5,6] .done)) (chainP [5] (chainP [1,4,6] .done)))) (chainP [5] (.alt (chainP [1] (chainP [3,4,6] .done)) (chainP [3] (chainP [1,4,6] .done))))))) (fun _=>rfl) mixed (by decide+kernel) (by decide+kernel) fun w267 hw266=>?_
 replace hC:=hC.step (Fr.qbb hw266)
 have hM:=Fr.refl (fun k=>k∈blocks ([]:List Fact)) w267
 clear hw266
 have hS:=hC
 have hD:Fr (fun k=>k∈blocks (([]:List Fact)++([]:List Fact))) w267 w267:=hM.wide
 refine qae ?_
 refine mp (iv z26) (qaa e6)<|mp (iv z26) (qaa e6)<|mixE.nil ?_
 refine qbd ?_ ?_
 refine qae ?_
 obtain ⟨u268,h269,hb⟩:=bd hb
 refine mixE.op hM (hC.make0 (s:=si) (n:=z26) underlying22 type3 rfl rfl rfl rfl (qah h269).1 (qah h269).2 (by decide)) ?_
 rintro _ w274 ⟨A270,c271,rfl,hl272,hc273,hC,hF,hN⟩
 have hBf275:=Beside.new hM hN
 have hUf275:=Beside.new (hM.wide (H:=([]:List Fact))) hN
 replace hM:=hM.none hF
 replace hD:=hM.wide (H:=([]:List Fact))
 refine ⟨hM,?_⟩
 clear hF hN
 refine mixE.nil ?_
 refine qbd ?_ ?_
 refine qae ?_
 obtain ⟨u276,h277,hb⟩:=bd hb
 refine mixE.op hM (hC.make0 (s:=si) (n:=z26) underlying22 type3 rfl rfl rfl rfl (qah h277).1 (qah h277).2 (by decide)) ?_
 rintro _ w282 ⟨A278,c279,rfl,hl280,hc281,hC,hF,hN⟩
 have hBf283:=Beside.new hM hN
 have hUf283:=Beside.new (hM.wide (H:=([]:List Fact))) hN
 replace hM:=hM.none hF
 replace hD:=hM.wide (H:=([]:List Fact))
 refine ⟨hM,?_⟩
 clear hF hN
 refine mixE.nil ?_
 refine qae ?_
 refine mp (.agg #[.slice A270 ((([]:List Int)).length) c271,.slice A278 ((([]:List Int)).length) c279]) (qbr (places:=[(0,1),(1,1)]) (pv:=[(0,.slice A270 ((([]:List Int)).length) c271),(1,.slice A278 ((([]:List Int)).length) c279)]) type24 underlying24 rfl (qar type22 (qar type22 qco rfl rfl) rfl rfl) rfl (by simp [Instr.fill,Value.cells]))<|mixE.op hM (hC.alloc (cs:=[.slice none 0 0,.slice none 0 0]) zeroValue24 rfl) ?_
 rintro _ w285 ⟨g284,rfl,hC,hF,hG⟩
 have hUf286:g284<w267.heap.size→g284∈blocks (([]:List Fact)++([]:List Fact)):=fun h=>absurd (Nat.lt_of_lt_of_le h (Nat.le_trans hM.size hG)) (Nat.lt_irrefl _)
 clear hG
 replace hM:=hM.none hF
 replace hD:=hM.wide (H:=([]:List Fact))
 refine ⟨hM,?_⟩
 refine mixE.sk hD (hC.seta (i:=0) (ds:=[.slice A270 ((([]:List Int)).length) c271,.slice A278 ((([]:List Int)).length) c279]) rfl type24 rfl rfl rfl rfl rfl) ?_
 rintro w287 ⟨hC,hF⟩
 replace hD:=hD.besideG hUf286 hF
 clear hF
 refine ⟨hD,?_⟩
 refine mixE.nil ?_
 clear hS hM
 clear hD
 refine hK265 _ _ ?_
 refine Wc.seq fun _ hK288=>?_
 refine Wc.seq fun _ hK289=>rg<|lp _ (qaa e8)<|lp (iv (N.length:Int)) (qao (A:=a5) (n:=N.length) (m:=a6) underlying22 rfl)<|lp (iv 0) (qaa rfl)<|ln (hK289 _ _ ?_)
 obtain ⟨o290,hl4,f290,hf290,hb⟩:=bn hb
 refine Wc.cut (fun E wv=> ∃(u:Int) (c:List Int) (d:List Int) (P:Option Addr) (f1 Q:Nat) (B:Option Addr) (f2 C:Nat),E 2=pg g6∧E 3=iv 0∧E 4=iv z∧E 6=iv z26∧E 19=pg g284∧I64 u∧Cx (fun _=>False) O0 w wv [.box g6 24 [.slice none 0 0,.slice none 0 0],.box g284 24 [.slice P f1 Q,.slice B f2 C],.own 3 si (.slice P f1 Q) c,.own 3 si (.slice B f2 C) d]∧f290 (u,c,d)=some r) (fun _ hK291=>?_) ?_
 refine Wc.block ?_
 refine Wc.loop (fun m E wv=> ∃(u:Int) (c:List Int) (d:List Int) (P:Option Addr) (f1 Q:Nat) (B:Option Addr) (f2 C:Nat),E 2=pg g6∧E 3=iv 0∧E 4=iv z∧E 6=iv z26∧E 7=.slice a8 a2.length a4∧E 19=pg g284∧E 142=.slice a5 N.length a6∧E 143=iv (N.length:Int)∧E 144=iv u∧I64 u∧Cx (fun _=>False) O0 w wv [.box g6 24 [.slice none 0 0,.slice none 0 0],.own 67 (.pr si si) (.slice a8 a2.length a4) b3,.box g284 24 [.slice P f1 Q,.slice B f2 C],.own 3 si (.slice P f1 Q) c,.own 3 si (.slice B f2 C) d,.own 3 si (.slice a5 N.length a6) N]∧loopN m (F.qbi n N b3) (u,c,d)=some o290) n ⟨0,([]:List Int),([]:List Int),A270,(([]:List Int)).length,c271,A278,(([]:List Int)).length,c279,e2,e3,e4,e6,e7,rfl,rfl,rfl,rfl,(show I64 0 from by unfold I64; omega),hC.sE [3,4,0,2,1,5],hl4⟩ ?_
 have hbK4:=hb
 clear hb hC hl4
 rintro m293 E295 w294 ⟨u,c,d,P,f1,Q,B,f2,C,e2,e3,e4,e6,e7,e19,e142,e143,e144,b4,hC,hl4⟩ K292 hK292
 obtain ⟨m293',o296,rfl,hb,hl4⟩:=qan hl4
 unfold F.qbi at hb
 obtain ⟨rfl,k5,k6⟩:=(hC.ow (i:=3) rfl).qad
 obtain ⟨rfl,k7,k8⟩:=(hC.ow (i:=4) rfl).qad
 refine Wc.seq fun _ hK297=>rg<|lp _ (qap e144 e143)<|ln (hK297 _ _ ?_)
 refine Wc.seq fun _ hK298=>?_
 refine Wc.cond (t:=(decide (u<(N.length:Int)))) (rfl) (fun hq299=>?_) (fun hq299=>?_)
 replace hb:=tt hq299 hb
 refine Wc.skip (hK298 _ _ ?_)
 refine Wc.seq fun _ hK300=>?_
 refine Wc.block<|Wc.seq fun _ hK301=>rg ?_
 obtain ⟨x302,h303,hb⟩:=bd hb
 obtain ⟨ad304,cs305,hA,hc306,hr307⟩:=hC.elo (i:=5) rfl (qac h303).2
 subst hA
 refine lp (.pointer (some (ad304.add (u.toNat*1)))) (qaf (a:=u) underlying22 sizeOf3 e142 e144 (qac h303).1) ?_
 obtain ⟨rfl,hr307'⟩:=hr307
 refine lv (iv x302) (qaj isAgg3 rfl (hc306 0 _ rfl))<|lp (iv x302) (qab rfl)<|ln (hK301 _ _ ?_)
 refine Wc.seq fun _ hK308=>?_
 refine Wc.regionMix [154] (frm [154] [.own 3 si (.slice P c.length Q) c] [.box g284 24 [.slice P c.length Q,.slice B d.length C]]) (fun _=>rfl) mixed (by decide+kernel) (by decide+kernel) fun w310 hw309=>?_
 replace hC:=hC.step (Fr.qbb hw309)
 have hM:=Fr.refl (fun k=>k∈blocks [.own 3 si (.slice P c.length Q) c]) w310
 clear hw309
 have hS:=hC
 have j3:Beside [.own 3 si (.slice P c.length Q) c] w310 (.slice P c.length Q):=Beside.of (i:=0) rfl
 have hD:Fr (fun k=>k∈blocks ([.own 3 si (.slice P c.length Q) c]++[.box g284 24 [.slice P c.length Q,.slice B d.length C]])) w310 w310:=hM.wide
 have p4:Beside ([.own 3 si (.slice P c.length Q) c]++[.box g284 24 [.slice P c.length Q,.slice B d.length C]]) w310 (.slice P c.length Q):=Beside.of (i:=0) rfl
 have hUf286:g284<w310.heap.size→g284∈blocks ([.own 3 si (.slice P c.length Q) c]++[.box g284 24 [.slice P c.length Q,.slice B d.length C]]):=fun _=>box_in (i:=1) rfl
 refine mp (.pointer (some ((⟨g284,0,none⟩:Addr).add 0))) (qag (sz:=1) underlying24 rfl sizeOf22 (by decide) rfl e19)<|mixE.load hM (v:=.slice P c.length Q) (fun _ hF=>qam (hS.bx2 (i:=2) rfl [3] (by decide) hF) isAgg22 rfl rfl)<|mp (.slice a8 a2.length a4) (qaa e7)<|mp (iv x302) (qaa rfl) ?_
 obtain ⟨x311,h312,hb⟩:=bd hb
 obtain ⟨ad313,cs314,hA,ho317,hc315,hr316⟩:=hS.elo2 (i:=1) rfl (qac h312).2 [3,2] (by decide)
 subst hA
 refine mp (.pointer (some (ad313.add (x302.toNat*2)))) (qaf (a:=x302) underlying33 sizeOf67 rfl rfl (by rw [(hC.ow (i:=1) rfl).qad.1]; exact (qac h312).1)) ?_
 obtain ⟨k318,k319,rfl,hr320,hr321⟩:=hr316
 obtain ⟨rfl,hr320⟩:=hr320
 obtain ⟨rfl,hr321⟩:=hr321
 refine mp (.pointer (some ((ad313.add (x302.toNat*2)).add 0))) (qeh (A:=(ad313.add (x302.toNat*2))) (a:=0) (sz:=1) underlying67 sizeOf3 rfl rfl (by decide))<|mixE.steady hD (v:=iv x311.1) (fun _ hF=>qaj isAgg3 rfl (hF.cell (hc315 0 _ rfl) (off2 ho317)))<|mixE.op hM (hC.lit (s:=si) (vs:=[iv x311.1]) (xs:=[x311.1]) underlying22 type3 rfl rfl (nb rfl) rfl rfl (by simp [Value.cells,Sh.n]) rfl (show Elems _ _ si ([iv x311.1]++([])) ([x311.1]:List Int) from Elems.cons (⟨rfl,I64.wr (qay hr320)⟩) (Elems.nil _ _ _))) ?_
 rintro _ w326 ⟨A322,c323,rfl,hl324,hc325,hC,hF,hN⟩
 have hBf327:=Beside.new hM hN
 have hUf327:=Beside.new (hM.wide (H:=[.box g284 24 [.slice P c.length Q,.slice B d.length C]])) hN
 replace hM:=hM.none hF
 replace hD:=hM.wide (H:=[.box g284 24 [.slice P c.length Q,.slice B d.length C]])
 refine ⟨hM,?_⟩
 clear hF hN
 obtain ⟨u328,h329,hb⟩:=bd hb
 refine mixE.op hM (hC.app (i:=4) (s:=si) (xs:=c) (ys:=([x311.1]:List Int)) (m:=((([x311.1]:List Int)).length)) rfl underlying22 underlying22 type3 rfl rfl rfl (hC.srco (i:=0) rfl) rfl rfl (by have:=qaw h329; simp at this⊢ <;>omega) (by decide)) ?_
 rintro _ w334 ⟨A330,c331,rfl,hl332,hc333,hC,hF,hN⟩
 have hB:=j3
 replace j3:=hB.app hM hN
 replace hM:=hM.beside hB hF
 clear hB
 replace hD:=hM.wide (H:=[.box g284 24 [.slice P c.length Q,.slice B d.length C]])
 refine ⟨hM,?_⟩
 clear hF hN
 refine mp (.pointer (some ((⟨g284,0,none⟩:Addr).add 0))) (qag (sz:=1) underlying24 rfl sizeOf22 (by decide) rfl e19)<|mixE.sk hD (hC.setf (i:=3) (k:=0) (v:=.slice A330 ((c++([x311.1]:List Int)).length) c331) rfl sizeOf22 rfl rfl rfl rfl) ?_
 rintro w335 ⟨hC,hF⟩
 replace hD:=hD.besideG hUf286 hF
 clear hF
 refine ⟨hD,?_⟩
 refine mixE.nil ?_
 clear hS hM
 clear hD
 refine hK308 _ _<|Wc.fresh fun E336 hE=>?_
 have e2:=cg hE 2 e2
 have e3:=cg hE 3 e3
 have e4:=cg hE 4 e4
 have e6:=cg hE 6 e6
 have e7:=cg hE 7 e7
 have e19:=cg hE 19 e19
 have e21:E336 21=iv x302:=cg hE 21 rfl
 have e142:=cg hE 142 e142
 have e143:=cg hE 143 e143
 have e144:=cg hE 144 e144
 have e145:E336 145=.bool (decide (u<(N.length:Int))):=cg hE 145 rfl
 clear hE
 refine Wc.regionMix [164] (frm [164] [.own 3 si (.slice B d.length C) d] [.box g284 24 [.slice A330 ((c++([x311.1]:List Int)).length) c331,.slice B d.length C]]) (fun _=>rfl) mixed (by decide+kernel) (by decide+kernel) fun w338 hw337=>?_
 replace hC:=hC.step (Fr.qbb hw337)
 have hM:=Fr.refl (fun k=>k∈blocks [.own 3 si (.slice B d.length C) d]) w338
 clear hw337
 have hS:=hC
 have j4:Beside [.own 3 si (.slice B d.length C) d] w338 (.slice B d.length C):=Beside.of (i:=0) rfl
 have hD:Fr (fun k=>k∈blocks ([.own 3 si (.slice B d.length C) d]++[.box g284 24 [.slice A330 ((c++([x311.1]:List Int)).length) c331,.slice B d.length C]])) w338 w338:=hM.wide
 have p5:Beside ([.own 3 si (.slice B d.length C) d]++[.box g284 24 [.slice A330 ((c++([x311.1]:List Int)).length) c331,.slice B d.length C]]) w338 (.slice B d.length C):=Beside.of (i:=0) rfl
 have hUf286:g284<w338.heap.size→g284∈blocks ([.own 3 si (.slice B d.length C) d]++[.box g284 24 [.slice A330 ((c++([x311.1]:List Int)).length) c331,.slice B d.length C]]):=fun _=>box_in (i:=1) rfl
 refine mp (.pointer (some ((⟨g284,0,none⟩:Addr).add 1))) (qag (sz:=1) underlying24 rfl sizeOf22 (by decide) rfl e19)<|mixE.load hM (v:=.slice B d.length C) (fun _ hF=>qam (hS.bx2 (i:=3) rfl [5] (by decide) hF) isAgg22 rfl rfl)<|mp (.slice (some ad313) a2.length a4) (qaa e7)<|mp (iv x302) (qaa e21) ?_
 obtain ⟨x339,h340,hb⟩:=bd hb
 obtain ⟨ad341,cs342,hA,ho345,hc343,hr344⟩:=hS.elo2 (i:=2) rfl (qac h340).2 [5,3] (by decide)
 obtain rfl:=Option.some.inj hA
 refine mp (.pointer (some (ad313.add (x302.toNat*2)))) (qaf (a:=x302) underlying33 sizeOf67 rfl rfl (by rw [(hC.ow (i:=2) rfl).qad.1]; exact (qac h340).1)) ?_
 obtain ⟨k346,k347,rfl,hr348,hr349⟩:=hr344
 obtain ⟨rfl,hr348⟩:=hr348
 obtain ⟨rfl,hr349⟩:=hr349
 refine mp (.pointer (some ((ad313.add (x302.toNat*2)).add 1))) (qeh (A:=(ad313.add (x302.toNat*2))) (a:=1) (sz:=1) underlying67 sizeOf3 rfl rfl (by decide))<|mixE.steady hD (v:=iv x339.2) (fun _ hF=>qaj isAgg3 rfl (hF.cell (hc343 1 _ rfl) (off2 ho345)))<|mixE.op hM (hC.lit (s:=si) (vs:=[iv x339.2]) (xs:=[x339.2]) underlying22 type3 rfl rfl (nb rfl) rfl rfl (by simp [Value.cells,Sh.n]) rfl (show Elems _ _ si ([iv x339.2]++([])) ([x339.2]:List Int) from Elems.cons (⟨rfl,I64.wr (qay hr349)⟩) (Elems.nil _ _ _))) ?_
 rintro _ w354 ⟨A350,c351,rfl,hl352,hc353,hC,hF,hN⟩
 have hBf355:=Beside.new hM hN
 have hUf355:=Beside.new (hM.wide (H:=[.box g284 24 [.slice A330 ((c++([x311.1]:List Int)).length) c331,.slice B d.length C]])) hN
 replace hM:=hM.none hF
 replace hD:=hM.wide (H:=[.box g284 24 [.slice A330 ((c++([x311.1]:List Int)).length) c331,.slice B d.length C]])
 refine ⟨hM,?_⟩
 clear hF hN
 obtain ⟨u356,h357,hb⟩:=bd hb
 refine mixE.op hM (hC.app (i:=6) (s:=si) (xs:=d) (ys:=([x339.2]:List Int)) (m:=((([x339.2]:List Int)).length)) rfl underlying22 underlying22 type3 rfl rfl rfl (hC.srco (i:=0) rfl) rfl rfl (by have:=qaw h357; simp at this⊢ <;>omega) (by decide)) ?_
 rintro _ w362 ⟨A358,c359,rfl,hl360,hc361,hC,hF,hN⟩
 have hB:=j4
 replace j4:=hB.app hM hN
 replace hM:=hM.beside hB hF
 clear hB
 replace hD:=hM.wide (H:=[.box g284 24 [.slice A330 ((c++([x311.1]:List Int)).length) c331,.slice B d.length C]])
 refine ⟨hM,?_⟩
 clear hF hN
 refine mp (.pointer (some ((⟨g284,0,none⟩:Addr).add 1))) (qag (sz:=1) underlying24 rfl sizeOf22 (by decide) rfl e19)<|mixE.sk hD (hC.setf (i:=4) (k:=1) (v:=.slice A358 ((d++([x339.2]:List Int)).length) c359) rfl sizeOf22 rfl rfl rfl rfl) ?_
 rintro w363 ⟨hC,hF⟩
 replace hD:=hD.besideG hUf286 hF
 clear hF
 refine ⟨hD,?_⟩
 refine mixE.nil ?_
 clear hS hM
 clear hD
 refine hK300 _ _<|rg ?_
 obtain ⟨z364,h365,hb⟩:=bd hb
 refine lp (iv z364) (qal (a:=u) (b:=1) e144 rfl h365)<|lp (iv z364) (qaa rfl)<|ln ?_
 obtain rfl:=os hb
 exact hK292 m293' _ _ (Nat.lt_succ_self _) ⟨z364,(c++([x311.1]:List Int)),(d++([x339.2]:List Int)),A330,(c++([x311.1]:List Int)).length,c331,A358,(d++([x339.2]:List Int)).length,c359,e2,e3,e4,e6,e7,e19,e142,e143,rfl,(qai h365),hC.sE [2,3,4,5,6,7],lN hl4⟩
 replace hb:=tf hq299 hb
 refine Wc.exit rfl ?_
 obtain rfl:=os hb
 obtain rfl:=(lX hl4).symm
 exact hK291 _ _ ⟨u,c,d,P,c.length,Q,B,d.length,C,e2,e3,e4,e6,e19,b4,hC.sE [0,2,3,4],hbK4⟩
 clear hb hC hl4
 rintro E367 w366 ⟨u,c,d,P,f1,Q,B,f2,C,e2,e3,e4,e6,e19,b4,hC,hb⟩
 subst hf290
 obtain ⟨rfl,k5,k6⟩:=(hC.ow (i:=2) rfl).qad
 obtain ⟨rfl,k7,k8⟩:=(hC.ow (i:=3) rfl).qad
 refine hK288 _ _ ?_
 refine Wc.seq fun _ hK368=>?_
 refine Wc.seq fun _ hK369=>rg<|lp _ (qaa e4)<|lp (iv 0) (qaa rfl)<|ln (hK369 _ _ ?_)
 obtain ⟨o370,hl5,f370,hf370,hb⟩:=bn hb
 refine Wc.cut (fun E wv=> ∃(p:Int) (f:List Int) (g:List Int) (b6:Option Addr) (f3 b7:Nat) (b8:Option Addr) (f4 b9:Nat),E 2=pg g6∧E 3=iv 0∧E 19=pg g284∧I64 p∧Cx (fun _=>False) O0 w wv [.box g6 24 [.slice none 0 0,.slice none 0 0],.box g284 24 [.slice b6 f3 b7,.slice b8 f4 b9],.own 3 si (.slice b6 f3 b7) f,.own 3 si (.slice b8 f4 b9) g]∧f370 (p,f,g)=some r) (fun _ hK371=>?_) ?_
 refine Wc.block ?_
 refine Wc.loop (fun m E wv=> ∃(p:Int) (f:List Int) (g:List Int) (b6:Option Addr) (f3 b7:Nat) (b8:Option Addr) (f4 b9:Nat),E 2=pg g6∧E 3=iv 0∧E 4=iv z∧E 6=iv z26∧E 19=pg g284∧E 169=iv z∧E 170=iv p∧I64 p∧Cx (fun _=>False) O0 w wv [.box g6 24 [.slice none 0 0,.slice none 0 0],.box g284 24 [.slice b6 f3 b7,.slice b8 f4 b9],.own 3 si (.slice b6 f3 b7) f,.own 3 si (.slice b8 f4 b9) g]∧loopN m (F.qbj n z z26) (p,f,g)=some o370) n ⟨0,c,d,P,c.length,Q,B,d.length,C,e2,e3,e4,e6,e19,rfl,rfl,(show I64 0 from by unfold I64; omega),hC.sE [0,1,2,3],hl5⟩ ?_
 have hbK5:=hb
 clear hb hC hl5
 rintro m373 E375 w374 ⟨p,f,g,b6,f3,b7,b8,f4,b9,e2,e3,e4,e6,e19,e169,e170,b5,hC,hl5⟩ K372 hK372
 obtain ⟨m373',o376,rfl,hb,hl5⟩:=qan hl5
 unfold F.qbj at hb
 obtain ⟨rfl,k9,l0⟩:=(hC.ow (i:=2) rfl).qad
 obtain ⟨rfl,l1,l2⟩:=(hC.ow (i:=3) rfl).qad
 refine Wc.seq fun _ hK377=>rg<|lp _ (qap e170 e169)<|ln (hK377 _ _ ?_)
 refine Wc.seq fun _ hK378=>?_
 refine Wc.cond (t:=(decide (p<z))) (rfl) (fun hq379=>?_) (fun hq379=>?_)
 replace hb:=tt hq379 hb
 refine Wc.skip (hK378 _ _ ?_)
 refine Wc.seq fun _ hK380=>?_
 refine Wc.block<|Wc.seq fun _ hK381=>rg<|lp _ (qaa e170)<|lp (iv p) (qab rfl)<|ln (hK381 _ _ ?_)
 refine Wc.seq fun _ hK382=>rg<|lp _ (qaa e4) ?_
 obtain ⟨z383,h384,hb⟩:=bd hb
 refine lp (iv z383) (qbk (a:=z) (b:=1) rfl rfl h384)<|lp (iv p) (qaa rfl) ?_
 obtain ⟨z385,h386,hb⟩:=bd hb
 refine lp (iv z385) (qbk (a:=z383) (b:=p) rfl rfl h386)<|lp (iv z385) (qab rfl)<|ln (hK382 _ _ ?_)
 refine Wc.seq fun _ hK387=>rg<|lp (.pointer (some ((⟨g284,0,none⟩:Addr).add 0))) (qag (sz:=1) underlying24 rfl sizeOf22 (by decide) rfl e19)<|lv (.slice b6 f.length b7) (qam (hC.bx (i:=1) rfl) isAgg22 rfl rfl)<|lp _ (qaa e6) ?_
 obtain ⟨z388,h389,hb⟩:=bd hb
 refine lp (iv z388) (qbk (a:=z26) (b:=1) rfl rfl h389)<|lp (iv z385) (qaa rfl) ?_
 obtain ⟨z390,h391,hb⟩:=bd hb
 refine lp (iv z390) (qbk (a:=z388) (b:=z385) rfl rfl h391)<|lex.op (hC.lit (s:=si) (vs:=[iv z390]) (xs:=[z390]) underlying22 type3 rfl rfl (nb rfl) rfl rfl (by simp [Value.cells,Sh.n]) rfl (show Elems _ _ si ([iv z390]++([])) ([z390]:List Int) from Elems.cons (⟨rfl,I64.wr (qai h391)⟩) (Elems.nil _ _ _))) ?_
 rintro _ w396 ⟨A392,c393,rfl,hl394,hc395,hC,-,-⟩
 obtain ⟨u398,h399,hb⟩:=bd hb
 refine lex.op (hC.app (i:=3) (s:=si) (xs:=f) (ys:=([z390]:List Int)) (m:=((([z390]:List Int)).length)) rfl underlying22 underlying22 type3 rfl rfl rfl (hC.srco (i:=0) rfl) rfl rfl (by have:=qaw h399; simp at this⊢ <;>omega) (by decide)) ?_
 rintro _ w404 ⟨A400,c401,rfl,hl402,hc403,hC,-,-⟩
 refine lp (.pointer (some ((⟨g284,0,none⟩:Addr).add 0))) (qag (sz:=1) underlying24 rfl sizeOf22 (by decide) rfl e19)<|lex.sk (hC.setf (i:=2) (k:=0) (v:=.slice A400 ((f++([z390]:List Int)).length) c401) rfl sizeOf22 rfl rfl rfl rfl) ?_
 rintro w405 ⟨hC,hF⟩
 refine ln (hK387 _ _ ?_)
 refine Wc.fresh fun E406 hE=>?_
 have e2:=cg hE 2 e2
 have e3:=cg hE 3 e3
 have e4:=cg hE 4 e4
 have e6:=cg hE 6 e6
 have e19:=cg hE 19 e19
 have e22:E406 22=iv p:=cg hE 22 rfl
 have e23:E406 23=iv z385:=cg hE 23 rfl
 have e169:=cg hE 169 e169
 have e170:=cg hE 170 e170
 have e171:E406 171=.bool (decide (p<z)):=cg hE 171 rfl
 clear hE
 refine rg<|lp (.pointer (some ((⟨g284,0,none⟩:Addr).add 1))) (qag (sz:=1) underlying24 rfl sizeOf22 (by decide) rfl e19)<|lv (.slice b8 g.length b9) (qam (hC.bx (i:=2) rfl) isAgg22 rfl rfl)<|lp _ (qaa e23)<|lex.op (hC.lit (s:=si) (vs:=[iv z385]) (xs:=[z385]) underlying22 type3 rfl rfl (nb rfl) rfl rfl (by simp [Value.cells,Sh.n]) rfl (show Elems _ _ si ([iv z385]++([])) ([z385]:List Int) from Elems.cons (⟨rfl,I64.wr (qai h386)⟩) (Elems.nil _ _ _))) ?_
 rintro _ w411 ⟨A407,c408,rfl,hl409,hc410,hC,-,-⟩
 obtain ⟨u413,h414,hb⟩:=bd hb
 refine lex.op (hC.app (i:=5) (s:=si) (xs:=g) (ys:=([z385]:List Int)) (m:=((([z385]:List Int)).length)) rfl underlying22 underlying22 type3 rfl rfl rfl (hC.srco (i:=0) rfl) rfl rfl (by have:=qaw h414; simp at this⊢ <;>omega) (by decide)) ?_
 rintro _ w419 ⟨A415,c416,rfl,hl417,hc418,hC,-,-⟩
 refine lp (.pointer (some ((⟨g284,0,none⟩:Addr).add 1))) (qag (sz:=1) underlying24 rfl sizeOf22 (by decide) rfl e19)<|lex.sk (hC.setf (i:=3) (k:=1) (v:=.slice A415 ((g++([z385]:List Int)).length) c416) rfl sizeOf22 rfl rfl rfl rfl) ?_
 rintro w420 ⟨hC,hF⟩
 refine ln (hK380 _ _ ?_)
 refine rg ?_
 obtain ⟨z421,h422,hb⟩:=bd hb
 refine lp (iv z421) (qal (a:=p) (b:=1) e170 rfl h422)<|lp (iv z421) (qaa rfl)<|ln ?_
 obtain rfl:=os hb
 exact hK372 m373' _ _ (Nat.lt_succ_self _) ⟨z421,(f++([z390]:List Int)),(g++([z385]:List Int)),A400,(f++([z390]:List Int)).length,c401,A415,(g++([z385]:List Int)).length,c416,e2,e3,e4,e6,e19,e169,rfl,(qai h422),hC.sE [2,3,4,5],lN hl5⟩
 replace hb:=tf hq379 hb
 refine Wc.exit rfl ?_
 obtain rfl:=os hb
 obtain rfl:=(lX hl5).symm
 exact hK371 _ _ ⟨p,f,g,b6,f.length,b7,b8,g.length,b9,e2,e3,e19,b5,hC.sE [0,1,2,3],hbK5⟩
 clear hb hC hl5
 rintro E424 w423 ⟨p,f,g,b6,f3,b7,b8,f4,b9,e2,e3,e19,b5,hC,hb⟩
 subst hf370
 obtain ⟨rfl,k9,l0⟩:=(hC.ow (i:=2) rfl).qad
 obtain ⟨rfl,l1,l2⟩:=(hC.ow (i:=3) rfl).qad
 refine hK368 _ _<|Wc.seq fun _ hK425=>rg<|lv (.agg #[.slice b6 f.length b7,.slice b8 g.length b9]) (qbs (hC.bx (i:=1) rfl) isAgg24 sizeOf24 e19)<|lex.sk (hC.seta (i:=0) (ds:=[.slice b6 f.length b7,.slice b8 g.length b9]) rfl type24 rfl rfl rfl e2 rfl) ?_
 rintro w426 ⟨hC,hF⟩
 refine lp (iv 0) (qab rfl)<|ln (hK425 _ _ ?_)
 obtain rfl:=os hb
 refine Wc.ret (hKR _ _ ?_)
 refine ⟨_,res2 results18 ⟨_,e2,qch (hC.bx (i:=0) rfl) isAgg24 sizeOf24⟩ (tV (iv 0) rfl),_,rfl,b6,f.length,b7,b8,g.length,b9,rfl,(show I64 0 from by unfold I64; omega),hC.sE [2,3]⟩
 refine qae ?_
 refine mixE.op hM (hC.alloc (cs:=[.slice none 0 0,.slice none 0 0]) zeroValue24 rfl) ?_
 rintro _ w428 ⟨g427,rfl,hC,hF,hG⟩
 have hUf429:g427<w267.heap.size→g427∈blocks (([]:List Fact)++([]:List Fact)):=fun h=>absurd (Nat.lt_of_lt_of_le h (Nat.le_trans hM.size hG)) (Nat.lt_irrefl _)
 clear hG
 replace hM:=hM.none hF
 replace hD:=hM.wide (H:=([]:List Fact))
 refine ⟨hM,?_⟩
 refine mixE.nil ?_
 refine qae ?_
 obtain ⟨u276,h431,hb⟩:=bd hb
 refine mixE.op hM (hC.make0 (s:=si) (n:=z26) underlying22 type3 rfl rfl rfl rfl (qah h431).1 (qah h431).2 (by decide)) ?_
 rintro _ w436 ⟨A432,c433,rfl,hl434,hc435,hC,hF,hN⟩
 have hBf437:=Beside.new hM hN
 have hUf437:=Beside.new (hM.wide (H:=([]:List Fact))) hN
 replace hM:=hM.none hF
 replace hD:=hM.wide (H:=([]:List Fact))
 refine ⟨hM,?_⟩
 clear hF hN
 refine mp (.agg #[.slice A270 ((([]:List Int)).length) c271,.slice A432 ((([]:List Int)).length) c433]) (qbr (places:=[(0,1),(1,1)]) (pv:=[(0,.slice A270 ((([]:List Int)).length) c271),(1,.slice A432 ((([]:List Int)).length) c433)]) type24 underlying24 rfl (qar type22 (qar type22 qco rfl rfl) rfl rfl) rfl (by simp [Instr.fill,Value.cells]))<|mixE.sk hD (hC.seta (i:=1) (ds:=[.slice A270 ((([]:List Int)).length) c271,.slice A432 ((([]:List Int)).length) c433]) rfl type24 rfl rfl rfl rfl rfl) ?_
 rintro w438 ⟨hC,hF⟩
 replace hD:=hD.besideG hUf429 hF
 clear hF
 refine ⟨hD,?_⟩
 refine mixE.nil ?_
 clear hS hM
 clear hD
 refine hK265 _ _ ?_
 refine Wc.seq fun _ hK439=>?_
 refine Wc.seq fun _ hK440=>rg<|lp _ (qaa e8)<|lp (iv (N.length:Int)) (qao (A:=a5) (n:=N.length) (m:=a6) underlying22 rfl)<|lp (iv 0) (qaa rfl)<|ln (hK440 _ _ ?_)
 obtain ⟨o290,hl4,f290,hf290,hb⟩:=bn hb
 refine Wc.cut (fun E wv=> ∃(u:Int) (c:List Int) (d:List Int) (R:Option Addr) (f5 S:Nat) (D:Option Addr) (f6 G:Nat),E 2=pg g6∧E 3=iv 0∧E 4=iv z∧E 6=iv z26∧E 19=pg g427∧I64 u∧Cx (fun _=>False) O0 w wv [.box g6 24 [.slice none 0 0,.slice none 0 0],.box g427 24 [.slice R f5 S,.slice D f6 G],.own 3 si (.slice R f5 S) c,.own 3 si (.slice D f6 G) d]∧f290 (u,c,d)=some r) (fun _ hK442=>?_) ?_
 refine Wc.block ?_
 refine Wc.loop (fun m E wv=> ∃(u:Int) (c:List Int) (d:List Int) (R:Option Addr) (f5 S:Nat) (D:Option Addr) (f6 G:Nat),E 2=pg g6∧E 3=iv 0∧E 4=iv z∧E 6=iv z26∧E 7=.slice a8 a2.length a4∧E 19=pg g427∧E 142=.slice a5 N.length a6∧E 143=iv (N.length:Int)∧E 144=iv u∧I64 u∧Cx (fun _=>False) O0 w wv [.box g6 24 [.slice none 0 0,.slice none 0 0],.own 67 (.pr si si) (.slice a8 a2.length a4) b3,.box g427 24 [.slice R f5 S,.slice D f6 G],.own 3 si (.slice R f5 S) c,.own 3 si (.slice D f6 G) d,.own 3 si (.slice a5 N.length a6) N]∧loopN m (F.qbi n N b3) (u,c,d)=some o290) n ⟨0,([]:List Int),([]:List Int),A270,(([]:List Int)).length,c271,A432,(([]:List Int)).length,c433,e2,e3,e4,e6,e7,rfl,rfl,rfl,rfl,(show I64 0 from by unfold I64; omega),hC.sE [3,4,1,2,0,5],hl4⟩ ?_
 have hbK4:=hb
 clear hb hC hl4
 rintro m444 E446 w445 ⟨u,c,d,R,f5,S,D,f6,G,e2,e3,e4,e6,e7,e19,e142,e143,e144,b4,hC,hl4⟩ K443 hK443
 obtain ⟨m444',o447,rfl,hb,hl4⟩:=qan hl4
 unfold F.qbi at hb
 obtain ⟨rfl,l3,l4⟩:=(hC.ow (i:=3) rfl).qad
 obtain ⟨rfl,l5,l6⟩:=(hC.ow (i:=4) rfl).qad
 refine Wc.seq fun _ hK448=>rg<|lp _ (qap e144 e143)<|ln (hK448 _ _ ?_)
 refine Wc.seq fun _ hK449=>?_
 refine Wc.cond (t:=(decide (u<(N.length:Int)))) (rfl) (fun hq450=>?_) (fun hq450=>?_)
 replace hb:=tt hq450 hb
 refine Wc.skip (hK449 _ _ ?_)
 refine Wc.seq fun _ hK451=>?_
 refine Wc.block<|Wc.seq fun _ hK452=>rg ?_
 obtain ⟨x302,h454,hb⟩:=bd hb
 obtain ⟨ad455,cs456,hA,hc457,hr458⟩:=hC.elo (i:=5) rfl (qac h454).2
 subst hA
 refine lp (.pointer (some (ad455.add (u.toNat*1)))) (qaf (a:=u) underlying22 sizeOf3 e142 e144 (qac h454).1) ?_
 obtain ⟨rfl,hr458'⟩:=hr458
 refine lv (iv x302) (qaj isAgg3 rfl (hc457 0 _ rfl))<|lp (iv x302) (qab rfl)<|ln (hK452 _ _ ?_)
 refine Wc.seq fun _ hK459=>?_
 refine Wc.regionMix [154] (frm [154] [.own 3 si (.slice R c.length S) c] [.box g427 24 [.slice R c.length S,.slice D d.length G]]) (fun _=>rfl) mixed (by decide+kernel) (by decide+kernel) fun w461 hw460=>?_
 replace hC:=hC.step (Fr.qbb hw460)
 have hM:=Fr.refl (fun k=>k∈blocks [.own 3 si (.slice R c.length S) c]) w461
 clear hw460
 have hS:=hC
 have j5:Beside [.own 3 si (.slice R c.length S) c] w461 (.slice R c.length S):=Beside.of (i:=0) rfl
 have hD:Fr (fun k=>k∈blocks ([.own 3 si (.slice R c.length S) c]++[.box g427 24 [.slice R c.length S,.slice D d.length G]])) w461 w461:=hM.wide
 have p6:Beside ([.own 3 si (.slice R c.length S) c]++[.box g427 24 [.slice R c.length S,.slice D d.length G]]) w461 (.slice R c.length S):=Beside.of (i:=0) rfl
 have hUf429:g427<w461.heap.size→g427∈blocks ([.own 3 si (.slice R c.length S) c]++[.box g427 24 [.slice R c.length S,.slice D d.length G]]):=fun _=>box_in (i:=1) rfl
 refine mp (.pointer (some ((⟨g427,0,none⟩:Addr).add 0))) (qag (sz:=1) underlying24 rfl sizeOf22 (by decide) rfl e19)<|mixE.load hM (v:=.slice R c.length S) (fun _ hF=>qam (hS.bx2 (i:=2) rfl [3] (by decide) hF) isAgg22 rfl rfl)<|mp (.slice a8 a2.length a4) (qaa e7)<|mp (iv x302) (qaa rfl) ?_
 obtain ⟨x311,h463,hb⟩:=bd hb
 obtain ⟨ad464,cs465,hA,ho468,hc466,hr467⟩:=hS.elo2 (i:=1) rfl (qac h463).2 [3,2] (by decide)
 subst hA
 refine mp (.pointer (some (ad464.add (x302.toNat*2)))) (qaf (a:=x302) underlying33 sizeOf67 rfl rfl (by rw [(hC.ow (i:=1) rfl).qad.1]; exact (qac h463).1)) ?_
 obtain ⟨k469,k470,rfl,hr471,hr472⟩:=hr467
 obtain ⟨rfl,hr471⟩:=hr471
 obtain ⟨rfl,hr472⟩:=hr472
 refine mp (.pointer (some ((ad464.add (x302.toNat*2)).add 0))) (qeh (A:=(ad464.add (x302.toNat*2))) (a:=0) (sz:=1) underlying67 sizeOf3 rfl rfl (by decide))<|mixE.steady hD (v:=iv x311.1) (fun _ hF=>qaj isAgg3 rfl (hF.cell (hc466 0 _ rfl) (off2 ho468)))<|mixE.op hM (hC.lit (s:=si) (vs:=[iv x311.1]) (xs:=[x311.1]) underlying22 type3 rfl rfl (nb rfl) rfl rfl (by simp [Value.cells,Sh.n]) rfl (show Elems _ _ si ([iv x311.1]++([])) ([x311.1]:List Int) from Elems.cons (⟨rfl,I64.wr (qay hr471)⟩) (Elems.nil _ _ _))) ?_
 rintro _ w477 ⟨A473,c474,rfl,hl475,hc476,hC,hF,hN⟩
 have hBf478:=Beside.new hM hN
 have hUf478:=Beside.new (hM.wide (H:=[.box g427 24 [.slice R c.length S,.slice D d.length G]])) hN
 replace hM:=hM.none hF
 replace hD:=hM.wide (H:=[.box g427 24 [.slice R c.length S,.slice D d.length G]])
 refine ⟨hM,?_⟩
 clear hF hN
 obtain ⟨u328,h480,hb⟩:=bd hb
 refine mixE.op hM (hC.app (i:=4) (s:=si) (xs:=c) (ys:=([x311.1]:List Int)) (m:=((([x311.1]:List Int)).length)) rfl underlying22 underlying22 type3 rfl rfl rfl (hC.srco (i:=0) rfl) rfl rfl (by have:=qaw h480; simp at this⊢ <;>omega) (by decide)) ?_
 rintro _ w485 ⟨A481,c482,rfl,hl483,hc484,hC,hF,hN⟩
 have hB:=j5
 replace j5:=hB.app hM hN
 replace hM:=hM.beside hB hF
 clear hB
 replace hD:=hM.wide (H:=[.box g427 24 [.slice R c.length S,.slice D d.length G]])
 refine ⟨hM,?_⟩
 clear hF hN
 refine mp (.pointer (some ((⟨g427,0,none⟩:Addr).add 0))) (qag (sz:=1) underlying24 rfl sizeOf22 (by decide) rfl e19)<|mixE.sk hD (hC.setf (i:=3) (k:=0) (v:=.slice A481 ((c++([x311.1]:List Int)).length) c482) rfl sizeOf22 rfl rfl rfl rfl) ?_
 rintro w486 ⟨hC,hF⟩
 replace hD:=hD.besideG hUf429 hF
 clear hF
 refine ⟨hD,?_⟩
 refine mixE.nil ?_
 clear hS hM
 clear hD
 refine hK459 _ _<|Wc.fresh fun E487 hE=>?_
 have e2:=cg hE 2 e2
 have e3:=cg hE 3 e3
 have e4:=cg hE 4 e4
 have e6:=cg hE 6 e6
 have e7:=cg hE 7 e7
 have e19:=cg hE 19 e19
 have e21:E487 21=iv x302:=cg hE 21 rfl
 have e142:=cg hE 142 e142
 have e143:=cg hE 143 e143
 have e144:=cg hE 144 e144
 have e145:E487 145=.bool (decide (u<(N.length:Int))):=cg hE 145 rfl
 clear hE
 refine Wc.regionMix [164] (frm [164] [.own 3 si (.slice D d.length G) d] [.box g427 24 [.slice A481 ((c++([x311.1]:List Int)).length) c482,.slice D d.length G]]) (fun _=>rfl) mixed (by decide+kernel) (by decide+kernel) fun w489 hw488=>?_
 replace hC:=hC.step (Fr.qbb hw488)
 have hM:=Fr.refl (fun k=>k∈blocks [.own 3 si (.slice D d.length G) d]) w489
 clear hw488
 have hS:=hC
 have j6:Beside [.own 3 si (.slice D d.length G) d] w489 (.slice D d.length G):=Beside.of (i:=0) rfl
 have hD:Fr (fun k=>k∈blocks ([.own 3 si (.slice D d.length G) d]++[.box g427 24 [.slice A481 ((c++([x311.1]:List Int)).length) c482,.slice D d.length G]])) w489 w489:=hM.wide
 have p7:Beside ([.own 3 si (.slice D d.length G) d]++[.box g427 24 [.slice A481 ((c++([x311.1]:List Int)).length) c482,.slice D d.length G]]) w489 (.slice D d.length G):=Beside.of (i:=0) rfl
 have hUf429:g427<w489.heap.size→g427∈blocks ([.own 3 si (.slice D d.length G) d]++[.box g427 24 [.slice A481 ((c++([x311.1]:List Int)).length) c482,.slice D d.length G]]):=fun _=>box_in (i:=1) rfl
 refine mp (.pointer (some ((⟨g427,0,none⟩:Addr).add 1))) (qag (sz:=1) underlying24 rfl sizeOf22 (by decide) rfl e19)<|mixE.load hM (v:=.slice D d.length G) (fun _ hF=>qam (hS.bx2 (i:=3) rfl [5] (by decide) hF) isAgg22 rfl rfl)<|mp (.slice (some ad464) a2.length a4) (qaa e7)<|mp (iv x302) (qaa e21) ?_
 obtain ⟨x339,h491,hb⟩:=bd hb
 obtain ⟨ad492,cs493,hA,ho496,hc494,hr495⟩:=hS.elo2 (i:=2) rfl (qac h491).2 [5,3] (by decide)
 obtain rfl:=Option.some.inj hA
 refine mp (.pointer (some (ad464.add (x302.toNat*2)))) (qaf (a:=x302) underlying33 sizeOf67 rfl rfl (by rw [(hC.ow (i:=2) rfl).qad.1]; exact (qac h491).1)) ?_
 obtain ⟨k497,k498,rfl,hr499,hr500⟩:=hr495
 obtain ⟨rfl,hr499⟩:=hr499
 obtain ⟨rfl,hr500⟩:=hr500
 refine mp (.pointer (some ((ad464.add (x302.toNat*2)).add 1))) (qeh (A:=(ad464.add (x302.toNat*2))) (a:=1) (sz:=1) underlying67 sizeOf3 rfl rfl (by decide))<|mixE.steady hD (v:=iv x339.2) (fun _ hF=>qaj isAgg3 rfl (hF.cell (hc494 1 _ rfl) (off2 ho496)))<|mixE.op hM (hC.lit (s:=si) (vs:=[iv x339.2]) (xs:=[x339.2]) underlying22 type3 rfl rfl (nb rfl) rfl rfl (by simp [Value.cells,Sh.n]) rfl (show Elems _ _ si ([iv x339.2]++([])) ([x339.2]:List Int) from Elems.cons (⟨rfl,I64.wr (qay hr500)⟩) (Elems.nil _ _ _))) ?_
 rintro _ w505 ⟨A501,c502,rfl,hl503,hc504,hC,hF,hN⟩
 have hBf506:=Beside.new hM hN
 have hUf506:=Beside.new (hM.wide (H:=[.box g427 24 [.slice A481 ((c++([x311.1]:List Int)).length) c482,.slice D d.length G]])) hN
 replace hM:=hM.none hF
 replace hD:=hM.wide (H:=[.box g427 24 [.slice A481 ((c++([x311.1]:List Int)).length) c482,.slice D d.length G]])
 refine ⟨hM,?_⟩
 clear hF hN
 obtain ⟨u356,h508,hb⟩:=bd hb
 refine mixE.op hM (hC.app (i:=6) (s:=si) (xs:=d) (ys:=([x339.2]:List Int)) (m:=((([x339.2]:List Int)).length)) rfl underlying22 underlying22 type3 rfl rfl rfl (hC.srco (i:=0) rfl) rfl rfl (by have:=qaw h508; simp at this⊢ <;>omega) (by decide)) ?_
 rintro _ w513 ⟨A509,c510,rfl,hl511,hc512,hC,hF,hN⟩
 have hB:=j6
 replace j6:=hB.app hM hN
 replace hM:=hM.beside hB hF
 clear hB
 replace hD:=hM.wide (H:=[.box g427 24 [.slice A481 ((c++([x311.1]:List Int)).length) c482,.slice D d.length G]])
 refine ⟨hM,?_⟩
 clear hF hN
 refine mp (.pointer (some ((⟨g427,0,none⟩:Addr).add 1))) (qag (sz:=1) underlying24 rfl sizeOf22 (by decide) rfl e19)<|mixE.sk hD (hC.setf (i:=4) (k:=1) (v:=.slice A509 ((d++([x339.2]:List Int)).length) c510) rfl sizeOf22 rfl rfl rfl rfl) ?_
 rintro w514 ⟨hC,hF⟩
 replace hD:=hD.besideG hUf429 hF
 clear hF
 refine ⟨hD,?_⟩
 refine mixE.nil ?_
 clear hS hM
 clear hD
 refine hK451 _ _<|rg ?_
 obtain ⟨z364,h516,hb⟩:=bd hb
 refine lp (iv z364) (qal (a:=u) (b:=1) e144 rfl h516)<|lp (iv z364) (qaa rfl)<|ln ?_
 obtain rfl:=os hb
 exact hK443 m444' _ _ (Nat.lt_succ_self _) ⟨z364,(c++([x311.1]:List Int)),(d++([x339.2]:List Int)),A481,(c++([x311.1]:List Int)).length,c482,A509,(d++([x339.2]:List Int)).length,c510,e2,e3,e4,e6,e7,e19,e142,e143,rfl,(qai h516),hC.sE [2,3,4,5,6,7],lN hl4⟩
 replace hb:=tf hq450 hb
 refine Wc.exit rfl ?_
 obtain rfl:=os hb
 obtain rfl:=(lX hl4).symm
 exact hK442 _ _ ⟨u,c,d,R,c.length,S,D,d.length,G,e2,e3,e4,e6,e19,b4,hC.sE [0,2,3,4],hbK4⟩
 clear hb hC hl4
 rintro E518 w517 ⟨u,c,d,R,f5,S,D,f6,G,e2,e3,e4,e6,e19,b4,hC,hb⟩
 subst hf290
 obtain ⟨rfl,l3,l4⟩:=(hC.ow (i:=2) rfl).qad
 obtain ⟨rfl,l5,l6⟩:=(hC.ow (i:=3) rfl).qad
 refine hK439 _ _ ?_
 refine Wc.seq fun _ hK519=>?_
 refine Wc.seq fun _ hK520=>rg<|lp _ (qaa e4)<|lp (iv 0) (qaa rfl)<|ln (hK520 _ _ ?_)
 obtain ⟨o370,hl5,f370,hf370,hb⟩:=bn hb
 refine Wc.cut (fun E wv=> ∃(p:Int) (f:List Int) (g:List Int) (c2:Option Addr) (f7 c3:Nat) (c4:Option Addr) (f8 c5:Nat),E 2=pg g6∧E 3=iv 0∧E 19=pg g427∧I64 p∧Cx (fun _=>False) O0 w wv [.box g6 24 [.slice none 0 0,.slice none 0 0],.box g427 24 [.slice c2 f7 c3,.slice c4 f8 c5],.own 3 si (.slice c2 f7 c3) f,.own 3 si (.slice c4 f8 c5) g]∧f370 (p,f,g)=some r) (fun _ hK522=>?_) ?_
 refine Wc.block ?_
 refine Wc.loop (fun m E wv=> ∃(p:Int) (f:List Int) (g:List Int) (c2:Option Addr) (f7 c3:Nat) (c4:Option Addr) (f8 c5:Nat),E 2=pg g6∧E 3=iv 0∧E 4=iv z∧E 6=iv z26∧E 19=pg g427∧E 169=iv z∧E 170=iv p∧I64 p∧Cx (fun _=>False) O0 w wv [.box g6 24 [.slice none 0 0,.slice none 0 0],.box g427 24 [.slice c2 f7 c3,.slice c4 f8 c5],.own 3 si (.slice c2 f7 c3) f,.own 3 si (.slice c4 f8 c5) g]∧loopN m (F.qbj n z z26) (p,f,g)=some o370) n ⟨0,c,d,R,c.length,S,D,d.length,G,e2,e3,e4,e6,e19,rfl,rfl,(show I64 0 from by unfold I64; omega),hC.sE [0,1,2,3],hl5⟩ ?_
 have hbK5:=hb
 clear hb hC hl5
 rintro m524 E526 w525 ⟨p,f,g,c2,f7,c3,c4,f8,c5,e2,e3,e4,e6,e19,e169,e170,b5,hC,hl5⟩ K523 hK523
 obtain ⟨m524',o527,rfl,hb,hl5⟩:=qan hl5
 unfold F.qbj at hb
 obtain ⟨rfl,l7,l8⟩:=(hC.ow (i:=2) rfl).qad
 obtain ⟨rfl,l9,m2⟩:=(hC.ow (i:=3) rfl).qad
 refine Wc.seq fun _ hK528=>rg<|lp _ (qap e170 e169)<|ln (hK528 _ _ ?_)
 refine Wc.seq fun _ hK529=>?_
 refine Wc.cond (t:=(decide (p<z))) (rfl) (fun hq530=>?_) (fun hq530=>?_)
 replace hb:=tt hq530 hb
 refine Wc.skip (hK529 _ _ ?_)
 refine Wc.seq fun _ hK531=>?_
 refine Wc.block<|Wc.seq fun _ hK532=>rg<|lp _ (qaa e170)<|lp (iv p) (qab rfl)<|ln (hK532 _ _ ?_)
 refine Wc.seq fun _ hK533=>rg<|lp _ (qaa e4) ?_
 obtain ⟨z383,h535,hb⟩:=bd hb
 refine lp (iv z383) (qbk (a:=z) (b:=1) rfl rfl h535)<|lp (iv p) (qaa rfl) ?_
 obtain ⟨z385,h537,hb⟩:=bd hb
 refine lp (iv z385) (qbk (a:=z383) (b:=p) rfl rfl h537)<|lp (iv z385) (qab rfl)<|ln (hK533 _ _ ?_)
 refine Wc.seq fun _ hK538=>rg<|lp (.pointer (some ((⟨g427,0,none⟩:Addr).add 0))) (qag (sz:=1) underlying24 rfl sizeOf22 (by decide) rfl e19)<|lv (.slice c2 f.length c3) (qam (hC.bx (i:=1) rfl) isAgg22 rfl rfl)<|lp _ (qaa e6) ?_
 obtain ⟨z388,h540,hb⟩:=bd hb
 refine lp (iv z388) (qbk (a:=z26) (b:=1) rfl rfl h540)<|lp (iv z385) (qaa rfl) ?_
 obtain ⟨z390,h542,hb⟩:=bd hb
 refine lp (iv z390) (qbk (a:=z388) (b:=z385) rfl rfl h542)<|lex.op (hC.lit (s:=si) (vs:=[iv z390]) (xs:=[z390]) underlying22 type3 rfl rfl (nb rfl) rfl rfl (by simp [Value.cells,Sh.n]) rfl (show Elems _ _ si ([iv z390]++([])) ([z390]:List Int) from Elems.cons (⟨rfl,I64.wr (qai h542)⟩) (Elems.nil _ _ _))) ?_
 rintro _ w547 ⟨A543,c544,rfl,hl545,hc546,hC,-,-⟩
 obtain ⟨u398,h550,hb⟩:=bd hb
 refine lex.op (hC.app (i:=3) (s:=si) (xs:=f) (ys:=([z390]:List Int)) (m:=((([z390]:List Int)).length)) rfl underlying22 underlying22 type3 rfl rfl rfl (hC.srco (i:=0) rfl) rfl rfl (by have:=qaw h550; simp at this⊢ <;>omega) (by decide)) ?_
 rintro _ w555 ⟨A551,c552,rfl,hl553,hc554,hC,-,-⟩
 refine lp (.pointer (some ((⟨g427,0,none⟩:Addr).add 0))) (qag (sz:=1) underlying24 rfl sizeOf22 (by decide) rfl e19)<|lex.sk (hC.setf (i:=2) (k:=0) (v:=.slice A551 ((f++([z390]:List Int)).length) c552) rfl sizeOf22 rfl rfl rfl rfl) ?_
 rintro w556 ⟨hC,hF⟩
 refine ln (hK538 _ _ ?_)
 refine Wc.fresh fun E557 hE=>?_
 have e2:=cg hE 2 e2
 have e3:=cg hE 3 e3
 have e4:=cg hE 4 e4
 have e6:=cg hE 6 e6
 have e19:=cg hE 19 e19
 have e22:E557 22=iv p:=cg hE 22 rfl
 have e23:E557 23=iv z385:=cg hE 23 rfl
 have e169:=cg hE 169 e169
 have e170:=cg hE 170 e170
 have e171:E557 171=.bool (decide (p<z)):=cg hE 171 rfl
 clear hE
 refine rg<|lp (.pointer (some ((⟨g427,0,none⟩:Addr).add 1))) (qag (sz:=1) underlying24 rfl sizeOf22 (by decide) rfl e19)<|lv (.slice c4 g.length c5) (qam (hC.bx (i:=2) rfl) isAgg22 rfl rfl)<|lp _ (qaa e23)<|lex.op (hC.lit (s:=si) (vs:=[iv z385]) (xs:=[z385]) underlying22 type3 rfl rfl (nb rfl) rfl rfl (by simp [Value.cells,Sh.n]) rfl (show Elems _ _ si ([iv z385]++([])) ([z385]:List Int) from Elems.cons (⟨rfl,I64.wr (qai h537)⟩) (Elems.nil _ _ _))) ?_
 rintro _ w562 ⟨A558,c559,rfl,hl560,hc561,hC,-,-⟩
 obtain ⟨u413,h565,hb⟩:=bd hb
 refine lex.op (hC.app (i:=5) (s:=si) (xs:=g) (ys:=([z385]:List Int)) (m:=((([z385]:List Int)).length)) rfl underlying22 underlying22 type3 rfl rfl rfl (hC.srco (i:=0) rfl) rfl rfl (by have:=qaw h565; simp at this⊢ <;>omega) (by decide)) ?_
 rintro _ w570 ⟨A566,c567,rfl,hl568,hc569,hC,-,-⟩
 refine lp (.pointer (some ((⟨g427,0,none⟩:Addr).add 1))) (qag (sz:=1) underlying24 rfl sizeOf22 (by decide) rfl e19)<|lex.sk (hC.setf (i:=3) (k:=1) (v:=.slice A566 ((g++([z385]:List Int)).length) c567) rfl sizeOf22 rfl rfl rfl rfl) ?_
 rintro w571 ⟨hC,hF⟩
 refine ln (hK531 _ _ ?_)
 refine rg ?_
 obtain ⟨z421,h573,hb⟩:=bd hb
 refine lp (iv z421) (qal (a:=p) (b:=1) e170 rfl h573)<|lp (iv z421) (qaa rfl)<|ln ?_
 obtain rfl:=os hb
 exact hK523 m524' _ _ (Nat.lt_succ_self _) ⟨z421,(f++([z390]:List Int)),(g++([z385]:List Int)),A551,(f++([z390]:List Int)).length,c552,A566,(g++([z385]:List Int)).length,c567,e2,e3,e4,e6,e19,e169,rfl,(qai h573),hC.sE [2,3,4,5],lN hl5⟩
 replace hb:=tf hq530 hb
 refine Wc.exit rfl ?_
 obtain rfl:=os hb
 obtain rfl:=(lX hl5).symm
 exact hK522 _ _ ⟨p,f,g,c2,f.length,c3,c4,g.length,c5,e2,e3,e19,b5,hC.sE [0,1,2,3],hbK5⟩
 clear hb hC hl5
 rintro E575 w574 ⟨p,f,g,c2,f7,c3,c4,f8,c5,e2,e3,e19,b5,hC,hb⟩
 subst hf370
 obtain ⟨rfl,l7,l8⟩:=(hC.ow (i:=2) rfl).qad
 obtain ⟨rfl,l9,m2⟩:=(hC.ow (i:=3) rfl).qad
 refine hK519 _ _<|Wc.seq fun _ hK576=>rg<|lv (.agg #[.slice c2 f.length c3,.slice c4 g.length c5]) (qbs (hC.bx (i:=1) rfl) isAgg24 sizeOf24 e19)<|lex.sk (hC.seta (i:=0) (ds:=[.slice c2 f.length c3,.slice c4 g.length c5]) rfl type24 rfl rfl rfl e2 rfl) ?_
 rintro w577 ⟨hC,hF⟩
 refine lp (iv 0) (qab rfl)<|ln (hK576 _ _ ?_)
 obtain rfl:=os hb
 refine Wc.ret (hKR _ _ ?_)
 refine ⟨_,res2 results18 ⟨_,e2,qch (hC.bx (i:=0) rfl) isAgg24 sizeOf24⟩ (tV (iv 0) rfl),_,rfl,c2,f.length,c3,c4,g.length,c5,rfl,(show I64 0 from by unfold I64; omega),hC.sE [2,3]⟩
 refine qbd ?_ ?_
 refine qae ?_
 obtain ⟨u268,h579,hb⟩:=bd hb
 refine mixE.op hM (hC.make0 (s:=si) (n:=z26) underlying22 type3 rfl rfl rfl rfl (qah h579).1 (qah h579).2 (by decide)) ?_
 rintro _ w584 ⟨A580,c581,rfl,hl582,hc583,hC,hF,hN⟩
 have hBf585:=Beside.new hM hN
 have hUf585:=Beside.new (hM.wide (H:=([]:List Fact))) hN
 replace hM:=hM.none hF
 replace hD:=hM.wide (H:=([]:List Fact))
 refine ⟨hM,?_⟩
 clear hF hN
 refine mixE.nil ?_
 refine qbd ?_ ?_
 refine qae ?_
 obtain ⟨u276,h587,hb⟩:=bd hb
 refine mixE.op hM (hC.make0 (s:=si) (n:=z26) underlying22 type3 rfl rfl rfl rfl (qah h587).1 (qah h587).2 (by decide)) ?_
 rintro _ w592 ⟨A588,c589,rfl,hl590,hc591,hC,hF,hN⟩
 have hBf593:=Beside.new hM hN
 have hUf593:=Beside.new (hM.wide (H:=([]:List Fact))) hN
 replace hM:=hM.none hF
 replace hD:=hM.wide (H:=([]:List Fact))
 refine ⟨hM,?_⟩
 clear hF hN
 refine mixE.nil ?_
 refine qae ?_
 refine mp (.agg #[.slice A588 ((([]:List Int)).length) c589,.slice A580 ((([]:List Int)).length) c581]) (qbr (places:=[(0,1),(1,1)]) (pv:=[(0,.slice A588 ((([]:List Int)).length) c589),(1,.slice A580 ((([]:List Int)).length) c581)]) type24 underlying24 rfl (qar type22 (qar type22 qco rfl rfl) rfl rfl) rfl (by simp [Instr.fill,Value.cells]))<|mixE.op hM (hC.alloc (cs:=[.slice none 0 0,.slice none 0 0]) zeroValue24 rfl) ?_
 rintro _ w595 ⟨g594,rfl,hC,hF,hG⟩
 have hUf596:g594<w267.heap.size→g594∈blocks (([]:List Fact)++([]:List Fact)):=fun h=>absurd (Nat.lt_of_lt_of_le h (Nat.le_trans hM.size hG)) (Nat.lt_irrefl _)
 clear hG
 replace hM:=hM.none hF
 replace hD:=hM.wide (H:=([]:List Fact))
 refine ⟨hM,?_⟩
 refine mixE.sk hD (hC.seta (i:=0) (ds:=[.slice A588 ((([]:List Int)).length) c589,.slice A580 ((([]:List Int)).length) c581]) rfl type24 rfl rfl rfl rfl rfl) ?_
 rintro w597 ⟨hC,hF⟩
 replace hD:=hD.besideG hUf596 hF
 clear hF
 refine ⟨hD,?_⟩
 refine mixE.nil ?_
 clear hS hM
 clear hD
 refine hK265 _ _ ?_
 refine Wc.seq fun _ hK598=>?_
 refine Wc.seq fun _ hK599=>rg<|lp _ (qaa e8)<|lp (iv (N.length:Int)) (qao (A:=a5) (n:=N.length) (m:=a6) underlying22 rfl)<|lp (iv 0) (qaa rfl)<|ln (hK599 _ _ ?_)
 obtain ⟨o290,hl4,f290,hf290,hb⟩:=bn hb
 refine Wc.cut (fun E wv=> ∃(u:Int) (c:List Int) (d:List Int) (T:Option Addr) (f9 U:Nat) (J:Option Addr) (g0 K:Nat),E 2=pg g6∧E 3=iv 0∧E 4=iv z∧E 6=iv z26∧E 19=pg g594∧I64 u∧Cx (fun _=>False) O0 w wv [.box g6 24 [.slice none 0 0,.slice none 0 0],.box g594 24 [.slice T f9 U,.slice J g0 K],.own 3 si (.slice T f9 U) c,.own 3 si (.slice J g0 K) d]∧f290 (u,c,d)=some r) (fun _ hK601=>?_) ?_
 refine Wc.block ?_
 refine Wc.loop (fun m E wv=> ∃(u:Int) (c:List Int) (d:List Int) (T:Option Addr) (f9 U:Nat) (J:Option Addr) (g0 K:Nat),E 2=pg g6∧E 3=iv 0∧E 4=iv z∧E 6=iv z26∧E 7=.slice a8 a2.length a4∧E 19=pg g594∧E 142=.slice a5 N.length a6∧E 143=iv (N.length:Int)∧E 144=iv u∧I64 u∧Cx (fun _=>False) O0 w wv [.box g6 24 [.slice none 0 0,.slice none 0 0],.own 67 (.pr si si) (.slice a8 a2.length a4) b3,.box g594 24 [.slice T f9 U,.slice J g0 K],.own 3 si (.slice T f9 U) c,.own 3 si (.slice J g0 K) d,.own 3 si (.slice a5 N.length a6) N]∧loopN m (F.qbi n N b3) (u,c,d)=some o290) n ⟨0,([]:List Int),([]:List Int),A588,(([]:List Int)).length,c589,A580,(([]:List Int)).length,c581,e2,e3,e4,e6,e7,rfl,rfl,rfl,rfl,(show I64 0 from by unfold I64; omega),hC.sE [3,4,0,1,2,5],hl4⟩ ?_
 have hbK4:=hb
 clear hb hC hl4
 rintro m603 E605 w604 ⟨u,c,d,T,f9,U,J,g0,K,e2,e3,e4,e6,e7,e19,e142,e143,e144,b4,hC,hl4⟩ K602 hK602
 obtain ⟨m603',o606,rfl,hb,hl4⟩:=qan hl4
 unfold F.qbi at hb
 obtain ⟨rfl,m3,m4⟩:=(hC.ow (i:=3) rfl).qad
 obtain ⟨rfl,m5,m6⟩:=(hC.ow (i:=4) rfl).qad
 refine Wc.seq fun _ hK607=>rg<|lp _ (qap e144 e143)<|ln (hK607 _ _ ?_)
 refine Wc.seq fun _ hK608=>?_
 refine Wc.cond (t:=(decide (u<(N.length:Int)))) (rfl) (fun hq609=>?_) (fun hq609=>?_)
 replace hb:=tt hq609 hb
 refine Wc.skip (hK608 _ _ ?_)
 refine Wc.seq fun _ hK610=>?_
 refine Wc.block<|Wc.seq fun _ hK611=>rg ?_
 obtain ⟨x302,h613,hb⟩:=bd hb
 obtain ⟨ad614,cs615,hA,hc616,hr617⟩:=hC.elo (i:=5) rfl (qac h613).2
 subst hA
 refine lp (.pointer (some (ad614.add (u.toNat*1)))) (qaf (a:=u) underlying22 sizeOf3 e142 e144 (qac h613).1) ?_
 obtain ⟨rfl,hr617'⟩:=hr617
 refine lv (iv x302) (qaj isAgg3 rfl (hc616 0 _ rfl))<|lp (iv x302) (qab rfl)<|ln (hK611 _ _ ?_)
 refine Wc.seq fun _ hK618=>?_
 refine Wc.regionMix [154] (frm [154] [.own 3 si (.slice T c.length U) c] [.box g594 24 [.slice T c.length U,.slice J d.length K]]) (fun _=>rfl) mixed (by decide+kernel) (by decide+kernel) fun w620 hw619=>?_
 replace hC:=hC.step (Fr.qbb hw619)
 have hM:=Fr.refl (fun k=>k∈blocks [.own 3 si (.slice T c.length U) c]) w620
 clear hw619
 have hS:=hC
 have j7:Beside [.own 3 si (.slice T c.length U) c] w620 (.slice T c.length U):=Beside.of (i:=0) rfl
 have hD:Fr (fun k=>k∈blocks ([.own 3 si (.slice T c.length U) c]++[.box g594 24 [.slice T c.length U,.slice J d.length K]])) w620 w620:=hM.wide
 have p8:Beside ([.own 3 si (.slice T c.length U) c]++[.box g594 24 [.slice T c.length U,.slice J d.length K]]) w620 (.slice T c.length U):=Beside.of (i:=0) rfl
 have hUf596:g594<w620.heap.size→g594∈blocks ([.own 3 si (.slice T c.length U) c]++[.box g594 24 [.slice T c.length U,.slice J d.length K]]):=fun _=>box_in (i:=1) rfl
 refine mp (.pointer (some ((⟨g594,0,none⟩:Addr).add 0))) (qag (sz:=1) underlying24 rfl sizeOf22 (by decide) rfl e19)<|mixE.load hM (v:=.slice T c.length U) (fun _ hF=>qam (hS.bx2 (i:=2) rfl [3] (by decide) hF) isAgg22 rfl rfl)<|mp (.slice a8 a2.length a4) (qaa e7)<|mp (iv x302) (qaa rfl) ?_
 obtain ⟨x311,h622,hb⟩:=bd hb
 obtain ⟨ad623,cs624,hA,ho627,hc625,hr626⟩:=hS.elo2 (i:=1) rfl (qac h622).2 [3,2] (by decide)
 subst hA
 refine mp (.pointer (some (ad623.add (x302.toNat*2)))) (qaf (a:=x302) underlying33 sizeOf67 rfl rfl (by rw [(hC.ow (i:=1) rfl).qad.1]; exact (qac h622).1)) ?_
 obtain ⟨k628,k629,rfl,hr630,hr631⟩:=hr626
 obtain ⟨rfl,hr630⟩:=hr630
 obtain ⟨rfl,hr631⟩:=hr631
 refine mp (.pointer (some ((ad623.add (x302.toNat*2)).add 0))) (qeh (A:=(ad623.add (x302.toNat*2))) (a:=0) (sz:=1) underlying67 sizeOf3 rfl rfl (by decide))<|mixE.steady hD (v:=iv x311.1) (fun _ hF=>qaj isAgg3 rfl (hF.cell (hc625 0 _ rfl) (off2 ho627)))<|mixE.op hM (hC.lit (s:=si) (vs:=[iv x311.1]) (xs:=[x311.1]) underlying22 type3 rfl rfl (nb rfl) rfl rfl (by simp [Value.cells,Sh.n]) rfl (show Elems _ _ si ([iv x311.1]++([])) ([x311.1]:List Int) from Elems.cons (⟨rfl,I64.wr (qay hr630)⟩) (Elems.nil _ _ _))) ?_
 rintro _ w636 ⟨A632,c633,rfl,hl634,hc635,hC,hF,hN⟩
 have hBf637:=Beside.new hM hN
 have hUf637:=Beside.new (hM.wide (H:=[.box g594 24 [.slice T c.length U,.slice J d.length K]])) hN
 replace hM:=hM.none hF
 replace hD:=hM.wide (H:=[.box g594 24 [.slice T c.length U,.slice J d.length K]])
 refine ⟨hM,?_⟩
 clear hF hN
 obtain ⟨u328,h639,hb⟩:=bd hb
 refine mixE.op hM (hC.app (i:=4) (s:=si) (xs:=c) (ys:=([x311.1]:List Int)) (m:=((([x311.1]:List Int)).length)) rfl underlying22 underlying22 type3 rfl rfl rfl (hC.srco (i:=0) rfl) rfl rfl (by have:=qaw h639; simp at this⊢ <;>omega) (by decide)) ?_
 rintro _ w644 ⟨A640,c641,rfl,hl642,hc643,hC,hF,hN⟩
 have hB:=j7
 replace j7:=hB.app hM hN
 replace hM:=hM.beside hB hF
 clear hB
 replace hD:=hM.wide (H:=[.box g594 24 [.slice T c.length U,.slice J d.length K]])
 refine ⟨hM,?_⟩
 clear hF hN
 refine mp (.pointer (some ((⟨g594,0,none⟩:Addr).add 0))) (qag (sz:=1) underlying24 rfl sizeOf22 (by decide) rfl e19)<|mixE.sk hD (hC.setf (i:=3) (k:=0) (v:=.slice A640 ((c++([x311.1]:List Int)).length) c641) rfl sizeOf22 rfl rfl rfl rfl) ?_
 rintro w645 ⟨hC,hF⟩
 replace hD:=hD.besideG hUf596 hF
 clear hF
 refine ⟨hD,?_⟩
 refine mixE.nil ?_
 clear hS hM
 clear hD
 refine hK618 _ _<|Wc.fresh fun E646 hE=>?_
 have e2:=cg hE 2 e2
 have e3:=cg hE 3 e3
 have e4:=cg hE 4 e4
 have e6:=cg hE 6 e6
 have e7:=cg hE 7 e7
 have e19:=cg hE 19 e19
 have e21:E646 21=iv x302:=cg hE 21 rfl
 have e142:=cg hE 142 e142
 have e143:=cg hE 143 e143
 have e144:=cg hE 144 e144
 have e145:E646 145=.bool (decide (u<(N.length:Int))):=cg hE 145 rfl
 clear hE
 refine Wc.regionMix [164] (frm [164] [.own 3 si (.slice J d.length K) d] [.box g594 24 [.slice A640 ((c++([x311.1]:List Int)).length) c641,.slice J d.length K]]) (fun _=>rfl) mixed (by decide+kernel) (by decide+kernel) fun w648 hw647=>?_
 replace hC:=hC.step (Fr.qbb hw647)
 have hM:=Fr.refl (fun k=>k∈blocks [.own 3 si (.slice J d.length K) d]) w648
 clear hw647
 have hS:=hC
 have j8:Beside [.own 3 si (.slice J d.length K) d] w648 (.slice J d.length K):=Beside.of (i:=0) rfl
 have hD:Fr (fun k=>k∈blocks ([.own 3 si (.slice J d.length K) d]++[.box g594 24 [.slice A640 ((c++([x311.1]:List Int)).length) c641,.slice J d.length K]])) w648 w648:=hM.wide
 have p9:Beside ([.own 3 si (.slice J d.length K) d]++[.box g594 24 [.slice A640 ((c++([x311.1]:List Int)).length) c641,.slice J d.length K]]) w648 (.slice J d.length K):=Beside.of (i:=0) rfl
 have hUf596:g594<w648.heap.size→g594∈blocks ([.own 3 si (.slice J d.length K) d]++[.box g594 24 [.slice A640 ((c++([x311.1]:List Int)).length) c641,.slice J d.length K]]):=fun _=>box_in (i:=1) rfl
 refine mp (.pointer (some ((⟨g594,0,none⟩:Addr).add 1))) (qag (sz:=1) underlying24 rfl sizeOf22 (by decide) rfl e19)<|mixE.load hM (v:=.slice J d.length K) (fun _ hF=>qam (hS.bx2 (i:=3) rfl [5] (by decide) hF) isAgg22 rfl rfl)<|mp (.slice (some ad623) a2.length a4) (qaa e7)<|mp (iv x302) (qaa e21) ?_
 obtain ⟨x339,h650,hb⟩:=bd hb
 obtain ⟨ad651,cs652,hA,ho655,hc653,hr654⟩:=hS.elo2 (i:=2) rfl (qac h650).2 [5,3] (by decide)
 obtain rfl:=Option.some.inj hA
 refine mp (.pointer (some (ad623.add (x302.toNat*2)))) (qaf (a:=x302) underlying33 sizeOf67 rfl rfl (by rw [(hC.ow (i:=2) rfl).qad.1]; exact (qac h650).1)) ?_
 obtain ⟨k656,k657,rfl,hr658,hr659⟩:=hr654
 obtain ⟨rfl,hr658⟩:=hr658
 obtain ⟨rfl,hr659⟩:=hr659
 refine mp (.pointer (some ((ad623.add (x302.toNat*2)).add 1))) (qeh (A:=(ad623.add (x302.toNat*2))) (a:=1) (sz:=1) underlying67 sizeOf3 rfl rfl (by decide))<|mixE.steady hD (v:=iv x339.2) (fun _ hF=>qaj isAgg3 rfl (hF.cell (hc653 1 _ rfl) (off2 ho655)))<|mixE.op hM (hC.lit (s:=si) (vs:=[iv x339.2]) (xs:=[x339.2]) underlying22 type3 rfl rfl (nb rfl) rfl rfl (by simp [Value.cells,Sh.n]) rfl (show Elems _ _ si ([iv x339.2]++([])) ([x339.2]:List Int) from Elems.cons (⟨rfl,I64.wr (qay hr659)⟩) (Elems.nil _ _ _))) ?_
 rintro _ w664 ⟨A660,c661,rfl,hl662,hc663,hC,hF,hN⟩
 have hBf665:=Beside.new hM hN
 have hUf665:=Beside.new (hM.wide (H:=[.box g594 24 [.slice A640 ((c++([x311.1]:List Int)).length) c641,.slice J d.length K]])) hN
 replace hM:=hM.none hF
 replace hD:=hM.wide (H:=[.box g594 24 [.slice A640 ((c++([x311.1]:List Int)).length) c641,.slice J d.length K]])
 refine ⟨hM,?_⟩
 clear hF hN
 obtain ⟨u356,h667,hb⟩:=bd hb
 refine mixE.op hM (hC.app (i:=6) (s:=si) (xs:=d) (ys:=([x339.2]:List Int)) (m:=((([x339.2]:List Int)).length)) rfl underlying22 underlying22 type3 rfl rfl rfl (hC.srco (i:=0) rfl) rfl rfl (by have:=qaw h667; simp at this⊢ <;>omega) (by decide)) ?_
 rintro _ w672 ⟨A668,c669,rfl,hl670,hc671,hC,hF,hN⟩
 have hB:=j8
 replace j8:=hB.app hM hN
 replace hM:=hM.beside hB hF
 clear hB
 replace hD:=hM.wide (H:=[.box g594 24 [.slice A640 ((c++([x311.1]:List Int)).length) c641,.slice J d.length K]])
 refine ⟨hM,?_⟩
 clear hF hN
 refine mp (.pointer (some ((⟨g594,0,none⟩:Addr).add 1))) (qag (sz:=1) underlying24 rfl sizeOf22 (by decide) rfl e19)<|mixE.sk hD (hC.setf (i:=4) (k:=1) (v:=.slice A668 ((d++([x339.2]:List Int)).length) c669) rfl sizeOf22 rfl rfl rfl rfl) ?_
 rintro w673 ⟨hC,hF⟩
 replace hD:=hD.besideG hUf596 hF
 clear hF
 refine ⟨hD,?_⟩
 refine mixE.nil ?_
 clear hS hM
 clear hD
 refine hK610 _ _<|rg ?_
 obtain ⟨z364,h675,hb⟩:=bd hb
 refine lp (iv z364) (qal (a:=u) (b:=1) e144 rfl h675)<|lp (iv z364) (qaa rfl)<|ln ?_
 obtain rfl:=os hb
 exact hK602 m603' _ _ (Nat.lt_succ_self _) ⟨z364,(c++([x311.1]:List Int)),(d++([x339.2]:List Int)),A640,(c++([x311.1]:List Int)).length,c641,A668,(d++([x339.2]:List Int)).length,c669,e2,e3,e4,e6,e7,e19,e142,e143,rfl,(qai h675),hC.sE [2,3,4,5,6,7],lN hl4⟩
 replace hb:=tf hq609 hb
 refine Wc.exit rfl ?_
 obtain rfl:=os hb
 obtain rfl:=(lX hl4).symm
 exact hK601 _ _ ⟨u,c,d,T,c.length,U,J,d.length,K,e2,e3,e4,e6,e19,b4,hC.sE [0,2,3,4],hbK4⟩
 clear hb hC hl4
 rintro E677 w676 ⟨u,c,d,T,f9,U,J,g0,K,e2,e3,e4,e6,e19,b4,hC,hb⟩
 subst hf290
 obtain ⟨rfl,m3,m4⟩:=(hC.ow (i:=2) rfl).qad
 obtain ⟨rfl,m5,m6⟩:=(hC.ow (i:=3) rfl).qad
 refine hK598 _ _ ?_
 refine Wc.seq fun _ hK678=>?_
 refine Wc.seq fun _ hK679=>rg<|lp _ (qaa e4)<|lp (iv 0) (qaa rfl)<|ln (hK679 _ _ ?_)
 obtain ⟨o370,hl5,f370,hf370,hb⟩:=bn hb
 refine Wc.cut (fun E wv=> ∃(p:Int) (f:List Int) (g:List Int) (c6:Option Addr) (g1 c7:Nat) (c8:Option Addr) (g2 c9:Nat),E 2=pg g6∧E 3=iv 0∧E 19=pg g594∧I64 p∧Cx (fun _=>False) O0 w wv [.box g6 24 [.slice none 0 0,.slice none 0 0],.box g594 24 [.slice c6 g1 c7,.slice c8 g2 c9],.own 3 si (.slice c6 g1 c7) f,.own 3 si (.slice c8 g2 c9) g]∧f370 (p,f,g)=some r) (fun _ hK681=>?_) ?_
 refine Wc.block ?_
 refine Wc.loop (fun m E wv=> ∃(p:Int) (f:List Int) (g:List Int) (c6:Option Addr) (g1 c7:Nat) (c8:Option Addr) (g2 c9:Nat),E 2=pg g6∧E 3=iv 0∧E 4=iv z∧E 6=iv z26∧E 19=pg g594∧E 169=iv z∧E 170=iv p∧I64 p∧Cx (fun _=>False) O0 w wv [.box g6 24 [.slice none 0 0,.slice none 0 0],.box g594 24 [.slice c6 g1 c7,.slice c8 g2 c9],.own 3 si (.slice c6 g1 c7) f,.own 3 si (.slice c8 g2 c9) g]∧loopN m (F.qbj n z z26) (p,f,g)=some o370) n ⟨0,c,d,T,c.length,U,J,d.length,K,e2,e3,e4,e6,e19,rfl,rfl,(show I64 0 from by unfold I64; omega),hC.sE [0,1,2,3],hl5⟩ ?_
 have hbK5:=hb
 clear hb hC hl5
 rintro m683 E685 w684 ⟨p,f,g,c6,g1,c7,c8,g2,c9,e2,e3,e4,e6,e19,e169,e170,b5,hC,hl5⟩ K682 hK682
 obtain ⟨m683',o686,rfl,hb,hl5⟩:=qan hl5
 unfold F.qbj at hb
 obtain ⟨rfl,m7,m8⟩:=(hC.ow (i:=2) rfl).qad
 obtain ⟨rfl,m9,n0⟩:=(hC.ow (i:=3) rfl).qad
 refine Wc.seq fun _ hK687=>rg<|lp _ (qap e170 e169)<|ln (hK687 _ _ ?_)
 refine Wc.seq fun _ hK688=>?_
 refine Wc.cond (t:=(decide (p<z))) (rfl) (fun hq689=>?_) (fun hq689=>?_)
 replace hb:=tt hq689 hb
 refine Wc.skip (hK688 _ _ ?_)
 refine Wc.seq fun _ hK690=>?_
 refine Wc.block<|Wc.seq fun _ hK691=>rg<|lp _ (qaa e170)<|lp (iv p) (qab rfl)<|ln (hK691 _ _ ?_)
 refine Wc.seq fun _ hK692=>rg<|lp _ (qaa e4) ?_
 obtain ⟨z383,h694,hb⟩:=bd hb
 refine lp (iv z383) (qbk (a:=z) (b:=1) rfl rfl h694)<|lp (iv p) (qaa rfl) ?_
 obtain ⟨z385,h696,hb⟩:=bd hb
 refine lp (iv z385) (qbk (a:=z383) (b:=p) rfl rfl h696)<|lp (iv z385) (qab rfl)<|ln (hK692 _ _ ?_)
 refine Wc.seq fun _ hK697=>rg<|lp (.pointer (some ((⟨g594,0,none⟩:Addr).add 0))) (qag (sz:=1) underlying24 rfl sizeOf22 (by decide) rfl e19)<|lv (.slice c6 f.length c7) (qam (hC.bx (i:=1) rfl) isAgg22 rfl rfl)<|lp _ (qaa e6) ?_
 obtain ⟨z388,h699,hb⟩:=bd hb
 refine lp (iv z388) (qbk (a:=z26) (b:=1) rfl rfl h699)<|lp (iv z385) (qaa rfl) ?_
 obtain ⟨z390,h701,hb⟩:=bd hb
 refine lp (iv z390) (qbk (a:=z388) (b:=z385) rfl rfl h701)<|lex.op (hC.lit (s:=si) (vs:=[iv z390]) (xs:=[z390]) underlying22 type3 rfl rfl (nb rfl) rfl rfl (by simp [Value.cells,Sh.n]) rfl (show Elems _ _ si ([iv z390]++([])) ([z390]:List Int) from Elems.cons (⟨rfl,I64.wr (qai h701)⟩) (Elems.nil _ _ _))) ?_
 rintro _ w706 ⟨A702,c703,rfl,hl704,hc705,hC,-,-⟩
 obtain ⟨u398,h709,hb⟩:=bd hb
 refine lex.op (hC.app (i:=3) (s:=si) (xs:=f) (ys:=([z390]:List Int)) (m:=((([z390]:List Int)).length)) rfl underlying22 underlying22 type3 rfl rfl rfl (hC.srco (i:=0) rfl) rfl rfl (by have:=qaw h709; simp at this⊢ <;>omega) (by decide)) ?_
 rintro _ w714 ⟨A710,c711,rfl,hl712,hc713,hC,-,-⟩
 refine lp (.pointer (some ((⟨g594,0,none⟩:Addr).add 0))) (qag (sz:=1) underlying24 rfl sizeOf22 (by decide) rfl e19)<|lex.sk (hC.setf (i:=2) (k:=0) (v:=.slice A710 ((f++([z390]:List Int)).length) c711) rfl sizeOf22 rfl rfl rfl rfl) ?_
 rintro w715 ⟨hC,hF⟩
 refine ln (hK697 _ _ ?_)
 refine Wc.fresh fun E716 hE=>?_
 have e2:=cg hE 2 e2
 have e3:=cg hE 3 e3
 have e4:=cg hE 4 e4
 have e6:=cg hE 6 e6
 have e19:=cg hE 19 e19
 have e22:E716 22=iv p:=cg hE 22 rfl
 have e23:E716 23=iv z385:=cg hE 23 rfl
 have e169:=cg hE 169 e169
 have e170:=cg hE 170 e170
 have e171:E716 171=.bool (decide (p<z)):=cg hE 171 rfl
 clear hE
 refine rg<|lp (.pointer (some ((⟨g594,0,none⟩:Addr).add 1))) (qag (sz:=1) underlying24 rfl sizeOf22 (by decide) rfl e19)<|lv (.slice c8 g.length c9) (qam (hC.bx (i:=2) rfl) isAgg22 rfl rfl)<|lp _ (qaa e23)<|lex.op (hC.lit (s:=si) (vs:=[iv z385]) (xs:=[z385]) underlying22 type3 rfl rfl (nb rfl) rfl rfl (by simp [Value.cells,Sh.n]) rfl (show Elems _ _ si ([iv z385]++([])) ([z385]:List Int) from Elems.cons (⟨rfl,I64.wr (qai h696)⟩) (Elems.nil _ _ _))) ?_
 rintro _ w721 ⟨A717,c718,rfl,hl719,hc720,hC,-,-⟩
 obtain ⟨u413,h724,hb⟩:=bd hb
 refine lex.op (hC.app (i:=5) (s:=si) (xs:=g) (ys:=([z385]:List Int)) (m:=((([z385]:List Int)).length)) rfl underlying22 underlying22 type3 rfl rfl rfl (hC.srco (i:=0) rfl) rfl rfl (by have:=qaw h724; simp at this⊢ <;>omega) (by decide)) ?_
 rintro _ w729 ⟨A725,c726,rfl,hl727,hc728,hC,-,-⟩
 refine lp (.pointer (some ((⟨g594,0,none⟩:Addr).add 1))) (qag (sz:=1) underlying24 rfl sizeOf22 (by decide) rfl e19)<|lex.sk (hC.setf (i:=3) (k:=1) (v:=.slice A725 ((g++([z385]:List Int)).length) c726) rfl sizeOf22 rfl rfl rfl rfl) ?_
 rintro w730 ⟨hC,hF⟩
 refine ln (hK690 _ _ ?_)
 refine rg ?_
 obtain ⟨z421,h732,hb⟩:=bd hb
 refine lp (iv z421) (qal (a:=p) (b:=1) e170 rfl h732)<|lp (iv z421) (qaa rfl)<|ln ?_
 obtain rfl:=os hb
 exact hK682 m683' _ _ (Nat.lt_succ_self _) ⟨z421,(f++([z390]:List Int)),(g++([z385]:List Int)),A710,(f++([z390]:List Int)).length,c711,A725,(g++([z385]:List Int)).length,c726,e2,e3,e4,e6,e19,e169,rfl,(qai h732),hC.sE [2,3,4,5],lN hl5⟩
 replace hb:=tf hq689 hb
 refine Wc.exit rfl ?_
 obtain rfl:=os hb
 obtain rfl:=(lX hl5).symm
 exact hK681 _ _ ⟨p,f,g,c6,f.length,c7,c8,g.length,c9,e2,e3,e19,b5,hC.sE [0,1,2,3],hbK5⟩
 clear hb hC hl5
 rintro E734 w733 ⟨p,f,g,c6,g1,c7,c8,g2,c9,e2,e3,e19,b5,hC,hb⟩
 subst hf370
 obtain ⟨rfl,m7,m8⟩:=(hC.ow (i:=2) rfl).qad
 obtain ⟨rfl,m9,n0⟩:=(hC.ow (i:=3) rfl).qad
 refine hK678 _ _<|Wc.seq fun _ hK735=>rg<|lv (.agg #[.slice c6 f.length c7,.slice c8 g.length c9]) (qbs (hC.bx (i:=1) rfl) isAgg24 sizeOf24 e19)<|lex.sk (hC.seta (i:=0) (ds:=[.slice c6 f.length c7,.slice c8 g.length c9]) rfl type24 rfl rfl rfl e2 rfl) ?_
 rintro w736 ⟨hC,hF⟩
 refine lp (iv 0) (qab rfl)<|ln (hK735 _ _ ?_)
 obtain rfl:=os hb
 refine Wc.ret (hKR _ _ ?_)
 refine ⟨_,res2 results18 ⟨_,e2,qch (hC.bx (i:=0) rfl) isAgg24 sizeOf24⟩ (tV (iv 0) rfl),_,rfl,c6,f.length,c7,c8,g.length,c9,rfl,(show I64 0 from by unfold I64; omega),hC.sE [2,3]⟩
 refine qae ?_
 refine mixE.op hM (hC.alloc (cs:=[.slice none 0 0,.slice none 0 0]) zeroValue24 rfl) ?_
 rintro _ w738 ⟨g737,rfl,hC,hF,hG⟩
 have hUf739:g737<w267.heap.size→g737∈blocks (([]:List Fact)++([]:List Fact)):=fun h=>absurd (Nat.lt_of_lt_of_le h (Nat.le_trans hM.size hG)) (Nat.lt_irrefl _)
 clear hG
 replace hM:=hM.none hF
 replace hD:=hM.wide (H:=([]:List Fact))
 refine ⟨hM,?_⟩
 refine mixE.nil ?_
 refine qae ?_
 obtain ⟨u276,h741,hb⟩:=bd hb
 refine mixE.op hM (hC.make0 (s:=si) (n:=z26) underlying22 type3 rfl rfl rfl rfl (qah h741).1 (qah h741).2 (by decide)) ?_
 rintro _ w746 ⟨A742,c743,rfl,hl744,hc745,hC,hF,hN⟩
 have hBf747:=Beside.new hM hN
 have hUf747:=Beside.new (hM.wide (H:=([]:List Fact))) hN
 replace hM:=hM.none hF
 replace hD:=hM.wide (H:=([]:List Fact))
 refine ⟨hM,?_⟩
 clear hF hN
 refine mp (.agg #[.slice A742 ((([]:List Int)).length) c743,.slice A580 ((([]:List Int)).length) c581]) (qbr (places:=[(0,1),(1,1)]) (pv:=[(0,.slice A742 ((([]:List Int)).length) c743),(1,.slice A580 ((([]:List Int)).length) c581)]) type24 underlying24 rfl (qar type22 (qar type22 qco rfl rfl) rfl rfl) rfl (by simp [Instr.fill,Value.cells]))<|mixE.sk hD (hC.seta (i:=1) (ds:=[.slice A742 ((([]:List Int)).length) c743,.slice A580 ((([]:List Int)).length) c581]) rfl type24 rfl rfl rfl rfl rfl) ?_
 rintro w748 ⟨hC,hF⟩
 replace hD:=hD.besideG hUf739 hF
 clear hF
 refine ⟨hD,?_⟩
 refine mixE.nil ?_
 clear hS hM
 clear hD
 refine hK265 _ _ ?_
 refine Wc.seq fun _ hK749=>?_
 refine Wc.seq fun _ hK750=>rg<|lp _ (qaa e8)<|lp (iv (N.length:Int)) (qao (A:=a5) (n:=N.length) (m:=a6) underlying22 rfl)<|lp (iv 0) (qaa rfl)<|ln (hK750 _ _ ?_)
 obtain ⟨o290,hl4,f290,hf290,hb⟩:=bn hb
 refine Wc.cut (fun E wv=> ∃(u:Int) (c:List Int) (d:List Int) (V:Option Addr) (g4 X:Nat) (L:Option Addr) (g5 M:Nat),E 2=pg g6∧E 3=iv 0∧E 4=iv z∧E 6=iv z26∧E 19=pg g737∧I64 u∧Cx (fun _=>False) O0 w wv [.box g6 24 [.slice none 0 0,.slice none 0 0],.box g737 24 [.slice V g4 X,.slice L g5 M],.own 3 si (.slice V g4 X) c,.own 3 si (.slice L g5 M) d]∧f290 (u,c,d)=some r) (fun _ hK752=>?_) ?_
 refine Wc.block ?_
 refine Wc.loop (fun m E wv=> ∃(u:Int) (c:List Int) (d:List Int) (V:Option Addr) (g4 X:Nat) (L:Option Addr) (g5 M:Nat),E 2=pg g6∧E 3=iv 0∧E 4=iv z∧E 6=iv z26∧E 7=.slice a8 a2.length a4∧E 19=pg g737∧E 142=.slice a5 N.length a6∧E 143=iv (N.length:Int)∧E 144=iv u∧I64 u∧Cx (fun _=>False) O0 w wv [.box g6 24 [.slice none 0 0,.slice none 0 0],.own 67 (.pr si si) (.slice a8 a2.length a4) b3,.box g737 24 [.slice V g4 X,.slice L g5 M],.own 3 si (.slice V g4 X) c,.own 3 si (.slice L g5 M) d,.own 3 si (.slice a5 N.length a6) N]∧loopN m (F.qbi n N b3) (u,c,d)=some o290) n ⟨0,([]:List Int),([]:List Int),A742,(([]:List Int)).length,c743,A580,(([]:List Int)).length,c581,e2,e3,e4,e6,e7,rfl,rfl,rfl,rfl,(show I64 0 from by unfold I64; omega),hC.sE [3,4,1,0,2,5],hl4⟩ ?_
 have hbK4:=hb
 clear hb hC hl4
 rintro m754 E756 w755 ⟨u,c,d,V,g4,X,L,g5,M,e2,e3,e4,e6,e7,e19,e142,e143,e144,b4,hC,hl4⟩ K753 hK753
 obtain ⟨m754',o757,rfl,hb,hl4⟩:=qan hl4
 unfold F.qbi at hb
 obtain ⟨rfl,n1,n2⟩:=(hC.ow (i:=3) rfl).qad
 obtain ⟨rfl,n3,n4⟩:=(hC.ow (i:=4) rfl).qad
 refine Wc.seq fun _ hK758=>rg<|lp _ (qap e144 e143)<|ln (hK758 _ _ ?_)
 refine Wc.seq fun _ hK759=>?_
 refine Wc.cond (t:=(decide (u<(N.length:Int)))) (rfl) (fun hq760=>?_) (fun hq760=>?_)
 replace hb:=tt hq760 hb
 refine Wc.skip (hK759 _ _ ?_)
 refine Wc.seq fun _ hK761=>?_
 refine Wc.block<|Wc.seq fun _ hK762=>rg ?_
 obtain ⟨x302,h764,hb⟩:=bd hb
 obtain ⟨ad765,cs766,hA,hc767,hr768⟩:=hC.elo (i:=5) rfl (qac h764).2
 subst hA
 refine lp (.pointer (some (ad765.add (u.toNat*1)))) (qaf (a:=u) underlying22 sizeOf3 e142 e144 (qac h764).1) ?_
 obtain ⟨rfl,hr768'⟩:=hr768
 refine lv (iv x302) (qaj isAgg3 rfl (hc767 0 _ rfl))<|lp (iv x302) (qab rfl)<|ln (hK762 _ _ ?_)
 refine Wc.seq fun _ hK769=>?_
 refine Wc.regionMix [154] (frm [154] [.own 3 si (.slice V c.length X) c] [.box g737 24 [.slice V c.length X,.slice L d.length M]]) (fun _=>rfl) mixed (by decide+kernel) (by decide+kernel) fun w771 hw770=>?_
 replace hC:=hC.step (Fr.qbb hw770)
 have hM:=Fr.refl (fun k=>k∈blocks [.own 3 si (.slice V c.length X) c]) w771
 clear hw770
 have hS:=hC
 have j9:Beside [.own 3 si (.slice V c.length X) c] w771 (.slice V c.length X):=Beside.of (i:=0) rfl
 have hD:Fr (fun k=>k∈blocks ([.own 3 si (.slice V c.length X) c]++[.box g737 24 [.slice V c.length X,.slice L d.length M]])) w771 w771:=hM.wide
 have q0:Beside ([.own 3 si (.slice V c.length X) c]++[.box g737 24 [.slice V c.length X,.slice L d.length M]]) w771 (.slice V c.length X):=Beside.of (i:=0) rfl
 have hUf739:g737<w771.heap.size→g737∈blocks ([.own 3 si (.slice V c.length X) c]++[.box g737 24 [.slice V c.length X,.slice L d.length M]]):=fun _=>box_in (i:=1) rfl
 refine mp (.pointer (some ((⟨g737,0,none⟩:Addr).add 0))) (qag (sz:=1) underlying24 rfl sizeOf22 (by decide) rfl e19)<|mixE.load hM (v:=.slice V c.length X) (fun _ hF=>qam (hS.bx2 (i:=2) rfl [3] (by decide) hF) isAgg22 rfl rfl)<|mp (.slice a8 a2.length a4) (qaa e7)<|mp (iv x302) (qaa rfl) ?_
 obtain ⟨x311,h773,hb⟩:=bd hb
 obtain ⟨ad774,cs775,hA,ho778,hc776,hr777⟩:=hS.elo2 (i:=1) rfl (qac h773).2 [3,2] (by decide)
 subst hA
 refine mp (.pointer (some (ad774.add (x302.toNat*2)))) (qaf (a:=x302) underlying33 sizeOf67 rfl rfl (by rw [(hC.ow (i:=1) rfl).qad.1]; exact (qac h773).1)) ?_
 obtain ⟨k779,k780,rfl,hr781,hr782⟩:=hr777
 obtain ⟨rfl,hr781⟩:=hr781
 obtain ⟨rfl,hr782⟩:=hr782
 refine mp (.pointer (some ((ad774.add (x302.toNat*2)).add 0))) (qeh (A:=(ad774.add (x302.toNat*2))) (a:=0) (sz:=1) underlying67 sizeOf3 rfl rfl (by decide))<|mixE.steady hD (v:=iv x311.1) (fun _ hF=>qaj isAgg3 rfl (hF.cell (hc776 0 _ rfl) (off2 ho778)))<|mixE.op hM (hC.lit (s:=si) (vs:=[iv x311.1]) (xs:=[x311.1]) underlying22 type3 rfl rfl (nb rfl) rfl rfl (by simp [Value.cells,Sh.n]) rfl (show Elems _ _ si ([iv x311.1]++([])) ([x311.1]:List Int) from Elems.cons (⟨rfl,I64.wr (qay hr781)⟩) (Elems.nil _ _ _))) ?_
 rintro _ w787 ⟨A783,c784,rfl,hl785,hc786,hC,hF,hN⟩
 have hBf788:=Beside.new hM hN
 have hUf788:=Beside.new (hM.wide (H:=[.box g737 24 [.slice V c.length X,.slice L d.length M]])) hN
 replace hM:=hM.none hF
 replace hD:=hM.wide (H:=[.box g737 24 [.slice V c.length X,.slice L d.length M]])
 refine ⟨hM,?_⟩
 clear hF hN
 obtain ⟨u328,h790,hb⟩:=bd hb
 refine mixE.op hM (hC.app (i:=4) (s:=si) (xs:=c) (ys:=([x311.1]:List Int)) (m:=((([x311.1]:List Int)).length)) rfl underlying22 underlying22 type3 rfl rfl rfl (hC.srco (i:=0) rfl) rfl rfl (by have:=qaw h790; simp at this⊢ <;>omega) (by decide)) ?_
 rintro _ w795 ⟨A791,c792,rfl,hl793,hc794,hC,hF,hN⟩
 have hB:=j9
 replace j9:=hB.app hM hN
 replace hM:=hM.beside hB hF
 clear hB
 replace hD:=hM.wide (H:=[.box g737 24 [.slice V c.length X,.slice L d.length M]])
 refine ⟨hM,?_⟩
 clear hF hN
 refine mp (.pointer (some ((⟨g737,0,none⟩:Addr).add 0))) (qag (sz:=1) underlying24 rfl sizeOf22 (by decide) rfl e19)<|mixE.sk hD (hC.setf (i:=3) (k:=0) (v:=.slice A791 ((c++([x311.1]:List Int)).length) c792) rfl sizeOf22 rfl rfl rfl rfl) ?_
 rintro w796 ⟨hC,hF⟩
 replace hD:=hD.besideG hUf739 hF
 clear hF
 refine ⟨hD,?_⟩
 refine mixE.nil ?_
 clear hS hM
 clear hD
 refine hK769 _ _<|Wc.fresh fun E797 hE=>?_
 have e2:=cg hE 2 e2
 have e3:=cg hE 3 e3
 have e4:=cg hE 4 e4
 have e6:=cg hE 6 e6
 have e7:=cg hE 7 e7
 have e19:=cg hE 19 e19
 have e21:E797 21=iv x302:=cg hE 21 rfl
 have e142:=cg hE 142 e142
 have e143:=cg hE 143 e143
 have e144:=cg hE 144 e144
 have e145:E797 145=.bool (decide (u<(N.length:Int))):=cg hE 145 rfl
 clear hE
 refine Wc.regionMix [164] (frm [164] [.own 3 si (.slice L d.length M) d] [.box g737 24 [.slice A791 ((c++([x311.1]:List Int)).length) c792,.slice L d.length M]]) (fun _=>rfl) mixed (by decide+kernel) (by decide+kernel) fun w799 hw798=>?_
 replace hC:=hC.step (Fr.qbb hw798)
 have hM:=Fr.refl (fun k=>k∈blocks [.own 3 si (.slice L d.length M) d]) w799
 clear hw798
 have hS:=hC
 have k0:Beside [.own 3 si (.slice L d.length M) d] w799 (.slice L d.length M):=Beside.of (i:=0) rfl
 have hD:Fr (fun k=>k∈blocks ([.own 3 si (.slice L d.length M) d]++[.box g737 24 [.slice A791 ((c++([x311.1]:List Int)).length) c792,.slice L d.length M]])) w799 w799:=hM.wide
 have q1:Beside ([.own 3 si (.slice L d.length M) d]++[.box g737 24 [.slice A791 ((c++([x311.1]:List Int)).length) c792,.slice L d.length M]]) w799 (.slice L d.length M):=Beside.of (i:=0) rfl
 have hUf739:g737<w799.heap.size→g737∈blocks ([.own 3 si (.slice L d.length M) d]++[.box g737 24 [.slice A791 ((c++([x311.1]:List Int)).length) c792,.slice L d.length M]]):=fun _=>box_in (i:=1) rfl
 refine mp (.pointer (some ((⟨g737,0,none⟩:Addr).add 1))) (qag (sz:=1) underlying24 rfl sizeOf22 (by decide) rfl e19)<|mixE.load hM (v:=.slice L d.length M) (fun _ hF=>qam (hS.bx2 (i:=3) rfl [5] (by decide) hF) isAgg22 rfl rfl)<|mp (.slice (some ad774) a2.length a4) (qaa e7)<|mp (iv x302) (qaa e21) ?_
 obtain ⟨x339,h801,hb⟩:=bd hb
 obtain ⟨ad802,cs803,hA,ho806,hc804,hr805⟩:=hS.elo2 (i:=2) rfl (qac h801).2 [5,3] (by decide)
 obtain rfl:=Option.some.inj hA
 refine mp (.pointer (some (ad774.add (x302.toNat*2)))) (qaf (a:=x302) underlying33 sizeOf67 rfl rfl (by rw [(hC.ow (i:=2) rfl).qad.1]; exact (qac h801).1)) ?_
 obtain ⟨k807,k808,rfl,hr809,hr810⟩:=hr805
 obtain ⟨rfl,hr809⟩:=hr809
 obtain ⟨rfl,hr810⟩:=hr810
 refine mp (.pointer (some ((ad774.add (x302.toNat*2)).add 1))) (qeh (A:=(ad774.add (x302.toNat*2))) (a:=1) (sz:=1) underlying67 sizeOf3 rfl rfl (by decide))<|mixE.steady hD (v:=iv x339.2) (fun _ hF=>qaj isAgg3 rfl (hF.cell (hc804 1 _ rfl) (off2 ho806)))<|mixE.op hM (hC.lit (s:=si) (vs:=[iv x339.2]) (xs:=[x339.2]) underlying22 type3 rfl rfl (nb rfl) rfl rfl (by simp [Value.cells,Sh.n]) rfl (show Elems _ _ si ([iv x339.2]++([])) ([x339.2]:List Int) from Elems.cons (⟨rfl,I64.wr (qay hr810)⟩) (Elems.nil _ _ _))) ?_
 rintro _ w815 ⟨A811,c812,rfl,hl813,hc814,hC,hF,hN⟩
 have hBf816:=Beside.new hM hN
 have hUf816:=Beside.new (hM.wide (H:=[.box g737 24 [.slice A791 ((c++([x311.1]:List Int)).length) c792,.slice L d.length M]])) hN
 replace hM:=hM.none hF
 replace hD:=hM.wide (H:=[.box g737 24 [.slice A791 ((c++([x311.1]:List Int)).length) c792,.slice L d.length M]])
 refine ⟨hM,?_⟩
 clear hF hN
 obtain ⟨u356,h818,hb⟩:=bd hb
 refine mixE.op hM (hC.app (i:=6) (s:=si) (xs:=d) (ys:=([x339.2]:List Int)) (m:=((([x339.2]:List Int)).length)) rfl underlying22 underlying22 type3 rfl rfl rfl (hC.srco (i:=0) rfl) rfl rfl (by have:=qaw h818; simp at this⊢ <;>omega) (by decide)) ?_
 rintro _ w823 ⟨A819,c820,rfl,hl821,hc822,hC,hF,hN⟩
 have hB:=k0
 replace k0:=hB.app hM hN
 replace hM:=hM.beside hB hF
 clear hB
 replace hD:=hM.wide (H:=[.box g737 24 [.slice A791 ((c++([x311.1]:List Int)).length) c792,.slice L d.length M]])
 refine ⟨hM,?_⟩
 clear hF hN
 refine mp (.pointer (some ((⟨g737,0,none⟩:Addr).add 1))) (qag (sz:=1) underlying24 rfl sizeOf22 (by decide) rfl e19)<|mixE.sk hD (hC.setf (i:=4) (k:=1) (v:=.slice A819 ((d++([x339.2]:List Int)).length) c820) rfl sizeOf22 rfl rfl rfl rfl) ?_
 rintro w824 ⟨hC,hF⟩
 replace hD:=hD.besideG hUf739 hF
 clear hF
 refine ⟨hD,?_⟩
 refine mixE.nil ?_
 clear hS hM
 clear hD
 refine hK761 _ _<|rg ?_
 obtain ⟨z364,h826,hb⟩:=bd hb
 refine lp (iv z364) (qal (a:=u) (b:=1) e144 rfl h826)<|lp (iv z364) (qaa rfl)<|ln ?_
 obtain rfl:=os hb
 exact hK753 m754' _ _ (Nat.lt_succ_self _) ⟨z364,(c++([x311.1]:List Int)),(d++([x339.2]:List Int)),A791,(c++([x311.1]:List Int)).length,c792,A819,(d++([x339.2]:List Int)).length,c820,e2,e3,e4,e6,e7,e19,e142,e143,rfl,(qai h826),hC.sE [2,3,4,5,6,7],lN hl4⟩
 replace hb:=tf hq760 hb
 refine Wc.exit rfl ?_
 obtain rfl:=os hb
 obtain rfl:=(lX hl4).symm
 exact hK752 _ _ ⟨u,c,d,V,c.length,X,L,d.length,M,e2,e3,e4,e6,e19,b4,hC.sE [0,2,3,4],hbK4⟩
 clear hb hC hl4
 rintro E828 w827 ⟨u,c,d,V,g4,X,L,g5,M,e2,e3,e4,e6,e19,b4,hC,hb⟩
 subst hf290
 obtain ⟨rfl,n1,n2⟩:=(hC.ow (i:=2) rfl).qad
 obtain ⟨rfl,n3,n4⟩:=(hC.ow (i:=3) rfl).qad
 refine hK749 _ _ ?_
 refine Wc.seq fun _ hK829=>?_
 refine Wc.seq fun _ hK830=>rg<|lp _ (qaa e4)<|lp (iv 0) (qaa rfl)<|ln (hK830 _ _ ?_)
 obtain ⟨o370,hl5,f370,hf370,hb⟩:=bn hb
 refine Wc.cut (fun E wv=> ∃(p:Int) (f:List Int) (g:List Int) (d0:Option Addr) (g7 d1:Nat) (d2:Option Addr) (g8 d3:Nat),E 2=pg g6∧E 3=iv 0∧E 19=pg g737∧I64 p∧Cx (fun _=>False) O0 w wv [.box g6 24 [.slice none 0 0,.slice none 0 0],.box g737 24 [.slice d0 g7 d1,.slice d2 g8 d3],.own 3 si (.slice d0 g7 d1) f,.own 3 si (.slice d2 g8 d3) g]∧f370 (p,f,g)=some r) (fun _ hK832=>?_) ?_
 refine Wc.block ?_
 refine Wc.loop (fun m E wv=> ∃(p:Int) (f:List Int) (g:List Int) (d0:Option Addr) (g7 d1:Nat) (d2:Option Addr) (g8 d3:Nat),E 2=pg g6∧E 3=iv 0∧E 4=iv z∧E 6=iv z26∧E 19=pg g737∧E 169=iv z∧E 170=iv p∧I64 p∧Cx (fun _=>False) O0 w wv [.box g6 24 [.slice none 0 0,.slice none 0 0],.box g737 24 [.slice d0 g7 d1,.slice d2 g8 d3],.own 3 si (.slice d0 g7 d1) f,.own 3 si (.slice d2 g8 d3) g]∧loopN m (F.qbj n z z26) (p,f,g)=some o370) n ⟨0,c,d,V,c.length,X,L,d.length,M,e2,e3,e4,e6,e19,rfl,rfl,(show I64 0 from by unfold I64; omega),hC.sE [0,1,2,3],hl5⟩ ?_
 have hbK5:=hb
 clear hb hC hl5
 rintro m834 E836 w835 ⟨p,f,g,d0,g7,d1,d2,g8,d3,e2,e3,e4,e6,e19,e169,e170,b5,hC,hl5⟩ K833 hK833
 obtain ⟨m834',o837,rfl,hb,hl5⟩:=qan hl5
 unfold F.qbj at hb
 obtain ⟨rfl,n5,n6⟩:=(hC.ow (i:=2) rfl).qad
 obtain ⟨rfl,n7,n8⟩:=(hC.ow (i:=3) rfl).qad
 refine Wc.seq fun _ hK838=>rg<|lp _ (qap e170 e169)<|ln (hK838 _ _ ?_)
 refine Wc.seq fun _ hK839=>?_
 refine Wc.cond (t:=(decide (p<z))) (rfl) (fun hq840=>?_) (fun hq840=>?_)
 replace hb:=tt hq840 hb
 refine Wc.skip (hK839 _ _ ?_)
 refine Wc.seq fun _ hK841=>?_
 refine Wc.block<|Wc.seq fun _ hK842=>rg<|lp _ (qaa e170)<|lp (iv p) (qab rfl)<|ln (hK842 _ _ ?_)
 refine Wc.seq fun _ hK843=>rg<|lp _ (qaa e4) ?_
 obtain ⟨z383,h845,hb⟩:=bd hb
 refine lp (iv z383) (qbk (a:=z) (b:=1) rfl rfl h845)<|lp (iv p) (qaa rfl) ?_
 obtain ⟨z385,h847,hb⟩:=bd hb
 refine lp (iv z385) (qbk (a:=z383) (b:=p) rfl rfl h847)<|lp (iv z385) (qab rfl)<|ln (hK843 _ _ ?_)
 refine Wc.seq fun _ hK848=>rg<|lp (.pointer (some ((⟨g737,0,none⟩:Addr).add 0))) (qag (sz:=1) underlying24 rfl sizeOf22 (by decide) rfl e19)<|lv (.slice d0 f.length d1) (qam (hC.bx (i:=1) rfl) isAgg22 rfl rfl)<|lp _ (qaa e6) ?_
 obtain ⟨z388,h850,hb⟩:=bd hb
 refine lp (iv z388) (qbk (a:=z26) (b:=1) rfl rfl h850)<|lp (iv z385) (qaa rfl) ?_
 obtain ⟨z390,h852,hb⟩:=bd hb
 refine lp (iv z390) (qbk (a:=z388) (b:=z385) rfl rfl h852)<|lex.op (hC.lit (s:=si) (vs:=[iv z390]) (xs:=[z390]) underlying22 type3 rfl rfl (nb rfl) rfl rfl (by simp [Value.cells,Sh.n]) rfl (show Elems _ _ si ([iv z390]++([])) ([z390]:List Int) from Elems.cons (⟨rfl,I64.wr (qai h852)⟩) (Elems.nil _ _ _))) ?_
 rintro _ w857 ⟨A853,c854,rfl,hl855,hc856,hC,-,-⟩
 obtain ⟨u398,h860,hb⟩:=bd hb
 refine lex.op (hC.app (i:=3) (s:=si) (xs:=f) (ys:=([z390]:List Int)) (m:=((([z390]:List Int)).length)) rfl underlying22 underlying22 type3 rfl rfl rfl (hC.srco (i:=0) rfl) rfl rfl (by have:=qaw h860; simp at this⊢ <;>omega) (by decide)) ?_
 rintro _ w865 ⟨A861,c862,rfl,hl863,hc864,hC,-,-⟩
 refine lp (.pointer (some ((⟨g737,0,none⟩:Addr).add 0))) (qag (sz:=1) underlying24 rfl sizeOf22 (by decide) rfl e19)<|lex.sk (hC.setf (i:=2) (k:=0) (v:=.slice A861 ((f++([z390]:List Int)).length) c862) rfl sizeOf22 rfl rfl rfl rfl) ?_
 rintro w866 ⟨hC,hF⟩
 refine ln (hK848 _ _ ?_)
 refine Wc.fresh fun E867 hE=>?_
 have e2:=cg hE 2 e2
 have e3:=cg hE 3 e3
 have e4:=cg hE 4 e4
 have e6:=cg hE 6 e6
 have e19:=cg hE 19 e19
 have e22:E867 22=iv p:=cg hE 22 rfl
 have e23:E867 23=iv z385:=cg hE 23 rfl
 have e169:=cg hE 169 e169
 have e170:=cg hE 170 e170
 have e171:E867 171=.bool (decide (p<z)):=cg hE 171 rfl
 clear hE
 refine rg<|lp (.pointer (some ((⟨g737,0,none⟩:Addr).add 1))) (qag (sz:=1) underlying24 rfl sizeOf22 (by decide) rfl e19)<|lv (.slice d2 g.length d3) (qam (hC.bx (i:=2) rfl) isAgg22 rfl rfl)<|lp _ (qaa e23)<|lex.op (hC.lit (s:=si) (vs:=[iv z385]) (xs:=[z385]) underlying22 type3 rfl rfl (nb rfl) rfl rfl (by simp [Value.cells,Sh.n]) rfl (show Elems _ _ si ([iv z385]++([])) ([z385]:List Int) from Elems.cons (⟨rfl,I64.wr (qai h847)⟩) (Elems.nil _ _ _))) ?_
 rintro _ w872 ⟨A868,c869,rfl,hl870,hc871,hC,-,-⟩
 obtain ⟨u413,h875,hb⟩:=bd hb
 refine lex.op (hC.app (i:=5) (s:=si) (xs:=g) (ys:=([z385]:List Int)) (m:=((([z385]:List Int)).length)) rfl underlying22 underlying22 type3 rfl rfl rfl (hC.srco (i:=0) rfl) rfl rfl (by have:=qaw h875; simp at this⊢ <;>omega) (by decide)) ?_
 rintro _ w880 ⟨A876,c877,rfl,hl878,hc879,hC,-,-⟩
 refine lp (.pointer (some ((⟨g737,0,none⟩:Addr).add 1))) (qag (sz:=1) underlying24 rfl sizeOf22 (by decide) rfl e19)<|lex.sk (hC.setf (i:=3) (k:=1) (v:=.slice A876 ((g++([z385]:List Int)).length) c877) rfl sizeOf22 rfl rfl rfl rfl) ?_
 rintro w881 ⟨hC,hF⟩
 refine ln (hK841 _ _ ?_)
 refine rg ?_
 obtain ⟨z421,h883,hb⟩:=bd hb
 refine lp (iv z421) (qal (a:=p) (b:=1) e170 rfl h883)<|lp (iv z421) (qaa rfl)<|ln ?_
 obtain rfl:=os hb
 exact hK833 m834' _ _ (Nat.lt_succ_self _) ⟨z421,(f++([z390]:List Int)),(g++([z385]:List Int)),A861,(f++([z390]:List Int)).length,c862,A876,(g++([z385]:List Int)).length,c877,e2,e3,e4,e6,e19,e169,rfl,(qai h883),hC.sE [2,3,4,5],lN hl5⟩
 replace hb:=tf hq840 hb
 refine Wc.exit rfl ?_
 obtain rfl:=os hb
 obtain rfl:=(lX hl5).symm
 exact hK832 _ _ ⟨p,f,g,d0,f.length,d1,d2,g.length,d3,e2,e3,e19,b5,hC.sE [0,1,2,3],hbK5⟩
 clear hb hC hl5
 rintro E885 w884 ⟨p,f,g,d0,g7,d1,d2,g8,d3,e2,e3,e19,b5,hC,hb⟩
 subst hf370
 obtain ⟨rfl,n5,n6⟩:=(hC.ow (i:=2) rfl).qad
 obtain ⟨rfl,n7,n8⟩:=(hC.ow (i:=3) rfl).qad
 refine hK829 _ _<|Wc.seq fun _ hK886=>rg<|lv (.agg #[.slice d0 f.length d1,.slice d2 g.length d3]) (qbs (hC.bx (i:=1) rfl) isAgg24 sizeOf24 e19)<|lex.sk (hC.seta (i:=0) (ds:=[.slice d0 f.length d1,.slice d2 g.length d3]) rfl type24 rfl rfl rfl e2 rfl) ?_
 rintro w887 ⟨hC,hF⟩
 refine lp (iv 0) (qab rfl)<|ln (hK886 _ _ ?_)
 obtain rfl:=os hb
 refine Wc.ret (hKR _ _ ?_)
 refine ⟨_,res2 results18 ⟨_,e2,qch (hC.bx (i:=0) rfl) isAgg24 sizeOf24⟩ (tV (iv 0) rfl),_,rfl,d0,f.length,d1,d2,g.length,d3,rfl,(show I64 0 from by unfold I64; omega),hC.sE [2,3]⟩
 refine qae ?_
 refine mixE.op hM (hC.alloc (cs:=[.slice none 0 0,.slice none 0 0]) zeroValue24 rfl) ?_
 rintro _ w889 ⟨g888,rfl,hC,hF,hG⟩
 have hUf890:g888<w267.heap.size→g888∈blocks (([]:List Fact)++([]:List Fact)):=fun h=>absurd (Nat.lt_of_lt_of_le h (Nat.le_trans hM.size hG)) (Nat.lt_irrefl _)
 clear hG
 replace hM:=hM.none hF
 replace hD:=hM.wide (H:=([]:List Fact))
 refine ⟨hM,?_⟩
 refine mixE.nil ?_
 refine qbd ?_ ?_
 refine qae ?_
 obtain ⟨u268,h892,hb⟩:=bd hb
 refine mixE.op hM (hC.make0 (s:=si) (n:=z26) underlying22 type3 rfl rfl rfl rfl (qah h892).1 (qah h892).2 (by decide)) ?_
 rintro _ w897 ⟨A893,c894,rfl,hl895,hc896,hC,hF,hN⟩
 have hBf898:=Beside.new hM hN
 have hUf898:=Beside.new (hM.wide (H:=([]:List Fact))) hN
 replace hM:=hM.none hF
 replace hD:=hM.wide (H:=([]:List Fact))
 refine ⟨hM,?_⟩
 clear hF hN
 refine mixE.nil ?_
 refine qae ?_
 obtain ⟨u276,h900,hb⟩:=bd hb
 refine mixE.op hM (hC.make0 (s:=si) (n:=z26) underlying22 type3 rfl rfl rfl rfl (qah h900).1 (qah h900).2 (by decide)) ?_
 rintro _ w905 ⟨A901,c902,rfl,hl903,hc904,hC,hF,hN⟩
 have hBf906:=Beside.new hM hN
 have hUf906:=Beside.new (hM.wide (H:=([]:List Fact))) hN
 replace hM:=hM.none hF
 replace hD:=hM.wide (H:=([]:List Fact))
 refine ⟨hM,?_⟩
 clear hF hN
 refine mp (.agg #[.slice A893 ((([]:List Int)).length) c894,.slice A901 ((([]:List Int)).length) c902]) (qbr (places:=[(0,1),(1,1)]) (pv:=[(0,.slice A893 ((([]:List Int)).length) c894),(1,.slice A901 ((([]:List Int)).length) c902)]) type24 underlying24 rfl (qar type22 (qar type22 qco rfl rfl) rfl rfl) rfl (by simp [Instr.fill,Value.cells]))<|mixE.sk hD (hC.seta (i:=2) (ds:=[.slice A893 ((([]:List Int)).length) c894,.slice A901 ((([]:List Int)).length) c902]) rfl type24 rfl rfl rfl rfl rfl) ?_
 rintro w907 ⟨hC,hF⟩
 replace hD:=hD.besideG hUf890 hF
 clear hF
 refine ⟨hD,?_⟩
 refine mixE.nil ?_
 clear hS hM
 clear hD
 refine hK265 _ _ ?_
 refine Wc.seq fun _ hK908=>?_
 refine Wc.seq fun _ hK909=>rg<|lp _ (qaa e8)<|lp (iv (N.length:Int)) (qao (A:=a5) (n:=N.length) (m:=a6) underlying22 rfl)<|lp (iv 0) (qaa rfl)<|ln (hK909 _ _ ?_)
 obtain ⟨o290,hl4,f290,hf290,hb⟩:=bn hb
 refine Wc.cut (fun E wv=> ∃(u:Int) (c:List Int) (d:List Int) (x:Option Addr) (a9 y:Nat) (j:Option Addr) (b0 l:Nat),E 2=pg g6∧E 3=iv 0∧E 4=iv z∧E 6=iv z26∧E 19=pg g888∧I64 u∧Cx (fun _=>False) O0 w wv [.box g6 24 [.slice none 0 0,.slice none 0 0],.box g888 24 [.slice x a9 y,.slice j b0 l],.own 3 si (.slice x a9 y) c,.own 3 si (.slice j b0 l) d]∧f290 (u,c,d)=some r) (fun _ hK911=>?_) ?_
 refine Wc.block ?_
 refine Wc.loop (fun m E wv=> ∃(u:Int) (c:List Int) (d:List Int) (x:Option Addr) (a9 y:Nat) (j:Option Addr) (b0 l:Nat),E 2=pg g6∧E 3=iv 0∧E 4=iv z∧E 6=iv z26∧E 7=.slice a8 a2.length a4∧E 19=pg g888∧E 142=.slice a5 N.length a6∧E 143=iv (N.length:Int)∧E 144=iv u∧I64 u∧Cx (fun _=>False) O0 w wv [.box g6 24 [.slice none 0 0,.slice none 0 0],.own 67 (.pr si si) (.slice a8 a2.length a4) b3,.box g888 24 [.slice x a9 y,.slice j b0 l],.own 3 si (.slice x a9 y) c,.own 3 si (.slice j b0 l) d,.own 3 si (.slice a5 N.length a6) N]∧loopN m (F.qbi n N b3) (u,c,d)=some o290) n ⟨0,([]:List Int),([]:List Int),A893,(([]:List Int)).length,c894,A901,(([]:List Int)).length,c902,e2,e3,e4,e6,e7,rfl,rfl,rfl,rfl,(show I64 0 from by unfold I64; omega),hC.sE [3,4,2,1,0,5],hl4⟩ ?_
 have hbK4:=hb
 clear hb hC hl4
 rintro m913 E915 w914 ⟨u,c,d,x,a9,y,j,b0,l,e2,e3,e4,e6,e7,e19,e142,e143,e144,b4,hC,hl4⟩ K912 hK912
 obtain ⟨m913',o916,rfl,hb,hl4⟩:=qan hl4
 unfold F.qbi at hb
 obtain ⟨rfl,h9,i0⟩:=(hC.ow (i:=3) rfl).qad
 obtain ⟨rfl,i1,i2⟩:=(hC.ow (i:=4) rfl).qad
 refine Wc.seq fun _ hK917=>rg<|lp _ (qap e144 e143)<|ln (hK917 _ _ ?_)
 refine Wc.seq fun _ hK918=>?_
 refine Wc.cond (t:=(decide (u<(N.length:Int)))) (rfl) (fun hq919=>?_) (fun hq919=>?_)
 replace hb:=tt hq919 hb
 refine Wc.skip (hK918 _ _ ?_)
 refine Wc.seq fun _ hK920=>?_
 refine Wc.block<|Wc.seq fun _ hK921=>rg ?_
 obtain ⟨x302,h923,hb⟩:=bd hb
 obtain ⟨ad924,cs925,hA,hc926,hr927⟩:=hC.elo (i:=5) rfl (qac h923).2
 subst hA
 refine lp (.pointer (some (ad924.add (u.toNat*1)))) (qaf (a:=u) underlying22 sizeOf3 e142 e144 (qac h923).1) ?_
 obtain ⟨rfl,hr927'⟩:=hr927
 refine lv (iv x302) (qaj isAgg3 rfl (hc926 0 _ rfl))<|lp (iv x302) (qab rfl)<|ln (hK921 _ _ ?_)
 refine Wc.seq fun _ hK928=>?_
 refine Wc.regionMix [154] (frm [154] [.own 3 si (.slice x c.length y) c] [.box g888 24 [.slice x c.length y,.slice j d.length l]]) (fun _=>rfl) mixed (by decide+kernel) (by decide+kernel) fun w930 hw929=>?_
 replace hC:=hC.step (Fr.qbb hw929)
 have hM:=Fr.refl (fun k=>k∈blocks [.own 3 si (.slice x c.length y) c]) w930
 clear hw929
 have hS:=hC
 have h1:Beside [.own 3 si (.slice x c.length y) c] w930 (.slice x c.length y):=Beside.of (i:=0) rfl
 have hD:Fr (fun k=>k∈blocks ([.own 3 si (.slice x c.length y) c]++[.box g888 24 [.slice x c.length y,.slice j d.length l]])) w930 w930:=hM.wide
 have n9:Beside ([.own 3 si (.slice x c.length y) c]++[.box g888 24 [.slice x c.length y,.slice j d.length l]]) w930 (.slice x c.length y):=Beside.of (i:=0) rfl
 have hUf890:g888<w930.heap.size→g888∈blocks ([.own 3 si (.slice x c.length y) c]++[.box g888 24 [.slice x c.length y,.slice j d.length l]]):=fun _=>box_in (i:=1) rfl
 refine mp (.pointer (some ((⟨g888,0,none⟩:Addr).add 0))) (qag (sz:=1) underlying24 rfl sizeOf22 (by decide) rfl e19)<|mixE.load hM (v:=.slice x c.length y) (fun _ hF=>qam (hS.bx2 (i:=2) rfl [3] (by decide) hF) isAgg22 rfl rfl)<|mp (.slice a8 a2.length a4) (qaa e7)<|mp (iv x302) (qaa rfl) ?_
 obtain ⟨x311,h932,hb⟩:=bd hb
 obtain ⟨ad933,cs934,hA,ho937,hc935,hr936⟩:=hS.elo2 (i:=1) rfl (qac h932).2 [3,2] (by decide)
 subst hA
 refine mp (.pointer (some (ad933.add (x302.toNat*2)))) (qaf (a:=x302) underlying33 sizeOf67 rfl rfl (by rw [(hC.ow (i:=1) rfl).qad.1]; exact (qac h932).1)) ?_
 obtain ⟨k938,k939,rfl,hr940,hr941⟩:=hr936
 obtain ⟨rfl,hr940⟩:=hr940
 obtain ⟨rfl,hr941⟩:=hr941
 refine mp (.pointer (some ((ad933.add (x302.toNat*2)).add 0))) (qeh (A:=(ad933.add (x302.toNat*2))) (a:=0) (sz:=1) underlying67 sizeOf3 rfl rfl (by decide))<|mixE.steady hD (v:=iv x311.1) (fun _ hF=>qaj isAgg3 rfl (hF.cell (hc935 0 _ rfl) (off2 ho937)))<|mixE.op hM (hC.lit (s:=si) (vs:=[iv x311.1]) (xs:=[x311.1]) underlying22 type3 rfl rfl (nb rfl) rfl rfl (by simp [Value.cells,Sh.n]) rfl (show Elems _ _ si ([iv x311.1]++([])) ([x311.1]:List Int) from Elems.cons (⟨rfl,I64.wr (qay hr940)⟩) (Elems.nil _ _ _))) ?_
 rintro _ w946 ⟨A942,c943,rfl,hl944,hc945,hC,hF,hN⟩
 have hBf947:=Beside.new hM hN
 have hUf947:=Beside.new (hM.wide (H:=[.box g888 24 [.slice x c.length y,.slice j d.length l]])) hN
 replace hM:=hM.none hF
 replace hD:=hM.wide (H:=[.box g888 24 [.slice x c.length y,.slice j d.length l]])
 refine ⟨hM,?_⟩
 clear hF hN
 obtain ⟨u328,h949,hb⟩:=bd hb
 refine mixE.op hM (hC.app (i:=4) (s:=si) (xs:=c) (ys:=([x311.1]:List Int)) (m:=((([x311.1]:List Int)).length)) rfl underlying22 underlying22 type3 rfl rfl rfl (hC.srco (i:=0) rfl) rfl rfl (by have:=qaw h949; simp at this⊢ <;>omega) (by decide)) ?_
 rintro _ w954 ⟨A950,c951,rfl,hl952,hc953,hC,hF,hN⟩
 have hB:=h1
 replace h1:=hB.app hM hN
 replace hM:=hM.beside hB hF
 clear hB
 replace hD:=hM.wide (H:=[.box g888 24 [.slice x c.length y,.slice j d.length l]])
 refine ⟨hM,?_⟩
 clear hF hN
 refine mp (.pointer (some ((⟨g888,0,none⟩:Addr).add 0))) (qag (sz:=1) underlying24 rfl sizeOf22 (by decide) rfl e19)<|mixE.sk hD (hC.setf (i:=3) (k:=0) (v:=.slice A950 ((c++([x311.1]:List Int)).length) c951) rfl sizeOf22 rfl rfl rfl rfl) ?_
 rintro w955 ⟨hC,hF⟩
 replace hD:=hD.besideG hUf890 hF
 clear hF
 refine ⟨hD,?_⟩
 refine mixE.nil ?_
 clear hS hM
 clear hD
 refine hK928 _ _<|Wc.fresh fun E956 hE=>?_
 have e2:=cg hE 2 e2
 have e3:=cg hE 3 e3
 have e4:=cg hE 4 e4
 have e6:=cg hE 6 e6
 have e7:=cg hE 7 e7
 have e19:=cg hE 19 e19
 have e21:E956 21=iv x302:=cg hE 21 rfl
 have e142:=cg hE 142 e142
 have e143:=cg hE 143 e143
 have e144:=cg hE 144 e144
 have e145:E956 145=.bool (decide (u<(N.length:Int))):=cg hE 145 rfl
 clear hE
 refine Wc.regionMix [164] (frm [164] [.own 3 si (.slice j d.length l) d] [.box g888 24 [.slice A950 ((c++([x311.1]:List Int)).length) c951,.slice j d.length l]]) (fun _=>rfl) mixed (by decide+kernel) (by decide+kernel) fun w958 hw957=>?_
 replace hC:=hC.step (Fr.qbb hw957)
 have hM:=Fr.refl (fun k=>k∈blocks [.own 3 si (.slice j d.length l) d]) w958
 clear hw957
 have hS:=hC
 have h2:Beside [.own 3 si (.slice j d.length l) d] w958 (.slice j d.length l):=Beside.of (i:=0) rfl
 have hD:Fr (fun k=>k∈blocks ([.own 3 si (.slice j d.length l) d]++[.box g888 24 [.slice A950 ((c++([x311.1]:List Int)).length) c951,.slice j d.length l]])) w958 w958:=hM.wide
 have o0:Beside ([.own 3 si (.slice j d.length l) d]++[.box g888 24 [.slice A950 ((c++([x311.1]:List Int)).length) c951,.slice j d.length l]]) w958 (.slice j d.length l):=Beside.of (i:=0) rfl
 have hUf890:g888<w958.heap.size→g888∈blocks ([.own 3 si (.slice j d.length l) d]++[.box g888 24 [.slice A950 ((c++([x311.1]:List Int)).length) c951,.slice j d.length l]]):=fun _=>box_in (i:=1) rfl
 refine mp (.pointer (some ((⟨g888,0,none⟩:Addr).add 1))) (qag (sz:=1) underlying24 rfl sizeOf22 (by decide) rfl e19)<|mixE.load hM (v:=.slice j d.length l) (fun _ hF=>qam (hS.bx2 (i:=3) rfl [5] (by decide) hF) isAgg22 rfl rfl)<|mp (.slice (some ad933) a2.length a4) (qaa e7)<|mp (iv x302) (qaa e21) ?_
 obtain ⟨x339,h960,hb⟩:=bd hb
 obtain ⟨ad961,cs962,hA,ho965,hc963,hr964⟩:=hS.elo2 (i:=2) rfl (qac h960).2 [5,3] (by decide)
 obtain rfl:=Option.some.inj hA
 refine mp (.pointer (some (ad933.add (x302.toNat*2)))) (qaf (a:=x302) underlying33 sizeOf67 rfl rfl (by rw [(hC.ow (i:=2) rfl).qad.1]; exact (qac h960).1)) ?_
 obtain ⟨k966,k967,rfl,hr968,hr969⟩:=hr964
 obtain ⟨rfl,hr968⟩:=hr968
 obtain ⟨rfl,hr969⟩:=hr969
 refine mp (.pointer (some ((ad933.add (x302.toNat*2)).add 1))) (qeh (A:=(ad933.add (x302.toNat*2))) (a:=1) (sz:=1) underlying67 sizeOf3 rfl rfl (by decide))<|mixE.steady hD (v:=iv x339.2) (fun _ hF=>qaj isAgg3 rfl (hF.cell (hc963 1 _ rfl) (off2 ho965)))<|mixE.op hM (hC.lit (s:=si) (vs:=[iv x339.2]) (xs:=[x339.2]) underlying22 type3 rfl rfl (nb rfl) rfl rfl (by simp [Value.cells,Sh.n]) rfl (show Elems _ _ si ([iv x339.2]++([])) ([x339.2]:List Int) from Elems.cons (⟨rfl,I64.wr (qay hr969)⟩) (Elems.nil _ _ _))) ?_
 rintro _ w974 ⟨A970,c971,rfl,hl972,hc973,hC,hF,hN⟩
 have hBf975:=Beside.new hM hN
 have hUf975:=Beside.new (hM.wide (H:=[.box g888 24 [.slice A950 ((c++([x311.1]:List Int)).length) c951,.slice j d.length l]])) hN
 replace hM:=hM.none hF
 replace hD:=hM.wide (H:=[.box g888 24 [.slice A950 ((c++([x311.1]:List Int)).length) c951,.slice j d.length l]])
 refine ⟨hM,?_⟩
 clear hF hN
 obtain ⟨u356,h977,hb⟩:=bd hb
 refine mixE.op hM (hC.app (i:=6) (s:=si) (xs:=d) (ys:=([x339.2]:List Int)) (m:=((([x339.2]:List Int)).length)) rfl underlying22 underlying22 type3 rfl rfl rfl (hC.srco (i:=0) rfl) rfl rfl (by have:=qaw h977; simp at this⊢ <;>omega) (by decide)) ?_
 rintro _ w982 ⟨A978,c979,rfl,hl980,hc981,hC,hF,hN⟩
 have hB:=h2
 replace h2:=hB.app hM hN
 replace hM:=hM.beside hB hF
 clear hB
 replace hD:=hM.wide (H:=[.box g888 24 [.slice A950 ((c++([x311.1]:List Int)).length) c951,.slice j d.length l]])
 refine ⟨hM,?_⟩
 clear hF hN
 refine mp (.pointer (some ((⟨g888,0,none⟩:Addr).add 1))) (qag (sz:=1) underlying24 rfl sizeOf22 (by decide) rfl e19)<|mixE.sk hD (hC.setf (i:=4) (k:=1) (v:=.slice A978 ((d++([x339.2]:List Int)).length) c979) rfl sizeOf22 rfl rfl rfl rfl) ?_
 rintro w983 ⟨hC,hF⟩
 replace hD:=hD.besideG hUf890 hF
 clear hF
 refine ⟨hD,?_⟩
 refine mixE.nil ?_
 clear hS hM
 clear hD
 refine hK920 _ _<|rg ?_
 obtain ⟨z364,h985,hb⟩:=bd hb
 refine lp (iv z364) (qal (a:=u) (b:=1) e144 rfl h985)<|lp (iv z364) (qaa rfl)<|ln ?_
 obtain rfl:=os hb
 exact hK912 m913' _ _ (Nat.lt_succ_self _) ⟨z364,(c++([x311.1]:List Int)),(d++([x339.2]:List Int)),A950,(c++([x311.1]:List Int)).length,c951,A978,(d++([x339.2]:List Int)).length,c979,e2,e3,e4,e6,e7,e19,e142,e143,rfl,(qai h985),hC.sE [2,3,4,5,6,7],lN hl4⟩
 replace hb:=tf hq919 hb
 refine Wc.exit rfl ?_
 obtain rfl:=os hb
 obtain rfl:=(lX hl4).symm
 exact hK911 _ _ ⟨u,c,d,x,c.length,y,j,d.length,l,e2,e3,e4,e6,e19,b4,hC.sE [0,2,3,4],hbK4⟩
 clear hb hC hl4
 rintro E987 w986 ⟨u,c,d,x,a9,y,j,b0,l,e2,e3,e4,e6,e19,b4,hC,hb⟩
 subst hf290
 obtain ⟨rfl,h9,i0⟩:=(hC.ow (i:=2) rfl).qad
 obtain ⟨rfl,i1,i2⟩:=(hC.ow (i:=3) rfl).qad
 refine hK908 _ _ ?_
 refine Wc.seq fun _ hK988=>?_
 refine Wc.seq fun _ hK989=>rg<|lp _ (qaa e4)<|lp (iv 0) (qaa rfl)<|ln (hK989 _ _ ?_)
 obtain ⟨o370,hl5,f370,hf370,hb⟩:=bn hb
 refine Wc.cut (fun E wv=> ∃(p:Int) (f:List Int) (g:List Int) (Y:Option Addr) (b1 Z:Nat) (a0:Option Addr) (b2 a1:Nat),E 2=pg g6∧E 3=iv 0∧E 19=pg g888∧I64 p∧Cx (fun _=>False) O0 w wv [.box g6 24 [.slice none 0 0,.slice none 0 0],.box g888 24 [.slice Y b1 Z,.slice a0 b2 a1],.own 3 si (.slice Y b1 Z) f,.own 3 si (.slice a0 b2 a1) g]∧f370 (p,f,g)=some r) (fun _ hK991=>?_) ?_
 refine Wc.block ?_
 refine Wc.loop (fun m E wv=> ∃(p:Int) (f:List Int) (g:List Int) (Y:Option Addr) (b1 Z:Nat) (a0:Option Addr) (b2 a1:Nat),E 2=pg g6∧E 3=iv 0∧E 4=iv z∧E 6=iv z26∧E 19=pg g888∧E 169=iv z∧E 170=iv p∧I64 p∧Cx (fun _=>False) O0 w wv [.box g6 24 [.slice none 0 0,.slice none 0 0],.box g888 24 [.slice Y b1 Z,.slice a0 b2 a1],.own 3 si (.slice Y b1 Z) f,.own 3 si (.slice a0 b2 a1) g]∧loopN m (F.qbj n z z26) (p,f,g)=some o370) n ⟨0,c,d,x,c.length,y,j,d.length,l,e2,e3,e4,e6,e19,rfl,rfl,(show I64 0 from by unfold I64; omega),hC.sE [0,1,2,3],hl5⟩ ?_
 have hbK5:=hb
 clear hb hC hl5
 rintro m993 E995 w994 ⟨p,f,g,Y,b1,Z,a0,b2,a1,e2,e3,e4,e6,e19,e169,e170,b5,hC,hl5⟩ K992 hK992
 obtain ⟨m993',o996,rfl,hb,hl5⟩:=qan hl5
 unfold F.qbj at hb
 obtain ⟨rfl,i3,i4⟩:=(hC.ow (i:=2) rfl).qad
 obtain ⟨rfl,i5,i6⟩:=(hC.ow (i:=3) rfl).qad
 refine Wc.seq fun _ hK997=>rg<|lp _ (qap e170 e169)<|ln (hK997 _ _ ?_)
 refine Wc.seq fun _ hK998=>?_
 refine Wc.cond (t:=(decide (p<z))) (rfl) (fun hq999=>?_) (fun hq999=>?_)
 replace hb:=tt hq999 hb
 refine Wc.skip (hK998 _ _ ?_)
 refine Wc.seq fun _ hK1000=>?_
 refine Wc.block<|Wc.seq fun _ hK1001=>rg<|lp _ (qaa e170)<|lp (iv p) (qab rfl)<|ln (hK1001 _ _ ?_)
 refine Wc.seq fun _ hK1002=>rg<|lp _ (qaa e4) ?_
 obtain ⟨z383,h1004,hb⟩:=bd hb
 refine lp (iv z383) (qbk (a:=z) (b:=1) rfl rfl h1004)<|lp (iv p) (qaa rfl) ?_
 obtain ⟨z385,h1006,hb⟩:=bd hb
 refine lp (iv z385) (qbk (a:=z383) (b:=p) rfl rfl h1006)<|lp (iv z385) (qab rfl)<|ln (hK1002 _ _ ?_)
 refine Wc.seq fun _ hK1007=>rg<|lp (.pointer (some ((⟨g888,0,none⟩:Addr).add 0))) (qag (sz:=1) underlying24 rfl sizeOf22 (by decide) rfl e19)<|lv (.slice Y f.length Z) (qam (hC.bx (i:=1) rfl) isAgg22 rfl rfl)<|lp _ (qaa e6) ?_
 obtain ⟨z388,h1009,hb⟩:=bd hb
 refine lp (iv z388) (qbk (a:=z26) (b:=1) rfl rfl h1009)<|lp (iv z385) (qaa rfl) ?_
 obtain ⟨z390,h1011,hb⟩:=bd hb
 refine lp (iv z390) (qbk (a:=z388) (b:=z385) rfl rfl h1011)<|lex.op (hC.lit (s:=si) (vs:=[iv z390]) (xs:=[z390]) underlying22 type3 rfl rfl (nb rfl) rfl rfl (by simp [Value.cells,Sh.n]) rfl (show Elems _ _ si ([iv z390]++([])) ([z390]:List Int) from Elems.cons (⟨rfl,I64.wr (qai h1011)⟩) (Elems.nil _ _ _))) ?_
 rintro _ w1016 ⟨A1012,c1013,rfl,hl1014,hc1015,hC,-,-⟩
 obtain ⟨u398,h1019,hb⟩:=bd hb
 refine lex.op (hC.app (i:=3) (s:=si) (xs:=f) (ys:=([z390]:List Int)) (m:=((([z390]:List Int)).length)) rfl underlying22 underlying22 type3 rfl rfl rfl (hC.srco (i:=0) rfl) rfl rfl (by have:=qaw h1019; simp at this⊢ <;>omega) (by decide)) ?_
 rintro _ w1024 ⟨A1020,c1021,rfl,hl1022,hc1023,hC,-,-⟩
 refine lp (.pointer (some ((⟨g888,0,none⟩:Addr).add 0))) (qag (sz:=1) underlying24 rfl sizeOf22 (by decide) rfl e19)<|lex.sk (hC.setf (i:=2) (k:=0) (v:=.slice A1020 ((f++([z390]:List Int)).length) c1021) rfl sizeOf22 rfl rfl rfl rfl) ?_
 rintro w1025 ⟨hC,hF⟩
 refine ln (hK1007 _ _ ?_)
 refine Wc.fresh fun E1026 hE=>?_
 have e2:=cg hE 2 e2
 have e3:=cg hE 3 e3
 have e4:=cg hE 4 e4
 have e6:=cg hE 6 e6
 have e19:=cg hE 19 e19
 have e22:E1026 22=iv p:=cg hE 22 rfl
 have e23:E1026 23=iv z385:=cg hE 23 rfl
 have e169:=cg hE 169 e169
 have e170:=cg hE 170 e170
 have e171:E1026 171=.bool (decide (p<z)):=cg hE 171 rfl
 clear hE
 refine rg<|lp (.pointer (some ((⟨g888,0,none⟩:Addr).add 1))) (qag (sz:=1) underlying24 rfl sizeOf22 (by decide) rfl e19)<|lv (.slice a0 g.length a1) (qam (hC.bx (i:=2) rfl) isAgg22 rfl rfl)<|lp _ (qaa e23)<|lex.op (hC.lit (s:=si) (vs:=[iv z385]) (xs:=[z385]) underlying22 type3 rfl rfl (nb rfl) rfl rfl (by simp [Value.cells,Sh.n]) rfl (show Elems _ _ si ([iv z385]++([])) ([z385]:List Int) from Elems.cons (⟨rfl,I64.wr (qai h1006)⟩) (Elems.nil _ _ _))) ?_
 rintro _ w1031 ⟨A1027,c1028,rfl,hl1029,hc1030,hC,-,-⟩
 obtain ⟨u413,h1034,hb⟩:=bd hb
 refine lex.op (hC.app (i:=5) (s:=si) (xs:=g) (ys:=([z385]:List Int)) (m:=((([z385]:List Int)).length)) rfl underlying22 underlying22 type3 rfl rfl rfl (hC.srco (i:=0) rfl) rfl rfl (by have:=qaw h1034; simp at this⊢ <;>omega) (by decide)) ?_
 rintro _ w1039 ⟨A1035,c1036,rfl,hl1037,hc1038,hC,-,-⟩
 refine lp (.pointer (some ((⟨g888,0,none⟩:Addr).add 1))) (qag (sz:=1) underlying24 rfl sizeOf22 (by decide) rfl e19)<|lex.sk (hC.setf (i:=3) (k:=1) (v:=.slice A1035 ((g++([z385]:List Int)).length) c1036) rfl sizeOf22 rfl rfl rfl rfl) ?_
 rintro w1040 ⟨hC,hF⟩
 refine ln (hK1000 _ _ ?_)
 refine rg ?_
 obtain ⟨z421,h1042,hb⟩:=bd hb
 refine lp (iv z421) (qal (a:=p) (b:=1) e170 rfl h1042)<|lp (iv z421) (qaa rfl)<|ln ?_
 obtain rfl:=os hb
 exact hK992 m993' _ _ (Nat.lt_succ_self _) ⟨z421,(f++([z390]:List Int)),(g++([z385]:List Int)),A1020,(f++([z390]:List Int)).length,c1021,A1035,(g++([z385]:List Int)).length,c1036,e2,e3,e4,e6,e19,e169,rfl,(qai h1042),hC.sE [2,3,4,5],lN hl5⟩
 replace hb:=tf hq999 hb
 refine Wc.exit rfl ?_
 obtain rfl:=os hb
 obtain rfl:=(lX hl5).symm
 exact hK991 _ _ ⟨p,f,g,Y,f.length,Z,a0,g.length,a1,e2,e3,e19,b5,hC.sE [0,1,2,3],hbK5⟩
 clear hb hC hl5
 rintro E1044 w1043 ⟨p,f,g,Y,b1,Z,a0,b2,a1,e2,e3,e19,b5,hC,hb⟩
 subst hf370
 obtain ⟨rfl,i3,i4⟩:=(hC.ow (i:=2) rfl).qad
 obtain ⟨rfl,i5,i6⟩:=(hC.ow (i:=3) rfl).qad
 refine hK988 _ _<|Wc.seq fun _ hK1045=>rg<|lv (.agg #[.slice Y f.length Z,.slice a0 g.length a1]) (qbs (hC.bx (i:=1) rfl) isAgg24 sizeOf24 e19)<|lex.sk (hC.seta (i:=0) (ds:=[.slice Y f.length Z,.slice a0 g.length a1]) rfl type24 rfl rfl rfl e2 rfl) ?_
 rintro w1046 ⟨hC,hF⟩
 refine lp (iv 0) (qab rfl)<|ln (hK1045 _ _ ?_)
 obtain rfl:=os hb
 refine Wc.ret (hKR _ _ ?_)
 refine ⟨_,res2 results18 ⟨_,e2,qch (hC.bx (i:=0) rfl) isAgg24 sizeOf24⟩ (tV (iv 0) rfl),_,rfl,Y,f.length,Z,a0,g.length,a1,rfl,(show I64 0 from by unfold I64; omega),hC.sE [2,3]⟩
 refine qae ?_
 obtain ⟨u268,h1048,hb⟩:=bd hb
 refine mixE.op hM (hC.make0 (s:=si) (n:=z26) underlying22 type3 rfl rfl rfl rfl (qah h1048).1 (qah h1048).2 (by decide)) ?_
 rintro _ w1053 ⟨A1049,c1050,rfl,hl1051,hc1052,hC,hF,hN⟩
 have hBf1054:=Beside.new hM hN
 have hUf1054:=Beside.new (hM.wide (H:=([]:List Fact))) hN
 replace hM:=hM.none hF
 replace hD:=hM.wide (H:=([]:List Fact))
 refine ⟨hM,?_⟩
 clear hF hN
 refine mixE.nil ?_
 refine qae ?_
 obtain ⟨u276,h1056,hb⟩:=bd hb
 refine mixE.op hM (hC.make0 (s:=si) (n:=z26) underlying22 type3 rfl rfl rfl rfl (qah h1056).1 (qah h1056).2 (by decide)) ?_
 rintro _ w1061 ⟨A1057,c1058,rfl,hl1059,hc1060,hC,hF,hN⟩
 have hBf1062:=Beside.new hM hN
 have hUf1062:=Beside.new (hM.wide (H:=([]:List Fact))) hN
 replace hM:=hM.none hF
 replace hD:=hM.wide (H:=([]:List Fact))
 refine ⟨hM,?_⟩
 clear hF hN
 refine mp (.agg #[.slice A1057 ((([]:List Int)).length) c1058,.slice A1049 ((([]:List Int)).length) c1050]) (qbr (places:=[(0,1),(1,1)]) (pv:=[(0,.slice A1057 ((([]:List Int)).length) c1058),(1,.slice A1049 ((([]:List Int)).length) c1050)]) type24 underlying24 rfl (qar type22 (qar type22 qco rfl rfl) rfl rfl) rfl (by simp [Instr.fill,Value.cells]))<|mixE.sk hD (hC.seta (i:=2) (ds:=[.slice A1057 ((([]:List Int)).length) c1058,.slice A1049 ((([]:List Int)).length) c1050]) rfl type24 rfl rfl rfl rfl rfl) ?_
 rintro w1063 ⟨hC,hF⟩
 replace hD:=hD.besideG hUf890 hF
 clear hF
 refine ⟨hD,?_⟩
 refine mixE.nil ?_
 clear hS hM
 clear hD
 refine hK265 _ _ ?_
 refine Wc.seq fun _ hK1064=>?_
 refine Wc.seq fun _ hK1065=>rg<|lp _ (qaa e8)<|lp (iv (N.length:Int)) (qao (A:=a5) (n:=N.length) (m:=a6) underlying22 rfl)<|lp (iv 0) (qaa rfl)<|ln (hK1065 _ _ ?_)
 obtain ⟨o290,hl4,f290,hf290,hb⟩:=bn hb
 refine Wc.cut (fun E wv=> ∃(u:Int) (c:List Int) (d:List Int) (x:Option Addr) (a9 y:Nat) (j:Option Addr) (b0 l:Nat),E 2=pg g6∧E 3=iv 0∧E 4=iv z∧E 6=iv z26∧E 19=pg g888∧I64 u∧Cx (fun _=>False) O0 w wv [.box g6 24 [.slice none 0 0,.slice none 0 0],.box g888 24 [.slice x a9 y,.slice j b0 l],.own 3 si (.slice x a9 y) c,.own 3 si (.slice j b0 l) d]∧f290 (u,c,d)=some r) (fun _ hK1067=>?_) ?_
 refine Wc.block ?_
 refine Wc.loop (fun m E wv=> ∃(u:Int) (c:List Int) (d:List Int) (x:Option Addr) (a9 y:Nat) (j:Option Addr) (b0 l:Nat),E 2=pg g6∧E 3=iv 0∧E 4=iv z∧E 6=iv z26∧E 7=.slice a8 a2.length a4∧E 19=pg g888∧E 142=.slice a5 N.length a6∧E 143=iv (N.length:Int)∧E 144=iv u∧I64 u∧Cx (fun _=>False) O0 w wv [.box g6 24 [.slice none 0 0,.slice none 0 0],.own 67 (.pr si si) (.slice a8 a2.length a4) b3,.box g888 24 [.slice x a9 y,.slice j b0 l],.own 3 si (.slice x a9 y) c,.own 3 si (.slice j b0 l) d,.own 3 si (.slice a5 N.length a6) N]∧loopN m (F.qbi n N b3) (u,c,d)=some o290) n ⟨0,([]:List Int),([]:List Int),A1057,(([]:List Int)).length,c1058,A1049,(([]:List Int)).length,c1050,e2,e3,e4,e6,e7,rfl,rfl,rfl,rfl,(show I64 0 from by unfold I64; omega),hC.sE [3,4,2,0,1,5],hl4⟩ ?_
 have hbK4:=hb
 clear hb hC hl4
 rintro m1069 E1071 w1070 ⟨u,c,d,x,a9,y,j,b0,l,e2,e3,e4,e6,e7,e19,e142,e143,e144,b4,hC,hl4⟩ K1068 hK1068
 obtain ⟨m1069',o1072,rfl,hb,hl4⟩:=qan hl4
 unfold F.qbi at hb
 obtain ⟨rfl,h9,i0⟩:=(hC.ow (i:=3) rfl).qad
 obtain ⟨rfl,i1,i2⟩:=(hC.ow (i:=4) rfl).qad
 refine Wc.seq fun _ hK1073=>rg<|lp _ (qap e144 e143)<|ln (hK1073 _ _ ?_)
 refine Wc.seq fun _ hK1074=>?_
 refine Wc.cond (t:=(decide (u<(N.length:Int)))) (rfl) (fun hq1075=>?_) (fun hq1075=>?_)
 replace hb:=tt hq1075 hb
 refine Wc.skip (hK1074 _ _ ?_)
 refine Wc.seq fun _ hK1076=>?_
 refine Wc.block<|Wc.seq fun _ hK1077=>rg ?_
 obtain ⟨x302,h1079,hb⟩:=bd hb
 obtain ⟨ad1080,cs1081,hA,hc1082,hr1083⟩:=hC.elo (i:=5) rfl (qac h1079).2
 subst hA
 refine lp (.pointer (some (ad1080.add (u.toNat*1)))) (qaf (a:=u) underlying22 sizeOf3 e142 e144 (qac h1079).1) ?_
 obtain ⟨rfl,hr1083'⟩:=hr1083
 refine lv (iv x302) (qaj isAgg3 rfl (hc1082 0 _ rfl))<|lp (iv x302) (qab rfl)<|ln (hK1077 _ _ ?_)
 refine Wc.seq fun _ hK1084=>?_
 refine Wc.regionMix [154] (frm [154] [.own 3 si (.slice x c.length y) c] [.box g888 24 [.slice x c.length y,.slice j d.length l]]) (fun _=>rfl) mixed (by decide+kernel) (by decide+kernel) fun w1086 hw1085=>?_
 replace hC:=hC.step (Fr.qbb hw1085)
 have hM:=Fr.refl (fun k=>k∈blocks [.own 3 si (.slice x c.length y) c]) w1086
 clear hw1085
 have hS:=hC
 have h1:Beside [.own 3 si (.slice x c.length y) c] w1086 (.slice x c.length y):=Beside.of (i:=0) rfl
 have hD:Fr (fun k=>k∈blocks ([.own 3 si (.slice x c.length y) c]++[.box g888 24 [.slice x c.length y,.slice j d.length l]])) w1086 w1086:=hM.wide
 have n9:Beside ([.own 3 si (.slice x c.length y) c]++[.box g888 24 [.slice x c.length y,.slice j d.length l]]) w1086 (.slice x c.length y):=Beside.of (i:=0) rfl
 have hUf890:g888<w1086.heap.size→g888∈blocks ([.own 3 si (.slice x c.length y) c]++[.box g888 24 [.slice x c.length y,.slice j d.length l]]):=fun _=>box_in (i:=1) rfl
 refine mp (.pointer (some ((⟨g888,0,none⟩:Addr).add 0))) (qag (sz:=1) underlying24 rfl sizeOf22 (by decide) rfl e19)<|mixE.load hM (v:=.slice x c.length y) (fun _ hF=>qam (hS.bx2 (i:=2) rfl [3] (by decide) hF) isAgg22 rfl rfl)<|mp (.slice a8 a2.length a4) (qaa e7)<|mp (iv x302) (qaa rfl) ?_
 obtain ⟨x311,h1088,hb⟩:=bd hb
 obtain ⟨ad1089,cs1090,hA,ho1093,hc1091,hr1092⟩:=hS.elo2 (i:=1) rfl (qac h1088).2 [3,2] (by decide)
 subst hA
 refine mp (.pointer (some (ad1089.add (x302.toNat*2)))) (qaf (a:=x302) underlying33 sizeOf67 rfl rfl (by rw [(hC.ow (i:=1) rfl).qad.1]; exact (qac h1088).1)) ?_
 obtain ⟨k1094,k1095,rfl,hr1096,hr1097⟩:=hr1092
 obtain ⟨rfl,hr1096⟩:=hr1096
 obtain ⟨rfl,hr1097⟩:=hr1097
 refine mp (.pointer (some ((ad1089.add (x302.toNat*2)).add 0))) (qeh (A:=(ad1089.add (x302.toNat*2))) (a:=0) (sz:=1) underlying67 sizeOf3 rfl rfl (by decide))<|mixE.steady hD (v:=iv x311.1) (fun _ hF=>qaj isAgg3 rfl (hF.cell (hc1091 0 _ rfl) (off2 ho1093)))<|mixE.op hM (hC.lit (s:=si) (vs:=[iv x311.1]) (xs:=[x311.1]) underlying22 type3 rfl rfl (nb rfl) rfl rfl (by simp [Value.cells,Sh.n]) rfl (show Elems _ _ si ([iv x311.1]++([])) ([x311.1]:List Int) from Elems.cons (⟨rfl,I64.wr (qay hr1096)⟩) (Elems.nil _ _ _))) ?_
 rintro _ w1102 ⟨A1098,c1099,rfl,hl1100,hc1101,hC,hF,hN⟩
 have hBf1103:=Beside.new hM hN
 have hUf1103:=Beside.new (hM.wide (H:=[.box g888 24 [.slice x c.length y,.slice j d.length l]])) hN
 replace hM:=hM.none hF
 replace hD:=hM.wide (H:=[.box g888 24 [.slice x c.length y,.slice j d.length l]])
 refine ⟨hM,?_⟩
 clear hF hN
 obtain ⟨u328,h1105,hb⟩:=bd hb
 refine mixE.op hM (hC.app (i:=4) (s:=si) (xs:=c) (ys:=([x311.1]:List Int)) (m:=((([x311.1]:List Int)).length)) rfl underlying22 underlying22 type3 rfl rfl rfl (hC.srco (i:=0) rfl) rfl rfl (by have:=qaw h1105; simp at this⊢ <;>omega) (by decide)) ?_
 rintro _ w1110 ⟨A1106,c1107,rfl,hl1108,hc1109,hC,hF,hN⟩
 have hB:=h1
 replace h1:=hB.app hM hN
 replace hM:=hM.beside hB hF
 clear hB
 replace hD:=hM.wide (H:=[.box g888 24 [.slice x c.length y,.slice j d.length l]])
 refine ⟨hM,?_⟩
 clear hF hN
 refine mp (.pointer (some ((⟨g888,0,none⟩:Addr).add 0))) (qag (sz:=1) underlying24 rfl sizeOf22 (by decide) rfl e19)<|mixE.sk hD (hC.setf (i:=3) (k:=0) (v:=.slice A1106 ((c++([x311.1]:List Int)).length) c1107) rfl sizeOf22 rfl rfl rfl rfl) ?_
 rintro w1111 ⟨hC,hF⟩
 replace hD:=hD.besideG hUf890 hF
 clear hF
 refine ⟨hD,?_⟩
 refine mixE.nil ?_
 clear hS hM
 clear hD
 refine hK1084 _ _<|Wc.fresh fun E1112 hE=>?_
 have e2:=cg hE 2 e2
 have e3:=cg hE 3 e3
 have e4:=cg hE 4 e4
 have e6:=cg hE 6 e6
 have e7:=cg hE 7 e7
 have e19:=cg hE 19 e19
 have e21:E1112 21=iv x302:=cg hE 21 rfl
 have e142:=cg hE 142 e142
 have e143:=cg hE 143 e143
 have e144:=cg hE 144 e144
 have e145:E1112 145=.bool (decide (u<(N.length:Int))):=cg hE 145 rfl
 clear hE
 refine Wc.regionMix [164] (frm [164] [.own 3 si (.slice j d.length l) d] [.box g888 24 [.slice A1106 ((c++([x311.1]:List Int)).length) c1107,.slice j d.length l]]) (fun _=>rfl) mixed (by decide+kernel) (by decide+kernel) fun w1114 hw1113=>?_
 replace hC:=hC.step (Fr.qbb hw1113)
 have hM:=Fr.refl (fun k=>k∈blocks [.own 3 si (.slice j d.length l) d]) w1114
 clear hw1113
 have hS:=hC
 have h2:Beside [.own 3 si (.slice j d.length l) d] w1114 (.slice j d.length l):=Beside.of (i:=0) rfl
 have hD:Fr (fun k=>k∈blocks ([.own 3 si (.slice j d.length l) d]++[.box g888 24 [.slice A1106 ((c++([x311.1]:List Int)).length) c1107,.slice j d.length l]])) w1114 w1114:=hM.wide
 have o0:Beside ([.own 3 si (.slice j d.length l) d]++[.box g888 24 [.slice A1106 ((c++([x311.1]:List Int)).length) c1107,.slice j d.length l]]) w1114 (.slice j d.length l):=Beside.of (i:=0) rfl
 have hUf890:g888<w1114.heap.size→g888∈blocks ([.own 3 si (.slice j d.length l) d]++[.box g888 24 [.slice A1106 ((c++([x311.1]:List Int)).length) c1107,.slice j d.length l]]):=fun _=>box_in (i:=1) rfl
 refine mp (.pointer (some ((⟨g888,0,none⟩:Addr).add 1))) (qag (sz:=1) underlying24 rfl sizeOf22 (by decide) rfl e19)<|mixE.load hM (v:=.slice j d.length l) (fun _ hF=>qam (hS.bx2 (i:=3) rfl [5] (by decide) hF) isAgg22 rfl rfl)<|mp (.slice (some ad1089) a2.length a4) (qaa e7)<|mp (iv x302) (qaa e21) ?_
 obtain ⟨x339,h1116,hb⟩:=bd hb
 obtain ⟨ad1117,cs1118,hA,ho1121,hc1119,hr1120⟩:=hS.elo2 (i:=2) rfl (qac h1116).2 [5,3] (by decide)
 obtain rfl:=Option.some.inj hA
 refine mp (.pointer (some (ad1089.add (x302.toNat*2)))) (qaf (a:=x302) underlying33 sizeOf67 rfl rfl (by rw [(hC.ow (i:=2) rfl).qad.1]; exact (qac h1116).1)) ?_
 obtain ⟨k1122,k1123,rfl,hr1124,hr1125⟩:=hr1120
 obtain ⟨rfl,hr1124⟩:=hr1124
 obtain ⟨rfl,hr1125⟩:=hr1125
 refine mp (.pointer (some ((ad1089.add (x302.toNat*2)).add 1))) (qeh (A:=(ad1089.add (x302.toNat*2))) (a:=1) (sz:=1) underlying67 sizeOf3 rfl rfl (by decide))<|mixE.steady hD (v:=iv x339.2) (fun _ hF=>qaj isAgg3 rfl (hF.cell (hc1119 1 _ rfl) (off2 ho1121)))<|mixE.op hM (hC.lit (s:=si) (vs:=[iv x339.2]) (xs:=[x339.2]) underlying22 type3 rfl rfl (nb rfl) rfl rfl (by simp [Value.cells,Sh.n]) rfl (show Elems _ _ si ([iv x339.2]++([])) ([x339.2]:List Int) from Elems.cons (⟨rfl,I64.wr (qay hr1125)⟩) (Elems.nil _ _ _))) ?_
 rintro _ w1130 ⟨A1126,c1127,rfl,hl1128,hc1129,hC,hF,hN⟩
 have hBf1131:=Beside.new hM hN
 have hUf1131:=Beside.new (hM.wide (H:=[.box g888 24 [.slice A1106 ((c++([x311.1]:List Int)).length) c1107,.slice j d.length l]])) hN
 replace hM:=hM.none hF
 replace hD:=hM.wide (H:=[.box g888 24 [.slice A1106 ((c++([x311.1]:List Int)).length) c1107,.slice j d.length l]])
 refine ⟨hM,?_⟩
 clear hF hN
 obtain ⟨u356,h1133,hb⟩:=bd hb
 refine mixE.op hM (hC.app (i:=6) (s:=si) (xs:=d) (ys:=([x339.2]:List Int)) (m:=((([x339.2]:List Int)).length)) rfl underlying22 underlying22 type3 rfl rfl rfl (hC.srco (i:=0) rfl) rfl rfl (by have:=qaw h1133; simp at this⊢ <;>omega) (by decide)) ?_
 rintro _ w1138 ⟨A1134,c1135,rfl,hl1136,hc1137,hC,hF,hN⟩
 have hB:=h2
 replace h2:=hB.app hM hN
 replace hM:=hM.beside hB hF
 clear hB
 replace hD:=hM.wide (H:=[.box g888 24 [.slice A1106 ((c++([x311.1]:List Int)).length) c1107,.slice j d.length l]])
 refine ⟨hM,?_⟩
 clear hF hN
 refine mp (.pointer (some ((⟨g888,0,none⟩:Addr).add 1))) (qag (sz:=1) underlying24 rfl sizeOf22 (by decide) rfl e19)<|mixE.sk hD (hC.setf (i:=4) (k:=1) (v:=.slice A1134 ((d++([x339.2]:List Int)).length) c1135) rfl sizeOf22 rfl rfl rfl rfl) ?_
 rintro w1139 ⟨hC,hF⟩
 replace hD:=hD.besideG hUf890 hF
 clear hF
 refine ⟨hD,?_⟩
 refine mixE.nil ?_
 clear hS hM
 clear hD
 refine hK1076 _ _<|rg ?_
 obtain ⟨z364,h1141,hb⟩:=bd hb
 refine lp (iv z364) (qal (a:=u) (b:=1) e144 rfl h1141)<|lp (iv z364) (qaa rfl)<|ln ?_
 obtain rfl:=os hb
 exact hK1068 m1069' _ _ (Nat.lt_succ_self _) ⟨z364,(c++([x311.1]:List Int)),(d++([x339.2]:List Int)),A1106,(c++([x311.1]:List Int)).length,c1107,A1134,(d++([x339.2]:List Int)).length,c1135,e2,e3,e4,e6,e7,e19,e142,e143,rfl,(qai h1141),hC.sE [2,3,4,5,6,7],lN hl4⟩
 replace hb:=tf hq1075 hb
 refine Wc.exit rfl ?_
 obtain rfl:=os hb
 obtain rfl:=(lX hl4).symm
 exact hK1067 _ _ ⟨u,c,d,x,c.length,y,j,d.length,l,e2,e3,e4,e6,e19,b4,hC.sE [0,2,3,4],hbK4⟩
 clear hb hC hl4
 rintro E1143 w1142 ⟨u,c,d,x,a9,y,j,b0,l,e2,e3,e4,e6,e19,b4,hC,hb⟩
 subst hf290
 obtain ⟨rfl,h9,i0⟩:=(hC.ow (i:=2) rfl).qad
 obtain ⟨rfl,i1,i2⟩:=(hC.ow (i:=3) rfl).qad
 refine hK1064 _ _ ?_
 refine Wc.seq fun _ hK1144=>?_
 refine Wc.seq fun _ hK1145=>rg<|lp _ (qaa e4)<|lp (iv 0) (qaa rfl)<|ln (hK1145 _ _ ?_)
 obtain ⟨o370,hl5,f370,hf370,hb⟩:=bn hb
 refine Wc.cut (fun E wv=> ∃(p:Int) (f:List Int) (g:List Int) (Y:Option Addr) (b1 Z:Nat) (a0:Option Addr) (b2 a1:Nat),E 2=pg g6∧E 3=iv 0∧E 19=pg g888∧I64 p∧Cx (fun _=>False) O0 w wv [.box g6 24 [.slice none 0 0,.slice none 0 0],.box g888 24 [.slice Y b1 Z,.slice a0 b2 a1],.own 3 si (.slice Y b1 Z) f,.own 3 si (.slice a0 b2 a1) g]∧f370 (p,f,g)=some r) (fun _ hK1147=>?_) ?_
 refine Wc.block ?_
 refine Wc.loop (fun m E wv=> ∃(p:Int) (f:List Int) (g:List Int) (Y:Option Addr) (b1 Z:Nat) (a0:Option Addr) (b2 a1:Nat),E 2=pg g6∧E 3=iv 0∧E 4=iv z∧E 6=iv z26∧E 19=pg g888∧E 169=iv z∧E 170=iv p∧I64 p∧Cx (fun _=>False) O0 w wv [.box g6 24 [.slice none 0 0,.slice none 0 0],.box g888 24 [.slice Y b1 Z,.slice a0 b2 a1],.own 3 si (.slice Y b1 Z) f,.own 3 si (.slice a0 b2 a1) g]∧loopN m (F.qbj n z z26) (p,f,g)=some o370) n ⟨0,c,d,x,c.length,y,j,d.length,l,e2,e3,e4,e6,e19,rfl,rfl,(show I64 0 from by unfold I64; omega),hC.sE [0,1,2,3],hl5⟩ ?_
 have hbK5:=hb
 clear hb hC hl5
 rintro m1149 E1151 w1150 ⟨p,f,g,Y,b1,Z,a0,b2,a1,e2,e3,e4,e6,e19,e169,e170,b5,hC,hl5⟩ K1148 hK1148
 obtain ⟨m1149',o1152,rfl,hb,hl5⟩:=qan hl5
 unfold F.qbj at hb
 obtain ⟨rfl,i3,i4⟩:=(hC.ow (i:=2) rfl).qad
 obtain ⟨rfl,i5,i6⟩:=(hC.ow (i:=3) rfl).qad
 refine Wc.seq fun _ hK1153=>rg<|lp _ (qap e170 e169)<|ln (hK1153 _ _ ?_)
 refine Wc.seq fun _ hK1154=>?_
 refine Wc.cond (t:=(decide (p<z))) (rfl) (fun hq1155=>?_) (fun hq1155=>?_)
 replace hb:=tt hq1155 hb
 refine Wc.skip (hK1154 _ _ ?_)
 refine Wc.seq fun _ hK1156=>?_
 refine Wc.block<|Wc.seq fun _ hK1157=>rg<|lp _ (qaa e170)<|lp (iv p) (qab rfl)<|ln (hK1157 _ _ ?_)
 refine Wc.seq fun _ hK1158=>rg<|lp _ (qaa e4) ?_
 obtain ⟨z383,h1160,hb⟩:=bd hb
 refine lp (iv z383) (qbk (a:=z) (b:=1) rfl rfl h1160)<|lp (iv p) (qaa rfl) ?_
 obtain ⟨z385,h1162,hb⟩:=bd hb
 refine lp (iv z385) (qbk (a:=z383) (b:=p) rfl rfl h1162)<|lp (iv z385) (qab rfl)<|ln (hK1158 _ _ ?_)
 refine Wc.seq fun _ hK1163=>rg<|lp (.pointer (some ((⟨g888,0,none⟩:Addr).add 0))) (qag (sz:=1) underlying24 rfl sizeOf22 (by decide) rfl e19)<|lv (.slice Y f.length Z) (qam (hC.bx (i:=1) rfl) isAgg22 rfl rfl)<|lp _ (qaa e6) ?_
 obtain ⟨z388,h1165,hb⟩:=bd hb
 refine lp (iv z388) (qbk (a:=z26) (b:=1) rfl rfl h1165)<|lp (iv z385) (qaa rfl) ?_
 obtain ⟨z390,h1167,hb⟩:=bd hb
 refine lp (iv z390) (qbk (a:=z388) (b:=z385) rfl rfl h1167)<|lex.op (hC.lit (s:=si) (vs:=[iv z390]) (xs:=[z390]) underlying22 type3 rfl rfl (nb rfl) rfl rfl (by simp [Value.cells,Sh.n]) rfl (show Elems _ _ si ([iv z390]++([])) ([z390]:List Int) from Elems.cons (⟨rfl,I64.wr (qai h1167)⟩) (Elems.nil _ _ _))) ?_
 rintro _ w1172 ⟨A1168,c1169,rfl,hl1170,hc1171,hC,-,-⟩
 obtain ⟨u398,h1175,hb⟩:=bd hb
 refine lex.op (hC.app (i:=3) (s:=si) (xs:=f) (ys:=([z390]:List Int)) (m:=((([z390]:List Int)).length)) rfl underlying22 underlying22 type3 rfl rfl rfl (hC.srco (i:=0) rfl) rfl rfl (by have:=qaw h1175; simp at this⊢ <;>omega) (by decide)) ?_
 rintro _ w1180 ⟨A1176,c1177,rfl,hl1178,hc1179,hC,-,-⟩
 refine lp (.pointer (some ((⟨g888,0,none⟩:Addr).add 0))) (qag (sz:=1) underlying24 rfl sizeOf22 (by decide) rfl e19)<|lex.sk (hC.setf (i:=2) (k:=0) (v:=.slice A1176 ((f++([z390]:List Int)).length) c1177) rfl sizeOf22 rfl rfl rfl rfl) ?_
 rintro w1181 ⟨hC,hF⟩
 refine ln (hK1163 _ _ ?_)
 refine Wc.fresh fun E1182 hE=>?_
 have e2:=cg hE 2 e2
 have e3:=cg hE 3 e3
 have e4:=cg hE 4 e4
 have e6:=cg hE 6 e6
 have e19:=cg hE 19 e19
 have e22:E1182 22=iv p:=cg hE 22 rfl
 have e23:E1182 23=iv z385:=cg hE 23 rfl
 have e169:=cg hE 169 e169
 have e170:=cg hE 170 e170
 have e171:E1182 171=.bool (decide (p<z)):=cg hE 171 rfl
 clear hE
 refine rg<|lp (.pointer (some ((⟨g888,0,none⟩:Addr).add 1))) (qag (sz:=1) underlying24 rfl sizeOf22 (by decide) rfl e19)<|lv (.slice a0 g.length a1) (qam (hC.bx (i:=2) rfl) isAgg22 rfl rfl)<|lp _ (qaa e23)<|lex.op (hC.lit (s:=si) (vs:=[iv z385]) (xs:=[z385]) underlying22 type3 rfl rfl (nb rfl) rfl rfl (by simp [Value.cells,Sh.n]) rfl (show Elems _ _ si ([iv z385]++([])) ([z385]:List Int) from Elems.cons (⟨rfl,I64.wr (qai h1162)⟩) (Elems.nil _ _ _))) ?_
 rintro _ w1187 ⟨A1183,c1184,rfl,hl1185,hc1186,hC,-,-⟩
 obtain ⟨u413,h1190,hb⟩:=bd hb
 refine lex.op (hC.app (i:=5) (s:=si) (xs:=g) (ys:=([z385]:List Int)) (m:=((([z385]:List Int)).length)) rfl underlying22 underlying22 type3 rfl rfl rfl (hC.srco (i:=0) rfl) rfl rfl (by have:=qaw h1190; simp at this⊢ <;>omega) (by decide)) ?_
 rintro _ w1195 ⟨A1191,c1192,rfl,hl1193,hc1194,hC,-,-⟩
 refine lp (.pointer (some ((⟨g888,0,none⟩:Addr).add 1))) (qag (sz:=1) underlying24 rfl sizeOf22 (by decide) rfl e19)<|lex.sk (hC.setf (i:=3) (k:=1) (v:=.slice A1191 ((g++([z385]:List Int)).length) c1192) rfl sizeOf22 rfl rfl rfl rfl) ?_
 rintro w1196 ⟨hC,hF⟩
 refine ln (hK1156 _ _ ?_)
 refine rg ?_
 obtain ⟨z421,h1198,hb⟩:=bd hb
 refine lp (iv z421) (qal (a:=p) (b:=1) e170 rfl h1198)<|lp (iv z421) (qaa rfl)<|ln ?_
 obtain rfl:=os hb
 exact hK1148 m1149' _ _ (Nat.lt_succ_self _) ⟨z421,(f++([z390]:List Int)),(g++([z385]:List Int)),A1176,(f++([z390]:List Int)).length,c1177,A1191,(g++([z385]:List Int)).length,c1192,e2,e3,e4,e6,e19,e169,rfl,(qai h1198),hC.sE [2,3,4,5],lN hl5⟩
 replace hb:=tf hq1155 hb
 refine Wc.exit rfl ?_
 obtain rfl:=os hb
 obtain rfl:=(lX hl5).symm
 exact hK1147 _ _ ⟨p,f,g,Y,f.length,Z,a0,g.length,a1,e2,e3,e19,b5,hC.sE [0,1,2,3],hbK5⟩
 clear hb hC hl5
 rintro E1200 w1199 ⟨p,f,g,Y,b1,Z,a0,b2,a1,e2,e3,e19,b5,hC,hb⟩
 subst hf370
 obtain ⟨rfl,i3,i4⟩:=(hC.ow (i:=2) rfl).qad
 obtain ⟨rfl,i5,i6⟩:=(hC.ow (i:=3) rfl).qad
 refine hK1144 _ _<|Wc.seq fun _ hK1201=>rg<|lv (.agg #[.slice Y f.length Z,.slice a0 g.length a1]) (qbs (hC.bx (i:=1) rfl) isAgg24 sizeOf24 e19)<|lex.sk (hC.seta (i:=0) (ds:=[.slice Y f.length Z,.slice a0 g.length a1]) rfl type24 rfl rfl rfl e2 rfl) ?_
 rintro w1202 ⟨hC,hF⟩
 refine lp (iv 0) (qab rfl)<|ln (hK1201 _ _ ?_)
 obtain rfl:=os hb
 refine Wc.ret (hKR _ _ ?_)
 refine ⟨_,res2 results18 ⟨_,e2,qch (hC.bx (i:=0) rfl) isAgg24 sizeOf24⟩ (tV (iv 0) rfl),_,rfl,Y,f.length,Z,a0,g.length,a1,rfl,(show I64 0 from by unfold I64; omega),hC.sE [2,3]⟩
