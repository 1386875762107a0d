import Derived.Test.YticemffhlapnnaaS
import Derived.Test.YticemffhlapnnaaG1
set_option linter.all false
namespace Go.Proofs.Yticemffhlapnnaa
open Ev Try
set_option maxRecDepth 100000
set_option maxHeartbeats 4000000
theorem gridlink_segments_ok (n:Nat) {w:World} {O0:List Nat} (hO: ∀k∈O0,k<w.heap.size) {N:Option Addr} {c8 B:Nat} {c:List Int} (c9:Rep O0 w (.sl si) [.slice N c8 B] c) {M:Option Addr} {d0 C:Nat} {o:List Int} (d1:Rep O0 w (.sl si) [.slice M d0 C] o) {Z:Option Addr} {b4 U:Nat} {z:List (Int×Int)} (b5:Rep O0 w (.sl (.pr si si)) [.slice Z b4 U] z) {r:(List Int)×(List (List (Int×Int)))×(List (List (Int×Int)))} (hb:F.qff n c o z=some r):
    Calls prog 37 #[.agg #[.slice N c8 B,.slice M d0 C],.slice Z b4 U] w fun e w'=> ∃v,e=.returned v∧∃(A0:Option Addr) (m0 c0:Nat) (A1:Option Addr) (m1 c1:Nat) (A2:Option Addr) (m2 c2:Nat),v=.tuple #[.slice A0 m0 c0,.slice A1 m1 c1,.slice A2 m2 c2]∧Cx (fun _=>False) O0 w w' [.own 3 si (.slice A0 m0 c0) r.1,.ro (.sl (.sl (.pr si si))) [.slice A1 m1 c1] r.2.1,.ro (.sl (.sl (.pr si si))) [.slice A2 m2 c2] r.2.2]:=by
 unfold F.qff at hb
 have hC:=Cx.start hO
 replace hC:=hC.arg rfl c9
 replace hC:=hC.arg rfl d1
 replace hC:=hC.arg rfl b5
 clear hO
 obtain ⟨rfl,d4,d5⟩:=c9.qad
 obtain ⟨rfl,d6,d7⟩:=d1.qad
 obtain ⟨rfl,d2,d3⟩:=b5.qad
 replace hC:=hC.noT
 refine qaq func37 rfl (by rw [ntmps37]; exact nb rfl) fun KR hKR=>?_
 refine Wc.seq fun _ hK4=>rg ?_
 replace hC:Cx _ O0 w _ ([.ro (.sl (.pr si si)) [.slice Z z.length U] z,.ro (.sl si) [.slice M o.length C] o,.ro (.sl si) [.slice N c.length B] c]++([]:List Fact)):=hC
 refine lex.op (hC.box (cs:=[.slice N c.length B,.slice M o.length C]) rfl rfl) ?_
 rintro _ w6 ⟨g5,rfl,hC,hF,-⟩
 replace hC:Cx _ O0 w _ ([.box g5 24 [.slice N c.length B,.slice M o.length C],_,_,_]++([]:List Fact)):=hC
 refine lp (.slice none 0 0) (qab rfl)<|lp (.slice none 0 0) (qab rfl)<|lp (.slice none 0 0) (qab rfl)<|ln (hK4 _ _ ?_)
 refine Wc.seq fun _ hK8=>rg<|lp (.pointer (some ((⟨g5,0,none⟩:Addr).add 0))) (qag (sz:=1) underlying24 rfl sizeOf22 (by decide) rfl rfl)<|lv (.slice N c.length B) (qam (hC.bx (i:=0) rfl) isAgg22 rfl rfl)<|lp (iv (c.length:Int)) (qao (A:=N) (n:=c.length) (m:=B) underlying22 rfl)<|lp (iv (c.length:Int)) (qab rfl)<|ln (hK8 _ _ ?_)
 refine Wc.seq fun _ hK9=>?_
 refine Wc.regionMix [] (frm [] ([]:List Fact) ([]:List Fact)) (fun _=>rfl) mixed (by decide+kernel) (by decide+kernel) fun w11 hw10=>?_
 replace hC:=hC.step (Fr.qbb hw10)
 have hM:=Fr.refl (fun k=>k∈blocks ([]:List Fact)) w11
 clear hw10
 have hS:=hC
 replace hC:Cx _ O0 w _ ([_,_,_,_]++([]:List Fact)):=hC
 refine mp (.pointer (some ((⟨g5,0,none⟩:Addr).add 0))) (qag (sz:=1) underlying24 rfl sizeOf22 (by decide) rfl rfl)<|mixE.load hM (v:=.slice N c.length B) (fun _ hF=>qam (hS.bx2 (i:=0) rfl [] (by decide) hF) isAgg22 rfl rfl) ?_
 obtain ⟨y12,h13,hb⟩:=bd hb
 refine mixE.cl hM (⟨_,_,qas (vs:=[.slice N c.length B]) call38 rfl rfl rfl,qgm n hC.lt (hC.rd (i:=3) rfl) h13⟩) ?_
 rintro _ w18 ⟨A14,m15,c16,rfl,hK⟩
 have hBf17:=Beside.cl (i:=0) hM hK rfl
 replace hM:=hM.none hK.fr
 refine ⟨hM,?_⟩
 replace hC:=hC.merge hK
 clear hK
 obtain ⟨rfl,hl19,hc20⟩:=(hC.ow (i:=0) rfl).qad
 replace hC:Cx _ O0 w _ ([.own 3 si (.slice A14 y12.length c16) y12,_,_,_,_]++([]:List Fact)):=hC
 refine mp (.pointer (some ((⟨g5,0,none⟩:Addr).add 1))) (qag (sz:=1) underlying24 rfl sizeOf22 (by decide) rfl rfl)<|mixE.load hM (v:=.slice M o.length C) (fun _ hF=>qam (hS.bx2 (i:=0) rfl [] (by decide) hF) isAgg22 rfl rfl) ?_
 obtain ⟨y21,h22,hb⟩:=bd hb
 refine mixE.cl hM (⟨_,_,qas (vs:=[.slice M o.length C]) call38 rfl rfl rfl,qgm n hC.lt (hC.rd (i:=3) rfl) h22⟩) ?_
 rintro _ w27 ⟨A23,m24,c25,rfl,hK⟩
 have hBf26:=Beside.cl (i:=0) hM hK rfl
 replace hM:=hM.none hK.fr
 refine ⟨hM,?_⟩
 replace hC:=hC.merge hK
 clear hK
 obtain ⟨rfl,hl28,hc29⟩:=(hC.ow (i:=0) rfl).qad
 replace hC:Cx _ O0 w _ ([.own 3 si (.slice A23 y21.length c25) y21,_,_,_,_,_]++([]:List Fact)):=hC
 refine mp (.slice A14 y12.length c16) (qab rfl)<|mp (.slice A23 y21.length c25) (qab rfl)<|mixE.nil ?_
 clear hS hM
 refine hK9 _ _<|Wc.fresh fun E30 hE=>?_
 have e1:E30 1=.slice Z z.length U:=cg hE 1 rfl
 have e2:E30 2=pg g5:=cg hE 2 rfl
 have e4:E30 4=.slice none 0 0:=cg hE 4 rfl
 have e5:E30 5=.slice none 0 0:=cg hE 5 rfl
 have e6:E30 6=.slice none 0 0:=cg hE 6 rfl
 have e7:E30 7=iv (c.length:Int):=cg hE 7 rfl
 have e8:E30 8=.slice A14 y12.length c16:=cg hE 8 rfl
 have e9:E30 9=.slice A23 y21.length c25:=cg hE 9 rfl
 clear hE
 refine Wc.seq fun _ hK31=>?_
 refine Wc.regionPlan [] (frm [] ([]:List Fact) ([]:List Fact)) (chainP [0,2] (.alt (chainP [1] (chainP [4,3,5] .done)) (chainP [3] (chainP [1,4,5] .done)))) (fun _=>rfl) mixed (by decide+kernel) (by decide+kernel) fun w33 hw32=>?_
 replace hC:=hC.step (Fr.qbb hw32)
 have hM:=Fr.refl (fun k=>k∈blocks ([]:List Fact)) w33
 clear hw32
 have hS:=hC
 refine qae ?_
 replace hC:Cx _ O0 w _ ([_,_,_,_,_,_]++([]:List Fact)):=hC
 refine mp (iv (c.length:Int)) (qaa e7)<|mp (iv (c.length:Int)) (qaa e7)<|mixE.nil ?_
 refine qbd ?_ ?_
 refine qae ?_
 obtain ⟨u34,h35,hb⟩:=bd hb
 refine mixE.op hM (hC.make (s:=.raw) (n:=(c.length:Int)) underlying51 type56 rfl rfl rfl rfl rfl (qah h35).1 (qah h35).2 (by decide)) ?_
 rintro _ w40 ⟨A36,c37,rfl,hl38,hc39,hC,hF,hN⟩
 have hBf41:=Beside.new hM hN
 replace hM:=hM.none hF
 refine ⟨hM,?_⟩
 clear hF hN
 replace hC:Cx _ O0 w _ ([.own 56 .raw (.slice A36 (((List.replicate (c.length:Int).toNat (Value.slice none 0 0))).length) c37) (List.replicate (c.length:Int).toNat (Value.slice none 0 0)),_,_,_,_,_,_]++([]:List Fact)):=hC
 replace hC:=hC.nilRows 58 (.pr si si) (c.length:Int).toNat
 replace hC:Cx _ O0 w _ ([_,_,_,_,_,_,_]++(rowsF 58 (.pr si si) (List.replicate (c.length:Int).toNat (Value.slice none 0 0)) (List.replicate (c.length:Int).toNat ([]:List (Int×Int)))++([]:List Fact))):=hC
 refine mixE.nil ?_
 refine qae ?_
 refine mp (.slice A36 (((List.replicate (c.length:Int).toNat (Value.slice none 0 0))).length) c37) (qab rfl) ?_
 obtain ⟨u42,h43,hb⟩:=bd hb
 refine mixE.op hM (hC.make (s:=.raw) (n:=(c.length:Int)) underlying51 type56 rfl rfl rfl rfl rfl (qah h43).1 (qah h43).2 (by decide)) ?_
 rintro _ w48 ⟨A44,c45,rfl,hl46,hc47,hC,hF,hN⟩
 have hBf49:=Beside.new hM hN
 replace hM:=hM.none hF
 refine ⟨hM,?_⟩
 clear hF hN
 replace hC:Cx _ O0 w _ ([.own 56 .raw (.slice A44 (((List.replicate (c.length:Int).toNat (Value.slice none 0 0))).length) c45) (List.replicate (c.length:Int).toNat (Value.slice none 0 0)),_,_,_,_,_,_,_]++(rowsF 58 (.pr si si) (List.replicate (c.length:Int).toNat (Value.slice none 0 0)) (List.replicate (c.length:Int).toNat ([]:List (Int×Int)))++([]:List Fact))):=hC
 replace hC:=hC.nilRows 58 (.pr si si) (c.length:Int).toNat
 replace hC:Cx _ O0 w _ ([_,_,_,_,_,_,_,_]++(rowsF 58 (.pr si si) (List.replicate (c.length:Int).toNat (Value.slice none 0 0)) (List.replicate (c.length:Int).toNat ([]:List (Int×Int)))++(rowsF 58 (.pr si si) (List.replicate (c.length:Int).toNat (Value.slice none 0 0)) (List.replicate (c.length:Int).toNat ([]:List (Int×Int)))++([]:List Fact)))):=hC
 refine mp (.slice A44 (((List.replicate (c.length:Int).toNat (Value.slice none 0 0))).length) c45) (qab rfl)<|mixE.nil ?_
 clear hS hM
 refine hK31 _ _ ?_
 refine Wc.seq fun _ hK50=>?_
 refine Wc.seq fun _ hK51=>rg<|lp _ (qaa e1)<|lp (iv (z.length:Int)) (qao (A:=Z) (n:=z.length) (m:=U) underlying33 rfl)<|lp (iv 0) (qaa rfl)<|ln (hK51 _ _ ?_)
 replace hC:=hC.nil 3 si
 obtain ⟨o53,hl0,hb⟩:=bd hb
 refine Wc.cut (fun E wv=> ∃(J:List Int) (Q:Int) (h:List (List (Int×Int))) (j:List (List (Int×Int))) (R:Option Addr) (a7 S:Nat) (x:List Value) (D:List Value),E 2=pg g5∧E 4=.slice R a7 S∧E 5=.slice A36 (((List.replicate (c.length:Int).toNat (Value.slice none 0 0))).length) c37∧E 6=.slice A44 (((List.replicate (c.length:Int).toNat (Value.slice none 0 0))).length) c45∧E 7=iv (c.length:Int)∧E 8=.slice A14 y12.length c16∧E 9=.slice A23 y21.length c25∧I64 Q∧x.length=h.length∧D.length=j.length∧Cx (fun _=>False) O0 w wv ([.box g5 24 [.slice N c.length B,.slice M o.length C],.ro (.sl si) [.slice N c.length B] c,.ro (.sl si) [.slice M o.length C] o,.own 3 si (.slice R a7 S) J,.own 56 .raw (.slice A36 (((List.replicate (c.length:Int).toNat (Value.slice none 0 0))).length) c37) x,.own 56 .raw (.slice A44 (((List.replicate (c.length:Int).toNat (Value.slice none 0 0))).length) c45) D,.own 3 si (.slice A14 y12.length c16) y12,.own 3 si (.slice A23 y21.length c25) y21]++(rowsF 58 (.pr si si) D j++(rowsF 58 (.pr si si) x h++([]:List Fact))))∧(((loopN n (F.qbv n c o y12 y21) (0,h,j)).bind fun o253=>match o253 with | (g,L,u)=>some (J,L,u)):Option ((List Int)×(List (List (Int×Int)))×(List (List (Int×Int)))))=some r) (fun _ hK54=>?_) ?_
 refine Wc.block ?_
 replace hC:Cx _ O0 w _ ([.own 3 si (.slice none 0 0) ([]:List Int),_,_,_,_,_,_,_,_]++(rowsF 58 (.pr si si) (List.replicate (c.length:Int).toNat (Value.slice none 0 0)) (List.replicate (c.length:Int).toNat ([]:List (Int×Int)))++(rowsF 58 (.pr si si) (List.replicate (c.length:Int).toNat (Value.slice none 0 0)) (List.replicate (c.length:Int).toNat ([]:List (Int×Int)))++([]:List Fact)))):=hC
 refine Wc.loop (fun m E wv=> ∃(J:List Int) (Q:Int) (h:List (List (Int×Int))) (j:List (List (Int×Int))) (R:Option Addr) (a7 S:Nat) (x:List Value) (D:List Value),E 2=pg g5∧E 4=.slice R a7 S∧E 5=.slice A36 (((List.replicate (c.length:Int).toNat (Value.slice none 0 0))).length) c37∧E 6=.slice A44 (((List.replicate (c.length:Int).toNat (Value.slice none 0 0))).length) c45∧E 7=iv (c.length:Int)∧E 8=.slice A14 y12.length c16∧E 9=.slice A23 y21.length c25∧E 32=.slice Z z.length U∧E 33=iv (z.length:Int)∧E 34=iv Q∧I64 Q∧x.length=h.length∧D.length=j.length∧Cx (fun _=>False) O0 w wv ([.box g5 24 [.slice N c.length B,.slice M o.length C],.ro (.sl si) [.slice N c.length B] c,.ro (.sl si) [.slice M o.length C] o,.own 3 si (.slice R a7 S) J,.own 56 .raw (.slice A36 (((List.replicate (c.length:Int).toNat (Value.slice none 0 0))).length) c37) x,.own 56 .raw (.slice A44 (((List.replicate (c.length:Int).toNat (Value.slice none 0 0))).length) c45) D,.own 3 si (.slice A14 y12.length c16) y12,.own 3 si (.slice A23 y21.length c25) y21,.ro (.sl (.pr si si)) [.slice Z z.length U] z]++(rowsF 58 (.pr si si) D j++(rowsF 58 (.pr si si) x h++([]:List Fact))))∧loopN m (F.qce n c o z y12 y21) (J,Q,h,j)=some o53) n ⟨([]:List Int),0,(List.replicate (c.length:Int).toNat ([]:List (Int×Int))),(List.replicate (c.length:Int).toNat ([]:List (Int×Int))),none,0,0,(List.replicate (c.length:Int).toNat (Value.slice none 0 0)),(List.replicate (c.length:Int).toNat (Value.slice none 0 0)),e2,e4,rfl,rfl,e7,e8,e9,rfl,rfl,rfl,(show I64 0 from by unfold I64; omega),(nilRows_len (c.length:Int).toNat (s:=(.pr si si))),(nilRows_len (c.length:Int).toNat (s:=(.pr si si))),hC.selT [5,8,7,0,2,1,4,3,6] (by decide),hl0⟩ ?_
 have hbK0:=hb
 clear hb hC hl0
 rintro m56 E58 w57 ⟨J,Q,h,j,R,a7,S,x,D,e2,e4,e5,e6,e7,e8,e9,e32,e33,e34,b2,a3,a4,hC,hl0⟩ K55 hK55
 obtain ⟨m56',o59,rfl,hb,hl0⟩:=qan hl0
 unfold F.qce at hb
 obtain ⟨rfl,b8,b9⟩:=(hC.ow (i:=3) rfl).qad
 refine Wc.seq fun _ hK60=>rg ?_
 replace hC:Cx _ O0 w _ ([_,_,_,.own 3 si (.slice R J.length S) J,.own 56 .raw (.slice A36 (((List.replicate (c.length:Int).toNat (Value.slice none 0 0))).length) c37) x,.own 56 .raw (.slice A44 (((List.replicate (c.length:Int).toNat (Value.slice none 0 0))).length) c45) D,_,_,_]++(rowsF 58 (.pr si si) D j++(rowsF 58 (.pr si si) x h++([]:List Fact)))):=hC
 refine lp _ (qap e34 e33)<|ln (hK60 _ _ ?_)
 refine Wc.seq fun _ hK61=>?_
 refine Wc.cond (t:=(decide (Q<(z.length:Int)))) (rfl) (fun hq62=>?_) (fun hq62=>?_)
 replace hb:=tt hq62 hb
 refine Wc.skip (hK61 _ _ ?_)
 refine Wc.seq fun _ hK63=>?_
 refine Wc.block<|Wc.seq fun _ hK64=>rg<|lp _ (qaa e34) ?_
 obtain ⟨x65,h66,hb⟩:=bd hb
 obtain ⟨ad67,cs68,hA,hc69,hr70⟩:=hC.elr (i:=8) rfl (qac h66).2
 subst hA
 refine lp (.pointer (some (ad67.add (Q.toNat*2)))) (qaf (a:=Q) underlying33 sizeOf67 e32 e34 (qac h66).1) ?_
 replace hC:Cx _ O0 w _ ([_,_,_,_,_,_,_,_,.ro (.sl (.pr si si)) [.slice (some ad67) z.length U] z]++(rowsF 58 (.pr si si) D j++(rowsF 58 (.pr si si) x h++([]:List Fact)))):=hC
 obtain ⟨k71,k72,rfl,hr73,hr74⟩:=hr70
 obtain ⟨rfl,hr73⟩:=hr73
 obtain ⟨rfl,hr74⟩:=hr74
 refine lv (.agg #[iv x65.1,iv x65.2]) (ld_agg isAgg67 sizeOf67 rfl rfl hc69)<|lex.op (hC.alloc (cs:=[iv 0,iv 0]) zeroValue67 rfl) ?_
 rintro _ w76 ⟨g75,rfl,hC,hF,-⟩
 replace hC:Cx _ O0 w _ ([.box g75 67 [iv 0,iv 0],_,_,_,_,_,_,_,_,_]++(rowsF 58 (.pr si si) D j++(rowsF 58 (.pr si si) x h++([]:List Fact)))):=hC
 refine lp (iv Q) (qab rfl)<|lex.sk (hC.seta (i:=0) (ds:=[iv x65.1,iv x65.2]) rfl type67 rfl rfl rfl rfl rfl) ?_
 rintro w78 ⟨hC,hF⟩
 refine ln (hK64 _ _ ?_)
 refine Wc.seq fun _ hK79=>?_
 refine Wc.regionMix [] (frm [] ([]:List Fact) ([]:List Fact)) (fun _=>rfl) mixed (by decide+kernel) (by decide+kernel) fun w81 hw80=>?_
 replace hC:=hC.step (Fr.qbb hw80)
 have hM:=Fr.refl (fun k=>k∈blocks ([]:List Fact)) w81
 clear hw80
 have hS:=hC
 replace hC:Cx _ O0 w _ ([.box g75 67 [iv x65.1,iv x65.2],_,_,_,_,_,_,_,_,_]++(rowsF 58 (.pr si si) D j++(rowsF 58 (.pr si si) x h++([]:List Fact)))):=hC
 refine mp (.pointer (some ((⟨g75,0,none⟩:Addr).add 0))) (qeh (A:=⟨g75,0,none⟩) (a:=0) (sz:=1) underlying67 sizeOf3 rfl rfl (by decide))<|mixE.load hM (v:=iv x65.1) (fun _ hF=>qam (hS.bx2 (i:=0) rfl [] (by decide) hF) isAgg3 rfl rfl)<|mp (.pointer (some ((⟨g75,0,none⟩:Addr).add 1))) (qeh (A:=⟨g75,0,none⟩) (a:=1) (sz:=1) underlying67 sizeOf3 rfl rfl (by decide))<|mixE.load hM (v:=iv x65.2) (fun _ hF=>qam (hS.bx2 (i:=0) rfl [] (by decide) hF) isAgg3 rfl rfl)<|mp (iv x65.1) (qab rfl)<|mp (iv x65.2) (qab rfl)<|mixE.nil ?_
 clear hS hM
 refine hK79 _ _<|Wc.fresh fun E82 hE=>?_
 have e2:=cg hE 2 e2
 have e4:=cg hE 4 e4
 have e5:=cg hE 5 e5
 have e6:=cg hE 6 e6
 have e7:=cg hE 7 e7
 have e8:=cg hE 8 e8
 have e9:=cg hE 9 e9
 have e10:E82 10=iv Q:=cg hE 10 rfl
 have e11:E82 11=pg g75:=cg hE 11 rfl
 have e12:E82 12=iv x65.1:=cg hE 12 rfl
 have e13:E82 13=iv x65.2:=cg hE 13 rfl
 have e32:=cg hE 32 e32
 have e33:=cg hE 33 e33
 have e34:=cg hE 34 e34
 have e35:E82 35=.bool (decide (Q<(z.length:Int))):=cg hE 35 rfl
 clear hE
 refine Wc.seq fun _ hK83=>?_
 refine Wc.regionMix [] (frm [] ([]:List Fact) ([]:List Fact)) (fun _=>rfl) mixed (by decide+kernel) (by decide+kernel) fun w85 hw84=>?_
 replace hC:=hC.step (Fr.qbb hw84)
 have hM:=Fr.refl (fun k=>k∈blocks ([]:List Fact)) w85
 clear hw84
 have hS:=hC
 replace hC:Cx _ O0 w _ ([_,_,_,_,_,_,_,_,_,_]++(rowsF 58 (.pr si si) D j++(rowsF 58 (.pr si si) x h++([]:List Fact)))):=hC
 refine mp (.pointer (some ((⟨g5,0,none⟩:Addr).add 0))) (qag (sz:=1) underlying24 rfl sizeOf22 (by decide) rfl e2)<|mixE.load hM (v:=.slice N c.length B) (fun _ hF=>qam (hS.bx2 (i:=1) rfl [] (by decide) hF) isAgg22 rfl rfl)<|mp (iv x65.1) (qaa e12) ?_
 obtain ⟨x86,h87,hb⟩:=bd hb
 obtain ⟨ad88,cs89,hA,ho92,hc90,hr91⟩:=hS.elr2 (i:=2) rfl (qac h87).2 []
 subst hA
 refine mp (.pointer (some (ad88.add (x65.1.toNat*1)))) (qaf (a:=x65.1) underlying22 sizeOf3 rfl rfl (qac h87).1) ?_
 replace hC:Cx _ O0 w _ ([_,.box g5 24 [.slice (some ad88) c.length B,.slice M o.length C],.ro (.sl si) [.slice (some ad88) c.length B] c,_,_,_,_,_,_,_]++(rowsF 58 (.pr si si) D j++(rowsF 58 (.pr si si) x h++([]:List Fact)))):=hC
 obtain ⟨rfl,hr91'⟩:=hr91
 refine mixE.load hM (v:=iv x86) (fun _ hF=>qaj isAgg3 rfl (hF.cell (hc90 0 _ rfl) (off1 ho92)))<|mp (.pointer (some ((⟨g5,0,none⟩:Addr).add 1))) (qag (sz:=1) underlying24 rfl sizeOf22 (by decide) rfl e2)<|mixE.load hM (v:=.slice M o.length C) (fun _ hF=>qam (hS.bx2 (i:=1) rfl [] (by decide) hF) isAgg22 rfl rfl)<|mp (iv x65.1) (qaa e12) ?_
 obtain ⟨x93,h94,hb⟩:=bd hb
 obtain ⟨ad95,cs96,hA,ho99,hc97,hr98⟩:=hS.elr2 (i:=3) rfl (qac h94).2 []
 subst hA
 refine mp (.pointer (some (ad95.add (x65.1.toNat*1)))) (qaf (a:=x65.1) underlying22 sizeOf3 rfl rfl (qac h94).1) ?_
 replace hC:Cx _ O0 w _ ([_,.box g5 24 [.slice (some ad88) c.length B,.slice (some ad95) o.length C],_,.ro (.sl si) [.slice (some ad95) o.length C] o,_,_,_,_,_,_]++(rowsF 58 (.pr si si) D j++(rowsF 58 (.pr si si) x h++([]:List Fact)))):=hC
 obtain ⟨rfl,hr98'⟩:=hr98
 refine mixE.load hM (v:=iv x93) (fun _ hF=>qaj isAgg3 rfl (hF.cell (hc97 0 _ rfl) (off1 ho99)))<|mp (.bool (decide (x86<x93))) (qap (k:=.i64) (a:=x86) (b:=x93) rfl rfl)<|mp (.slice A23 y21.length c25) (qaa e9)<|mp (iv x65.2) (qaa e13) ?_
 obtain ⟨x100,h101,hb⟩:=bd hb
 obtain ⟨ad102,cs103,hA,ho106,hc104,hr105⟩:=hS.elo2 (i:=8) rfl (qac h101).2 [] (by decide)
 subst hA
 refine mp (.pointer (some (ad102.add (x65.2.toNat*1)))) (qaf (a:=x65.2) underlying22 sizeOf3 rfl rfl (qac h101).1) ?_
 replace hC:Cx _ O0 w _ ([_,_,_,_,_,_,_,_,.own 3 si (.slice (some ad102) y21.length c25) y21,_]++(rowsF 58 (.pr si si) D j++(rowsF 58 (.pr si si) x h++([]:List Fact)))):=hC
 obtain ⟨rfl,hr105'⟩:=hr105
 refine mixE.load hM (v:=iv x100) (fun _ hF=>qaj isAgg3 rfl (hF.cell (hc104 0 _ rfl) (off1 ho106)))<|mp (.slice A14 y12.length c16) (qaa e8)<|mp (iv x65.2) (qaa e13) ?_
 obtain ⟨x107,h108,hb⟩:=bd hb
 obtain ⟨ad109,cs110,hA,ho113,hc111,hr112⟩:=hS.elo2 (i:=7) rfl (qac h108).2 [] (by decide)
 subst hA
 refine mp (.pointer (some (ad109.add (x65.2.toNat*1)))) (qaf (a:=x65.2) underlying22 sizeOf3 rfl rfl (qac h108).1) ?_
 replace hC:Cx _ O0 w _ ([_,_,_,_,_,_,_,.own 3 si (.slice (some ad109) y12.length c16) y12,_,_]++(rowsF 58 (.pr si si) D j++(rowsF 58 (.pr si si) x h++([]:List Fact)))):=hC
 obtain ⟨rfl,hr112'⟩:=hr112
 refine mixE.load hM (v:=iv x107) (fun _ hF=>qaj isAgg3 rfl (hF.cell (hc111 0 _ rfl) (off1 ho113)))<|mp (.bool (decide (x100<x107))) (qap (k:=.i64) (a:=x100) (b:=x107) rfl rfl)<|mp (.bool (decide (x86<x93))) (qab rfl)<|mp (.bool (decide (x100<x107))) (qab rfl)<|mixE.nil ?_
 clear hS hM
 refine hK83 _ _<|Wc.fresh fun E114 hE=>?_
 have e2:=cg hE 2 e2
 have e4:=cg hE 4 e4
 have e5:=cg hE 5 e5
 have e6:=cg hE 6 e6
 have e7:=cg hE 7 e7
 have e8:=cg hE 8 e8
 have e9:=cg hE 9 e9
 have e10:=cg hE 10 e10
 have e11:=cg hE 11 e11
 have e12:=cg hE 12 e12
 have e13:=cg hE 13 e13
 have e14:E114 14=.bool (decide (x86<x93)):=cg hE 14 rfl
 have e15:E114 15=.bool (decide (x100<x107)):=cg hE 15 rfl
 have e32:=cg hE 32 e32
 have e33:=cg hE 33 e33
 have e34:=cg hE 34 e34
 have e35:=cg hE 35 e35
 clear hE
 refine Wc.seq fun _ hK115=>rg<|lp _ (qaa e10) ?_
 obtain ⟨z116,h117,hb⟩:=bd hb
 refine lp (iv z116) (qbx (a:=4) (b:=Q) rfl rfl h117) ?_
 obtain ⟨z118,h119,hb⟩:=bd hb
 refine lp (iv z118) (qal (a:=z116) (b:=1) rfl rfl h119)<|lp _ (qaa e10) ?_
 obtain ⟨z120,h121,hb⟩:=bd hb
 refine lp (iv z120) (qbx (a:=4) (b:=Q) rfl rfl h121) ?_
 obtain ⟨z122,h123,hb⟩:=bd hb
 refine lp (iv z122) (qal (a:=z120) (b:=3) rfl rfl h123)<|lp (.agg #[iv z118,iv z122]) (qbr (places:=[(0,1),(1,1)]) (pv:=[(0,iv z118),(1,iv z122)]) type58 underlying58 rfl (qar type3 (qar type3 qco rfl rfl) rfl rfl) rfl (by simp [Instr.fill,Value.cells]))<|lex.op (hC.alloc (cs:=[iv 0,iv 0]) zeroValue58 rfl) ?_
 rintro _ w125 ⟨g124,rfl,hC,hF,-⟩
 replace hC:Cx _ O0 w _ ([.box g124 58 [iv 0,iv 0],_,_,_,_,_,_,_,_,_,_]++(rowsF 58 (.pr si si) D j++(rowsF 58 (.pr si si) x h++([]:List Fact)))):=hC
 refine lp (iv (-1)) (qab rfl)<|lex.sk (hC.seta (i:=0) (ds:=[iv z118,iv z122]) rfl type58 rfl rfl rfl rfl rfl) ?_
 rintro w127 ⟨hC,hF⟩
 refine ln (hK115 _ _ ?_)
 refine Wc.seqJ (fun E wv=> ∃(X:Int) (b3:Bool) (d:Int) (f:Int),E 2=pg g5∧E 4=.slice R J.length S∧E 5=.slice A36 (((List.replicate (c.length:Int).toNat (Value.slice none 0 0))).length) c37∧E 6=.slice A44 (((List.replicate (c.length:Int).toNat (Value.slice none 0 0))).length) c45∧E 7=iv (c.length:Int)∧E 8=.slice (some ad109) y12.length c16∧E 9=.slice (some ad102) y21.length c25∧E 10=iv Q∧E 11=pg g75∧E 12=iv x65.1∧E 13=iv x65.2∧E 14=.bool (decide (x86<x93))∧E 15=.bool (decide (x100<x107))∧E 16=iv X∧E 17=pg g124∧E 32=.slice (some ad67) z.length U∧E 33=iv (z.length:Int)∧E 34=iv Q∧E 35=.bool (decide (Q<(z.length:Int)))∧E 72=.bool b3∧I64 X∧I64 d∧I64 f∧Cx (fun _=>False) O0 w wv ([.box g5 24 [.slice (some ad88) c.length B,.slice (some ad95) o.length C],.ro (.sl si) [.slice (some ad88) c.length B] c,.ro (.sl si) [.slice (some ad95) o.length C] o,.own 3 si (.slice R J.length S) J,.own 56 .raw (.slice A36 (((List.replicate (c.length:Int).toNat (Value.slice none 0 0))).length) c37) x,.own 56 .raw (.slice A44 (((List.replicate (c.length:Int).toNat (Value.slice none 0 0))).length) c45) D,.own 3 si (.slice (some ad109) y12.length c16) y12,.own 3 si (.slice (some ad102) y21.length c25) y21,.box g75 67 [iv x65.1,iv x65.2],.box g124 58 [iv d,iv f],.ro (.sl (.pr si si)) [.slice (some ad67) z.length U] z]++(rowsF 58 (.pr si si) D j++(rowsF 58 (.pr si si) x h++([]:List Fact))))∧F.qcj n J Q h j x65 X b3 d f=some o59) (fun _ hK128=>?_) ?_
 refine Wc.seq fun _ hK129=>rg ?_
 replace hC:Cx _ O0 w _ ([.box g124 58 [iv z118,iv z122],_,_,_,_,_,_,_,_,_,_]++(rowsF 58 (.pr si si) D j++(rowsF 58 (.pr si si) x h++([]:List Fact)))):=hC
 refine lp _ (qaa e14)<|lp _ (qaa e15)<|lp (.bool (!((decide (x86<x93)) == (decide (x100<x107))))) (pu_neqb (p:=(decide (x86<x93))) (q:=(decide (x100<x107))) underlying4 rfl rfl)<|ln (hK129 _ _ ?_)
 refine Wc.fresh fun E130 hE=>?_
 have e2:=cg hE 2 e2
 have e4:=cg hE 4 e4
 have e5:=cg hE 5 e5
 have e6:=cg hE 6 e6
 have e7:=cg hE 7 e7
 have e8:=cg hE 8 e8
 have e9:=cg hE 9 e9
 have e10:=cg hE 10 e10
 have e11:=cg hE 11 e11
 have e12:=cg hE 12 e12
 have e13:=cg hE 13 e13
 have e14:=cg hE 14 e14
 have e15:=cg hE 15 e15
 have e16:E130 16=iv (-1):=cg hE 16 rfl
 have e17:E130 17=pg g124:=cg hE 17 rfl
 have e32:=cg hE 32 e32
 have e33:=cg hE 33 e33
 have e34:=cg hE 34 e34
 have e35:=cg hE 35 e35
 have e72:E130 72=.bool (!((decide (x86<x93)) == (decide (x100<x107)))):=cg hE 72 rfl
 clear hE
 refine Wc.cond (t:=(!((decide (x86<x93)) == (decide (x100<x107))))) (e72) (fun hq131=>?_) (fun hq131=>?_)
 replace hb:=tt hq131 hb
 refine rg<|lp _ (qaa e10) ?_
 obtain ⟨z132,h133,hb⟩:=bd hb
 refine lp (iv z132) (qbx (a:=4) (b:=Q) rfl rfl h133) ?_
 obtain ⟨z134,h135,hb⟩:=bd hb
 refine lp (iv z134) (qal (a:=z132) (b:=3) rfl rfl h135)<|lp _ (qaa e10) ?_
 obtain ⟨z136,h137,hb⟩:=bd hb
 refine lp (iv z136) (qbx (a:=4) (b:=Q) rfl rfl h137) ?_
 obtain ⟨z138,h139,hb⟩:=bd hb
 refine lp (iv z138) (qal (a:=z136) (b:=1) rfl rfl h139)<|lp (.agg #[iv z134,iv z138]) (qbr (places:=[(0,1),(1,1)]) (pv:=[(0,iv z134),(1,iv z138)]) type58 underlying58 rfl (qar type3 (qar type3 qco rfl rfl) rfl rfl) rfl (by simp [Instr.fill,Value.cells]))<|lp (iv 1) (qab rfl)<|lex.sk (hC.seta (i:=0) (ds:=[iv z134,iv z138]) rfl type58 rfl rfl rfl e17 rfl) ?_
 rintro w140 ⟨hC,hF⟩
 refine ln ?_
 replace hC:Cx _ O0 w _ ([.box g124 58 [iv z134,iv z138],_,_,_,_,_,_,_,_,_,_]++(rowsF 58 (.pr si si) D j++(rowsF 58 (.pr si si) x h++([]:List Fact)))):=hC
 exact hK128 _ _ ⟨1,(!((decide (x86<x93)) == (decide (x100<x107)))),z134,z138,e2,e4,e5,e6,e7,e8,e9,e10,e11,e12,e13,e14,e15,rfl,e17,e32,e33,e34,e35,e72,(show I64 1 from by unfold I64; omega),(qai h135),(qai h139),hC.selT [2,3,4,5,6,7,8,9,1,0,10] (by decide),hb⟩
 replace hb:=tf hq131 hb
 refine Wc.skip ?_
 exact hK128 _ _ ⟨(-1),(!((decide (x86<x93)) == (decide (x100<x107)))),z118,z122,e2,e4,e5,e6,e7,e8,e9,e10,e11,e12,e13,e14,e15,e16,e17,e32,e33,e34,e35,e72,(show I64 (-1) from by unfold I64; omega),(qai h119),(qai h123),hC.selT [2,3,4,5,6,7,8,9,1,0,10] (by decide),hb⟩
 clear hb hC
 rintro E142 w141 ⟨X,b3,d,f,e2,e4,e5,e6,e7,e8,e9,e10,e11,e12,e13,e14,e15,e16,e17,e32,e33,e34,e35,e72,b6,c4,c5,hC,hb⟩
 unfold F.qcj at hb
 refine Wc.seq fun _ hK143=>rg ?_
 replace hC:Cx _ O0 w _ ([_,_,_,_,_,_,_,_,_,.box g124 58 [iv d,iv f],_]++(rowsF 58 (.pr si si) D j++(rowsF 58 (.pr si si) x h++([]:List Fact)))):=hC
 refine lp _ (qaa e4)<|lp _ (qaa e16)<|lex.op (hC.lit (s:=si) (vs:=[iv X]) (xs:=[X]) underlying22 type3 rfl rfl (nb rfl) rfl rfl (by simp [Value.cells,Sh.n]) rfl (show Elems _ _ si ([iv X]++([])) ([X]:List Int) from Elems.cons (⟨rfl,I64.wr b6⟩) (Elems.nil _ _ _))) ?_
 rintro _ w148 ⟨A144,c145,rfl,hl146,hc147,hC,-,-⟩
 replace hC:Cx _ O0 w _ ([.own 3 si (.slice A144 ((([X]:List Int)).length) c145) ([X]:List Int),_,_,_,_,_,_,_,_,_,_,_]++(rowsF 58 (.pr si si) D j++(rowsF 58 (.pr si si) x h++([]:List Fact)))):=hC
 obtain ⟨u150,h151,hb⟩:=bd hb
 refine lex.op (hC.app (i:=4) (s:=si) (xs:=J) (ys:=([X]:List Int)) (m:=((([X]:List Int)).length)) rfl underlying22 underlying22 type3 rfl rfl rfl (hC.srco (i:=0) rfl) rfl rfl (by have:=qaw h151; simp at this⊢ <;>omega) (by decide)) ?_
 rintro _ w156 ⟨A152,c153,rfl,hl154,hc155,hC,-,-⟩
 replace hC:Cx _ O0 w _ ([_,_,_,_,.own 3 si (.slice A152 ((J++([X]:List Int)).length) c153) (J++([X]:List Int)),_,_,_,_,_,_,_]++(rowsF 58 (.pr si si) D j++(rowsF 58 (.pr si si) x h++([]:List Fact)))):=hC
 refine lp (.slice A152 ((J++([X]:List Int)).length) c153) (qab rfl)<|ln (hK143 _ _ ?_)
 refine Wc.seq fun _ hK157=>?_
 obtain ⟨x158,h159,hb⟩:=bd hb
 obtain ⟨v160,hv161,-⟩:=qcr (e:=58) (s:=(.pr si si)) a3 (qac h159).2
 replace hC:=hC.swapT
 replace hC:Cx _ O0 w _ ([_,_,_,_,_,_,_,_,_,_,_,_]++(rowsF 58 (.pr si si) x h++(rowsF 58 (.pr si si) D j++([]:List Fact)))):=hC
 replace hC:=Cx.takeRow hC hv161 (qac h159).2
 obtain ⟨A162,c163,hvf166,hl164,hc165⟩:=(hC.ow (i:=0) rfl).form
 subst hvf166
 replace hC:Cx _ O0 w _ ([.own 58 (.pr si si) (.slice A162 x158.length c163) x158,_,_,_,_,_,_,_,_,_,_,_,_]++((rowsF 58 (.pr si si) x h).eraseIdx x65.1.toNat++(rowsF 58 (.pr si si) D j++([]:List Fact)))):=hC
 refine Wc.regionMix [90] (frm [90] [.own 58 (.pr si si) (.slice A162 x158.length c163) x158] [.own 56 .raw (.slice A36 (((List.replicate (c.length:Int).toNat (Value.slice none 0 0))).length) c37) x]) (fun _=>rfl) mixed (by decide+kernel) (by decide+kernel) fun w169 hw168=>?_
 replace hC:=hC.step (Fr.qbb hw168)
 have hM:=Fr.refl (fun k=>k∈blocks [.own 58 (.pr si si) (.slice A162 x158.length c163) x158]) w169
 clear hw168
 have hS:=hC
 have hBf167:Beside [.own 58 (.pr si si) (.slice A162 x158.length c163) x158] w169 (.slice A162 x158.length c163):=Beside.of (i:=0) rfl
 have hD:Fr (fun k=>k∈blocks ([.own 58 (.pr si si) (.slice A162 x158.length c163) x158]++[.own 56 .raw (.slice A36 (((List.replicate (c.length:Int).toNat (Value.slice none 0 0))).length) c37) x])) w169 w169:=hM.wide
 have hUf167:Beside ([.own 58 (.pr si si) (.slice A162 x158.length c163) x158]++[.own 56 .raw (.slice A36 (((List.replicate (c.length:Int).toNat (Value.slice none 0 0))).length) c37) x]) w169 (.slice A162 x158.length c163):=Beside.of (i:=0) rfl
 have hUf41:Beside ([.own 58 (.pr si si) (.slice A162 x158.length c163) x158]++[.own 56 .raw (.slice A36 (((List.replicate (c.length:Int).toNat (Value.slice none 0 0))).length) c37) x]) w169 (.slice A36 (((List.replicate (c.length:Int).toNat (Value.slice none 0 0))).length) c37):=Beside.of (i:=1) rfl
 replace hC:Cx _ O0 w _ ([_,_,_,_,_,_,_,_,_,_,_,_,_]++((rowsF 58 (.pr si si) x h).eraseIdx x65.1.toNat++(rowsF 58 (.pr si si) D j++([]:List Fact)))):=hC
 refine mp (.slice A36 (((List.replicate (c.length:Int).toNat (Value.slice none 0 0))).length) c37) (qaa e5)<|mp (iv x65.1) (qaa e12)<|mp (.slice A36 (((List.replicate (c.length:Int).toNat (Value.slice none 0 0))).length) c37) (qaa e5)<|mp (iv x65.1) (qaa e12) ?_
 obtain ⟨x170,h171,hb⟩:=bd hb
 obtain ⟨v176,hv177,-⟩:=qcr (e:=58) (s:=(.pr si si)) a3 (qac h171).2
 obtain ⟨ad172,cs173,hA,ho178,hc174,hr175⟩:=hS.elo2 (i:=6) rfl hv177 [0] (by decide)
 subst hA
 refine mp (.pointer (some (ad172.add (x65.1.toNat*1)))) (qaf (a:=x65.1) underlying51 sizeOf56 rfl rfl (by rw [(hC.ow (i:=6) rfl).qad.1,a3]; exact (qac h171).1)) ?_
 replace hC:Cx _ O0 w _ ([_,_,_,_,_,_,.own 56 .raw (.slice (some ad172) (((List.replicate (c.length:Int).toNat (Value.slice none 0 0))).length) c37) x,_,_,_,_,_,_]++((rowsF 58 (.pr si si) x h).eraseIdx x65.1.toNat++(rowsF 58 (.pr si si) D j++([]:List Fact)))):=hC
 obtain rfl:=Option.some.inj (hv177.symm.trans hv161)
 obtain ⟨rfl,-⟩:=hr175
 refine mixE.load hM (v:=.slice A162 x158.length c163) (fun _ hF=>qaj isAgg56 rfl (hF.cell (hc174 0 _ rfl) (off1 ho178)))<|mixE.steady hD (v:=.agg #[iv d,iv f]) (fun _ hF=>qbs (hS.bx2 (i:=11) rfl [0,6] (by decide) hF) isAgg58 sizeOf58 e17)<|mixE.op hM (hC.lit (s:=(.pr si si)) (vs:=[.agg #[iv d,iv f]]) (xs:=[(d,f)]) underlying56 type58 rfl rfl (nb rfl) rfl rfl (by simp [Value.cells,Sh.n]) rfl (show Elems _ _ (.pr si si) ([iv d,iv f]++([])) ([(d,f)]:List (Int×Int)) from Elems.cons (⟨[iv d],[iv f],rfl,⟨rfl,I64.wr c4⟩,⟨rfl,I64.wr c5⟩⟩) (Elems.nil _ _ _))) ?_
 rintro _ w183 ⟨A179,c180,rfl,hl181,hc182,hC,hF,hN⟩
 have hBf184:=Beside.new hM hN
 have hUf184:=Beside.new (hM.wide (H:=[.own 56 .raw (.slice (some ad172) (((List.replicate (c.length:Int).toNat (Value.slice none 0 0))).length) c37) x])) hN
 replace hM:=hM.none hF
 replace hD:=hM.wide (H:=[.own 56 .raw (.slice (some ad172) (((List.replicate (c.length:Int).toNat (Value.slice none 0 0))).length) c37) x])
 refine ⟨hM,?_⟩
 clear hF hN
 replace hC:Cx _ O0 w _ ([.own 58 (.pr si si) (.slice A179 ((([(d,f)]:List (Int×Int))).length) c180) ([(d,f)]:List (Int×Int)),_,_,_,_,_,_,_,_,_,_,_,_,_]++((rowsF 58 (.pr si si) x h).eraseIdx x65.1.toNat++(rowsF 58 (.pr si si) D j++([]:List Fact)))):=hC
 obtain ⟨u185,h186,hb⟩:=bd hb
 refine mixE.op hM (hC.app (i:=1) (s:=(.pr si si)) (xs:=x158) (ys:=([(d,f)]:List (Int×Int))) (m:=((([(d,f)]:List (Int×Int))).length)) rfl underlying56 underlying56 type58 rfl rfl rfl (hC.srco (i:=0) rfl) rfl rfl (by have:=qaw h186; simp at this⊢ <;>omega) (by decide)) ?_
 rintro _ w191 ⟨A187,c188,rfl,hl189,hc190,hC,hF,hN⟩
 have hB:=hBf167
 replace hBf167:=hB.app hM hN
 replace hM:=hM.beside hB hF
 clear hB
 replace hD:=hM.wide (H:=[.own 56 .raw (.slice (some ad172) (((List.replicate (c.length:Int).toNat (Value.slice none 0 0))).length) c37) x])
 refine ⟨hM,?_⟩
 clear hF hN
 replace hC:Cx _ O0 w _ ([_,.own 58 (.pr si si) (.slice A187 ((x158++([(d,f)]:List (Int×Int))).length) c188) (x158++([(d,f)]:List (Int×Int))),_,_,_,_,_,_,_,_,_,_,_,_]++((rowsF 58 (.pr si si) x h).eraseIdx x65.1.toNat++(rowsF 58 (.pr si si) D j++([]:List Fact)))):=hC
 obtain ⟨x192,h193,hb⟩:=bd hb
 obtain ⟨v198,hv199,-⟩:=qcr (e:=58) (s:=(.pr si si)) a3 (qac h193).2
 obtain ⟨ad194,cs195,hA,ho200,hc196,hr197⟩:=hS.elo2 (i:=6) rfl hv199 [0] (by decide)
 obtain rfl:=Option.some.inj hA
 refine mp (.pointer (some (ad172.add (x65.1.toNat*1)))) (qaf (a:=x65.1) underlying51 sizeOf56 rfl rfl (by rw [(hC.ow (i:=7) rfl).qad.1,a3]; exact (qac h193).1))<|mixE.sk hD (hC.put (i:=7) (s:=.raw) rfl rfl sizeOf56 (k:=x65.1.toNat) (a:=Value.slice A187 ((x158++([(d,f)]:List (Int×Int))).length) c188) (by rw [a3]; exact (List.getElem?_eq_some_iff.1 (qac h193).2).1) (show Rep _ _ .raw [Value.slice A187 ((x158++([(d,f)]:List (Int×Int))).length) c188] (Value.slice A187 ((x158++([(d,f)]:List (Int×Int))).length) c188) from ⟨rfl,rfl⟩) rfl rfl rfl) ?_
 rintro w201 ⟨hC,hF⟩
 replace hD:=hD.beside hUf41 hF
 clear hF
 refine ⟨hD,?_⟩
 replace hC:Cx _ O0 w _ ([_,_,_,_,_,_,_,.own 56 .raw (.slice (some ad172) (((List.replicate (c.length:Int).toNat (Value.slice none 0 0))).length) c37) (x.set x65.1.toNat (Value.slice A187 ((x158++([(d,f)]:List (Int×Int))).length) c188)),_,_,_,_,_,_]++((rowsF 58 (.pr si si) x h).eraseIdx x65.1.toNat++(rowsF 58 (.pr si si) D j++([]:List Fact)))):=hC
 replace hC:=hC.selT [1,0,2,3,4,5,6,7,8,9,10,11,12,13] (by decide)
 replace hC:=Cx.putRow hC a3 (List.getElem?_eq_some_iff.1 (qac h193).2).1
 have hN202:(x.set x65.1.toNat (Value.slice A187 ((x158++([(d,f)]:List (Int×Int))).length) c188)).length=(h.set x65.1.toNat (x158++([(d,f)]:List (Int×Int)))).length:=lenset a3 _ _ _ _
 replace hC:Cx _ O0 w _ ([_,_,_,_,_,_,_,_,_,_,_,_,_]++(rowsF 58 (.pr si si) (x.set x65.1.toNat (Value.slice A187 ((x158++([(d,f)]:List (Int×Int))).length) c188)) (h.set x65.1.toNat (x158++([(d,f)]:List (Int×Int))))++(rowsF 58 (.pr si si) D j++([]:List Fact)))):=hC
 refine mixE.nil ?_
 clear hS hM
 clear hD
 refine hK157 _ _<|Wc.fresh fun E203 hE=>?_
 have e2:=cg hE 2 e2
 have e4:E203 4=.slice A152 ((J++([X]:List Int)).length) c153:=cg hE 4 rfl
 have e5:=cg hE 5 e5
 have e6:=cg hE 6 e6
 have e7:=cg hE 7 e7
 have e8:=cg hE 8 e8
 have e9:=cg hE 9 e9
 have e10:=cg hE 10 e10
 have e11:=cg hE 11 e11
 have e12:=cg hE 12 e12
 have e13:=cg hE 13 e13
 have e14:=cg hE 14 e14
 have e15:=cg hE 15 e15
 have e16:=cg hE 16 e16
 have e17:=cg hE 17 e17
 have e32:=cg hE 32 e32
 have e33:=cg hE 33 e33
 have e34:=cg hE 34 e34
 have e35:=cg hE 35 e35
 have e72:=cg hE 72 e72
 clear hE
 refine rg<|lp _ (qaa e6)<|lp _ (qaa e13)<|lp _ (qaa e6)<|lp _ (qaa e13) ?_
 obtain ⟨x204,h205,hb⟩:=bd hb
 obtain ⟨v210,hv211,-⟩:=qcr (e:=58) (s:=(.pr si si)) a4 (qac h205).2
 obtain ⟨ad206,cs207,hA,hc208,hr209⟩:=hC.elo (i:=7) rfl hv211
 subst hA
 refine lp (.pointer (some (ad206.add (x65.2.toNat*1)))) (qaf (a:=x65.2) underlying51 sizeOf56 rfl rfl (by rw [(hC.ow (i:=7) rfl).qad.1,a4]; exact (qac h205).1)) ?_
 replace hC:Cx _ O0 w _ ([_,_,_,_,_,_,_,.own 56 .raw (.slice (some ad206) (((List.replicate (c.length:Int).toNat (Value.slice none 0 0))).length) c45) D,_,_,_,_,_]++(rowsF 58 (.pr si si) (x.set x65.1.toNat (Value.slice A187 ((x158++([(d,f)]:List (Int×Int))).length) c188)) (h.set x65.1.toNat (x158++([(d,f)]:List (Int×Int))))++(rowsF 58 (.pr si si) D j++([]:List Fact)))):=hC
 replace hC:=hC.swapT
 replace hC:Cx _ O0 w _ ([_,_,_,_,_,_,_,_,_,_,_,_,_]++(rowsF 58 (.pr si si) D j++(rowsF 58 (.pr si si) (x.set x65.1.toNat (Value.slice A187 ((x158++([(d,f)]:List (Int×Int))).length) c188)) (h.set x65.1.toNat (x158++([(d,f)]:List (Int×Int))))++([]:List Fact)))):=hC
 replace hC:=Cx.takeRow hC hv211 (qac h205).2
 obtain ⟨A212,c213,hvf216,hl214,hc215⟩:=(hC.ow (i:=0) rfl).form
 subst hvf216
 obtain ⟨rfl,-⟩:=hr209
 replace hC:Cx _ O0 w _ ([.own 58 (.pr si si) (.slice A212 x204.length c213) x204,_,_,_,_,_,_,_,_,_,_,_,_,_]++((rowsF 58 (.pr si si) D j).eraseIdx x65.2.toNat++(rowsF 58 (.pr si si) (x.set x65.1.toNat (Value.slice A187 ((x158++([(d,f)]:List (Int×Int))).length) c188)) (h.set x65.1.toNat (x158++([(d,f)]:List (Int×Int))))++([]:List Fact)))):=hC
 refine lv (.slice A212 x204.length c213) (qaj isAgg56 rfl (hc208 0 _ rfl))<|lp _ (qaa e10) ?_
 obtain ⟨z218,h219,hb⟩:=bd hb
 refine lp (iv z218) (qbx (a:=4) (b:=Q) rfl rfl h219)<|lp _ (qaa e10) ?_
 obtain ⟨z220,h221,hb⟩:=bd hb
 refine lp (iv z220) (qbx (a:=4) (b:=Q) rfl rfl h221) ?_
 obtain ⟨z222,h223,hb⟩:=bd hb
 refine lp (iv z222) (qal (a:=z220) (b:=2) rfl rfl h223)<|lp (.agg #[iv z218,iv z222]) (qbr (places:=[(0,1),(1,1)]) (pv:=[(0,iv z218),(1,iv z222)]) type58 underlying58 rfl (qar type3 (qar type3 qco rfl rfl) rfl rfl) rfl (by simp [Instr.fill,Value.cells]))<|lex.op (hC.lit (s:=(.pr si si)) (vs:=[.agg #[iv z218,iv z222]]) (xs:=[(z218,z222)]) underlying56 type58 rfl rfl (nb rfl) rfl rfl (by simp [Value.cells,Sh.n]) rfl (show Elems _ _ (.pr si si) ([iv z218,iv z222]++([])) ([(z218,z222)]:List (Int×Int)) from Elems.cons (⟨[iv z218],[iv z222],rfl,⟨rfl,I64.wr (qai h219)⟩,⟨rfl,I64.wr (qai h223)⟩⟩) (Elems.nil _ _ _))) ?_
 rintro _ w228 ⟨A224,c225,rfl,hl226,hc227,hC,-,-⟩
 replace hC:Cx _ O0 w _ ([.own 58 (.pr si si) (.slice A224 ((([(z218,z222)]:List (Int×Int))).length) c225) ([(z218,z222)]:List (Int×Int)),_,_,_,_,_,_,_,_,_,_,_,_,_,_]++((rowsF 58 (.pr si si) D j).eraseIdx x65.2.toNat++(rowsF 58 (.pr si si) (x.set x65.1.toNat (Value.slice A187 ((x158++([(d,f)]:List (Int×Int))).length) c188)) (h.set x65.1.toNat (x158++([(d,f)]:List (Int×Int))))++([]:List Fact)))):=hC
 obtain ⟨u230,h231,hb⟩:=bd hb
 refine lex.op (hC.app (i:=1) (s:=(.pr si si)) (xs:=x204) (ys:=([(z218,z222)]:List (Int×Int))) (m:=((([(z218,z222)]:List (Int×Int))).length)) rfl underlying56 underlying56 type58 rfl rfl rfl (hC.srco (i:=0) rfl) rfl rfl (by have:=qaw h231; simp at this⊢ <;>omega) (by decide)) ?_
 rintro _ w236 ⟨A232,c233,rfl,hl234,hc235,hC,-,-⟩
 replace hC:Cx _ O0 w _ ([_,.own 58 (.pr si si) (.slice A232 ((x204++([(z218,z222)]:List (Int×Int))).length) c233) (x204++([(z218,z222)]:List (Int×Int))),_,_,_,_,_,_,_,_,_,_,_,_,_]++((rowsF 58 (.pr si si) D j).eraseIdx x65.2.toNat++(rowsF 58 (.pr si si) (x.set x65.1.toNat (Value.slice A187 ((x158++([(d,f)]:List (Int×Int))).length) c188)) (h.set x65.1.toNat (x158++([(d,f)]:List (Int×Int))))++([]:List Fact)))):=hC
 obtain ⟨x237,h238,hb⟩:=bd hb
 obtain ⟨v243,hv244,-⟩:=qcr (e:=58) (s:=(.pr si si)) a4 (qac h238).2
 obtain ⟨ad239,cs240,hA,hc241,hr242⟩:=hC.elo (i:=9) rfl hv244
 obtain rfl:=Option.some.inj hA
 refine lp (.pointer (some (ad206.add (x65.2.toNat*1)))) (qaf (a:=x65.2) underlying51 sizeOf56 rfl rfl (by rw [(hC.ow (i:=9) rfl).qad.1,a4]; exact (qac h238).1))<|lex.sk (hC.put (i:=9) (s:=.raw) rfl rfl sizeOf56 (k:=x65.2.toNat) (a:=Value.slice A232 ((x204++([(z218,z222)]:List (Int×Int))).length) c233) (by rw [a4]; exact (List.getElem?_eq_some_iff.1 (qac h238).2).1) (show Rep _ _ .raw [Value.slice A232 ((x204++([(z218,z222)]:List (Int×Int))).length) c233] (Value.slice A232 ((x204++([(z218,z222)]:List (Int×Int))).length) c233) from ⟨rfl,rfl⟩) rfl rfl rfl) ?_
 rintro w245 ⟨hC,-⟩
 replace hC:Cx _ O0 w _ ([_,_,_,_,_,_,_,_,_,.own 56 .raw (.slice (some ad206) (((List.replicate (c.length:Int).toNat (Value.slice none 0 0))).length) c45) (D.set x65.2.toNat (Value.slice A232 ((x204++([(z218,z222)]:List (Int×Int))).length) c233)),_,_,_,_,_]++((rowsF 58 (.pr si si) D j).eraseIdx x65.2.toNat++(rowsF 58 (.pr si si) (x.set x65.1.toNat (Value.slice A187 ((x158++([(d,f)]:List (Int×Int))).length) c188)) (h.set x65.1.toNat (x158++([(d,f)]:List (Int×Int))))++([]:List Fact)))):=hC
 replace hC:=hC.selT [1,0,2,3,4,5,6,7,8,9,10,11,12,13,14] (by decide)
 replace hC:=Cx.putRow hC a4 (List.getElem?_eq_some_iff.1 (qac h238).2).1
 have hN246:(D.set x65.2.toNat (Value.slice A232 ((x204++([(z218,z222)]:List (Int×Int))).length) c233)).length=(j.set x65.2.toNat (x204++([(z218,z222)]:List (Int×Int)))).length:=lenset a4 _ _ _ _
 replace hC:Cx _ O0 w _ ([_,_,_,_,_,_,_,_,_,_,_,_,_,_]++(rowsF 58 (.pr si si) (D.set x65.2.toNat (Value.slice A232 ((x204++([(z218,z222)]:List (Int×Int))).length) c233)) (j.set x65.2.toNat (x204++([(z218,z222)]:List (Int×Int))))++(rowsF 58 (.pr si si) (x.set x65.1.toNat (Value.slice A187 ((x158++([(d,f)]:List (Int×Int))).length) c188)) (h.set x65.1.toNat (x158++([(d,f)]:List (Int×Int))))++([]:List Fact)))):=hC
 refine ln (hK63 _ _ ?_)
 refine rg ?_
 obtain ⟨z247,h248,hb⟩:=bd hb
 refine lp (iv z247) (qal (a:=Q) (b:=1) e34 rfl h248)<|lp (iv z247) (qaa rfl)<|ln ?_
 obtain rfl:=os hb
 exact hK55 m56' _ _ (Nat.lt_succ_self _) ⟨(J++([X]:List Int)),z247,(h.set x65.1.toNat (x158++([(d,f)]:List (Int×Int)))),(j.set x65.2.toNat (x204++([(z218,z222)]:List (Int×Int)))),A152,(J++([X]:List Int)).length,c153,(x.set x65.1.toNat (Value.slice A187 ((x158++([(d,f)]:List (Int×Int))).length) c188)),(D.set x65.2.toNat (Value.slice A232 ((x204++([(z218,z222)]:List (Int×Int))).length) c233)),e2,e4,e5,e6,e7,e8,e9,e32,e33,rfl,(qai h248),hN202,hN246,hC.selT [3,4,5,6,7,8,9,10,13] (by decide),lN hl0⟩
 replace hb:=tf hq62 hb
 refine Wc.exit rfl ?_
 obtain rfl:=os hb
 obtain rfl:=(lX hl0).symm
 exact hK54 _ _ ⟨J,Q,h,j,R,J.length,S,x,D,e2,e4,e5,e6,e7,e8,e9,b2,a3,a4,hC.selT [0,1,2,3,4,5,6,7] (by decide),hbK0⟩
 clear hb hC hl0
 rintro E250 w249 ⟨J,Q,h,j,R,a7,S,x,D,e2,e4,e5,e6,e7,e8,e9,b2,a3,a4,hC,hb⟩
 obtain ⟨rfl,b8,b9⟩:=(hC.ow (i:=3) rfl).qad
 refine hK50 _ _ ?_
 refine Wc.seq fun _ hK251=>?_
 refine Wc.seq fun _ hK252=>rg ?_
 replace hC:Cx _ O0 w _ ([.box g5 24 [.slice N c.length B,.slice M o.length C],.ro (.sl si) [.slice N c.length B] c,.ro (.sl si) [.slice M o.length C] o,.own 3 si (.slice R J.length S) J,.own 56 .raw (.slice A36 (((List.replicate (c.length:Int).toNat (Value.slice none 0 0))).length) c37) x,.own 56 .raw (.slice A44 (((List.replicate (c.length:Int).toNat (Value.slice none 0 0))).length) c45) D,.own 3 si (.slice A14 y12.length c16) y12,.own 3 si (.slice A23 y21.length c25) y21]++(rowsF 58 (.pr si si) D j++(rowsF 58 (.pr si si) x h++([]:List Fact)))):=hC
 refine lp _ (qaa e7)<|lp (iv 0) (qaa rfl)<|ln (hK252 _ _ ?_)
 obtain ⟨o253,hl2,f253,hf253,hb⟩:=bn hb
 refine Wc.cut (fun E wv=> ∃(g:Int) (L:List (List (Int×Int))) (u:List (List (Int×Int))) (T:List Value) (K:List Value),E 4=.slice R J.length S∧E 5=.slice A36 (((List.replicate (c.length:Int).toNat (Value.slice none 0 0))).length) c37∧E 6=.slice A44 (((List.replicate (c.length:Int).toNat (Value.slice none 0 0))).length) c45∧I64 g∧T.length=L.length∧K.length=u.length∧Cx (fun _=>False) O0 w wv ([.own 3 si (.slice R J.length S) J,.own 56 .raw (.slice A36 (((List.replicate (c.length:Int).toNat (Value.slice none 0 0))).length) c37) T,.own 56 .raw (.slice A44 (((List.replicate (c.length:Int).toNat (Value.slice none 0 0))).length) c45) K]++(rowsF 58 (.pr si si) K u++(rowsF 58 (.pr si si) T L++([]:List Fact))))∧f253 (g,L,u)=some r) (fun _ hK254=>?_) ?_
 refine Wc.block ?_
 refine Wc.loop (fun m E wv=> ∃(g:Int) (L:List (List (Int×Int))) (u:List (List (Int×Int))) (T:List Value) (K:List Value),E 2=pg g5∧E 4=.slice R J.length S∧E 5=.slice A36 (((List.replicate (c.length:Int).toNat (Value.slice none 0 0))).length) c37∧E 6=.slice A44 (((List.replicate (c.length:Int).toNat (Value.slice none 0 0))).length) c45∧E 8=.slice A14 y12.length c16∧E 9=.slice A23 y21.length c25∧E 110=iv (c.length:Int)∧E 111=iv g∧I64 g∧T.length=L.length∧K.length=u.length∧Cx (fun _=>False) O0 w wv ([.box g5 24 [.slice N c.length B,.slice M o.length C],.ro (.sl si) [.slice N c.length B] c,.ro (.sl si) [.slice M o.length C] o,.own 3 si (.slice R J.length S) J,.own 56 .raw (.slice A36 (((List.replicate (c.length:Int).toNat (Value.slice none 0 0))).length) c37) T,.own 56 .raw (.slice A44 (((List.replicate (c.length:Int).toNat (Value.slice none 0 0))).length) c45) K,.own 3 si (.slice A14 y12.length c16) y12,.own 3 si (.slice A23 y21.length c25) y21]++(rowsF 58 (.pr si si) K u++(rowsF 58 (.pr si si) T L++([]:List Fact))))∧loopN m (F.qbv n c o y12 y21) (g,L,u)=some o253) n ⟨0,h,j,x,D,e2,e4,e5,e6,e8,e9,rfl,rfl,(show I64 0 from by unfold I64; omega),a3,a4,hC.selT [0,1,2,3,4,5,6,7] (by decide),hl2⟩ ?_
 have hbK2:=hb
 clear hb hC hl2
 rintro m256 E258 w257 ⟨g,L,u,T,K,e2,e4,e5,e6,e8,e9,e110,e111,b0,a8,a9,hC,hl2⟩ K255 hK255
 obtain ⟨m256',o259,rfl,hb,hl2⟩:=qan hl2
 unfold F.qbv at hb
 refine Wc.seq fun _ hK260=>rg ?_
 replace hC:Cx _ O0 w _ ([_,_,_,_,.own 56 .raw (.slice A36 (((List.replicate (c.length:Int).toNat (Value.slice none 0 0))).length) c37) T,.own 56 .raw (.slice A44 (((List.replicate (c.length:Int).toNat (Value.slice none 0 0))).length) c45) K,_,_]++(rowsF 58 (.pr si si) K u++(rowsF 58 (.pr si si) T L++([]:List Fact)))):=hC
 refine lp _ (qap e111 e110)<|ln (hK260 _ _ ?_)
 refine Wc.seq fun _ hK261=>?_
 refine Wc.cond (t:=(decide (g<(c.length:Int)))) (rfl) (fun hq262=>?_) (fun hq262=>?_)
 replace hb:=tt hq262 hb
 refine Wc.skip (hK261 _ _ ?_)
 refine Wc.seq fun _ hK263=>?_
 refine Wc.block<|Wc.seq fun _ hK264=>rg<|lp _ (qaa e111)<|lp (iv g) (qab rfl)<|ln (hK264 _ _ ?_)
 refine Wc.seqJ (fun E wv=> ∃(b1:Bool) (V:List (List (Int×Int))) (a0:List Value),E 2=pg g5∧E 4=.slice R J.length S∧E 5=.slice A36 (((List.replicate (c.length:Int).toNat (Value.slice none 0 0))).length) c37∧E 6=.slice A44 (((List.replicate (c.length:Int).toNat (Value.slice none 0 0))).length) c45∧E 8=.slice A14 y12.length c16∧E 9=.slice A23 y21.length c25∧E 18=iv g∧E 110=iv (c.length:Int)∧E 111=iv g∧E 112=.bool (decide (g<(c.length:Int)))∧E 124=.bool b1∧a0.length=V.length∧Cx (fun _=>False) O0 w wv ([.box g5 24 [.slice N c.length B,.slice M o.length C],.ro (.sl si) [.slice N c.length B] c,.ro (.sl si) [.slice M o.length C] o,.own 3 si (.slice R J.length S) J,.own 56 .raw (.slice A36 (((List.replicate (c.length:Int).toNat (Value.slice none 0 0))).length) c37) a0,.own 56 .raw (.slice A44 (((List.replicate (c.length:Int).toNat (Value.slice none 0 0))).length) c45) K,.own 3 si (.slice A14 y12.length c16) y12,.own 3 si (.slice A23 y21.length c25) y21]++(rowsF 58 (.pr si si) K u++(rowsF 58 (.pr si si) a0 V++([]:List Fact))))∧F.qck n y12 y21 g u b1 V=some o259) (fun _ hK265=>?_) ?_
 refine Wc.seq fun _ hK266=>?_
 refine Wc.regionMix [] (frm [] ([]:List Fact) ([]:List Fact)) (fun _=>rfl) mixed (by decide+kernel) (by decide+kernel) fun w268 hw267=>?_
 replace hC:=hC.step (Fr.qbb hw267)
 have hM:=Fr.refl (fun k=>k∈blocks ([]:List Fact)) w268
 clear hw267
 have hS:=hC
 replace hC:Cx _ O0 w _ ([_,_,_,_,_,_,_,_]++(rowsF 58 (.pr si si) K u++(rowsF 58 (.pr si si) T L++([]:List Fact)))):=hC
 refine mp (.pointer (some ((⟨g5,0,none⟩:Addr).add 0))) (qag (sz:=1) underlying24 rfl sizeOf22 (by decide) rfl e2)<|mixE.load hM (v:=.slice N c.length B) (fun _ hF=>qam (hS.bx2 (i:=0) rfl [] (by decide) hF) isAgg22 rfl rfl)<|mp (iv g) (qaa rfl) ?_
 obtain ⟨x269,h270,hb⟩:=bd hb
 obtain ⟨ad271,cs272,hA,ho275,hc273,hr274⟩:=hS.elr2 (i:=1) rfl (qac h270).2 []
 subst hA
 refine mp (.pointer (some (ad271.add (g.toNat*1)))) (qaf (a:=g) underlying22 sizeOf3 rfl rfl (qac h270).1) ?_
 replace hC:Cx _ O0 w _ ([.box g5 24 [.slice (some ad271) c.length B,.slice M o.length C],.ro (.sl si) [.slice (some ad271) c.length B] c,_,_,_,_,_,_]++(rowsF 58 (.pr si si) K u++(rowsF 58 (.pr si si) T L++([]:List Fact)))):=hC
 obtain ⟨rfl,hr274'⟩:=hr274
 refine mixE.load hM (v:=iv x269) (fun _ hF=>qaj isAgg3 rfl (hF.cell (hc273 0 _ rfl) (off1 ho275)))<|mp (.pointer (some ((⟨g5,0,none⟩:Addr).add 1))) (qag (sz:=1) underlying24 rfl sizeOf22 (by decide) rfl e2)<|mixE.load hM (v:=.slice M o.length C) (fun _ hF=>qam (hS.bx2 (i:=0) rfl [] (by decide) hF) isAgg22 rfl rfl)<|mp (iv g) (qaa rfl) ?_
 obtain ⟨x276,h277,hb⟩:=bd hb
 obtain ⟨ad278,cs279,hA,ho282,hc280,hr281⟩:=hS.elr2 (i:=2) rfl (qac h277).2 []
 subst hA
 refine mp (.pointer (some (ad278.add (g.toNat*1)))) (qaf (a:=g) underlying22 sizeOf3 rfl rfl (qac h277).1) ?_
 replace hC:Cx _ O0 w _ ([.box g5 24 [.slice (some ad271) c.length B,.slice (some ad278) o.length C],_,.ro (.sl si) [.slice (some ad278) o.length C] o,_,_,_,_,_]++(rowsF 58 (.pr si si) K u++(rowsF 58 (.pr si si) T L++([]:List Fact)))):=hC
 obtain ⟨rfl,hr281'⟩:=hr281
 refine mixE.load hM (v:=iv x276) (fun _ hF=>qaj isAgg3 rfl (hF.cell (hc280 0 _ rfl) (off1 ho282)))<|mp (.bool (decide (x276<x269))) (qed (k:=.i64) (a:=x269) (b:=x276) rfl rfl)<|mixE.nil ?_
 clear hS hM
 refine hK266 _ _<|Wc.fresh fun E283 hE=>?_
 have e2:=cg hE 2 e2
 have e4:=cg hE 4 e4
 have e5:=cg hE 5 e5
 have e6:=cg hE 6 e6
 have e8:=cg hE 8 e8
 have e9:=cg hE 9 e9
 have e18:E283 18=iv g:=cg hE 18 rfl
 have e110:=cg hE 110 e110
 have e111:=cg hE 111 e111
 have e112:E283 112=.bool (decide (g<(c.length:Int))):=cg hE 112 rfl
 have e124:E283 124=.bool (decide (x276<x269)):=cg hE 124 rfl
 clear hE
 refine Wc.cond (t:=(decide (x276<x269))) (e124) (fun hq284=>?_) (fun hq284=>?_)
 replace hb:=tt hq284 hb
 refine rg<|lp _ (qaa e5)<|lp _ (qaa e18) ?_
 obtain ⟨x285,h286,hb⟩:=bd hb
 obtain ⟨v291,hv292,-⟩:=qcr (e:=58) (s:=(.pr si si)) a8 (qac h286).2
 obtain ⟨ad287,cs288,hA,hc289,hr290⟩:=hC.elo (i:=4) rfl hv292
 subst hA
 refine lp (.pointer (some (ad287.add (g.toNat*1)))) (qaf (a:=g) underlying51 sizeOf56 rfl rfl (by rw [(hC.ow (i:=4) rfl).qad.1,a8]; exact (qac h286).1)) ?_
 replace hC:Cx _ O0 w _ ([_,_,_,_,.own 56 .raw (.slice (some ad287) (((List.replicate (c.length:Int).toNat (Value.slice none 0 0))).length) c37) T,_,_,_]++(rowsF 58 (.pr si si) K u++(rowsF 58 (.pr si si) T L++([]:List Fact)))):=hC
 replace hC:=hC.swapT
 replace hC:Cx _ O0 w _ ([_,_,_,_,_,_,_,_]++(rowsF 58 (.pr si si) T L++(rowsF 58 (.pr si si) K u++([]:List Fact)))):=hC
 replace hC:=Cx.takeRow hC hv292 (qac h286).2
 obtain ⟨A293,c294,hvf297,hl295,hc296⟩:=(hC.ow (i:=0) rfl).form
 subst hvf297
 obtain ⟨rfl,-⟩:=hr290
 replace hC:Cx _ O0 w _ ([.own 58 (.pr si si) (.slice A293 x285.length c294) x285,_,_,_,_,_,_,_,_]++((rowsF 58 (.pr si si) T L).eraseIdx g.toNat++(rowsF 58 (.pr si si) K u++([]:List Fact)))):=hC
 refine lv (.slice A293 x285.length c294) (qaj isAgg56 rfl (hc289 0 _ rfl)) ?_
 replace hC:=hC.selT [0,1,2,3,4,5,6,7,8] (by decide)
 replace hC:Cx _ O0 w _ ([_]++([.box g5 24 [.slice (some ad271) c.length B,.slice (some ad278) o.length C],.ro (.sl si) [.slice (some ad271) c.length B] c,.ro (.sl si) [.slice (some ad278) o.length C] o,.own 3 si (.slice R J.length S) J,.own 56 .raw (.slice (some ad287) (((List.replicate (c.length:Int).toNat (Value.slice none 0 0))).length) c37) T,.own 56 .raw (.slice A44 (((List.replicate (c.length:Int).toNat (Value.slice none 0 0))).length) c45) K,.own 3 si (.slice A14 y12.length c16) y12,.own 3 si (.slice A23 y21.length c25) y21]++((rowsF 58 (.pr si si) T L).eraseIdx g.toNat++(rowsF 58 (.pr si si) K u++([]:List Fact))))):=hC
 obtain ⟨y299,h300,hb⟩:=bd hb
 refine lex.cl (⟨_,_,qas (vs:=[.slice A293 x285.length c294]) call67 rfl rfl rfl,qcq n hC.lt hC.give h300⟩) ?_
 rintro _ w301 ⟨rfl,hK⟩
 replace hC:=hC.back hK
 clear hK
 refine ln ?_
 replace hC:Cx _ O0 w _ ([.own 58 (.pr si si) (.slice A293 x285.length c294) y299,.box g5 24 [.slice (some ad271) c.length B,.slice (some ad278) o.length C],.ro (.sl si) [.slice (some ad271) c.length B] c,.ro (.sl si) [.slice (some ad278) o.length C] o,.own 3 si (.slice R J.length S) J,.own 56 .raw (.slice (some ad287) (((List.replicate (c.length:Int).toNat (Value.slice none 0 0))).length) c37) T,.own 56 .raw (.slice A44 (((List.replicate (c.length:Int).toNat (Value.slice none 0 0))).length) c45) K,.own 3 si (.slice A14 y12.length c16) y12,.own 3 si (.slice A23 y21.length c25) y21]++((rowsF 58 (.pr si si) T L).eraseIdx g.toNat++(rowsF 58 (.pr si si) K u++([]:List Fact)))):=hC
 replace hC:=hC.selT [0,1,2,3,4,5,6,7,8] (by decide)
 replace hC:=Cx.putSame hC a8 (List.getElem?_eq_some_iff.1 (qac h286).2).1 hv292
 have hN302:T.length=(L.set g.toNat y299).length:=by rw [List.length_set]; exact a8
 replace hC:Cx _ O0 w _ ([_,_,_,_,_,_,_,_]++(rowsF 58 (.pr si si) T (L.set g.toNat y299)++(rowsF 58 (.pr si si) K u++([]:List Fact)))):=hC
 replace hC:=hC.swapT
 replace hC:Cx _ O0 w _ ([_,_,_,_,_,_,_,_]++(rowsF 58 (.pr si si) K u++(rowsF 58 (.pr si si) T (L.set g.toNat y299)++([]:List Fact)))):=hC
 exact hK265 _ _ ⟨(decide (x276<x269)),(L.set g.toNat y299),T,e2,e4,e5,e6,e8,e9,e18,e110,e111,e112,e124,hN302,hC.selT [0,1,2,3,4,5,6,7] (by decide),hb⟩
 replace hb:=tf hq284 hb
 refine Wc.skip ?_
 exact hK265 _ _ ⟨(decide (x276<x269)),L,T,e2,e4,e5,e6,e8,e9,e18,e110,e111,e112,e124,a8,hC.selT [0,1,2,3,4,5,6,7] (by decide),hb⟩
 clear hb hC
 rintro E304 w303 ⟨b1,V,a0,e2,e4,e5,e6,e8,e9,e18,e110,e111,e112,e124,c3,hC,hb⟩
 unfold F.qck at hb
 refine Wc.seq fun _ hK305=>?_
 refine Wc.regionMix [] (frm [] ([]:List Fact) ([]:List Fact)) (fun _=>rfl) mixed (by decide+kernel) (by decide+kernel) fun w307 hw306=>?_
 replace hC:=hC.step (Fr.qbb hw306)
 have hM:=Fr.refl (fun k=>k∈blocks ([]:List Fact)) w307
 clear hw306
 have hS:=hC
 replace hC:Cx _ O0 w _ ([.box g5 24 [.slice N c.length B,.slice M o.length C],.ro (.sl si) [.slice N c.length B] c,.ro (.sl si) [.slice M o.length C] o,_,.own 56 .raw (.slice A36 (((List.replicate (c.length:Int).toNat (Value.slice none 0 0))).length) c37) a0,_,_,_]++(rowsF 58 (.pr si si) K u++(rowsF 58 (.pr si si) a0 V++([]:List Fact)))):=hC
 refine mp (.slice A23 y21.length c25) (qaa e9)<|mp (iv g) (qaa e18) ?_
 obtain ⟨x308,h309,hb⟩:=bd hb
 obtain ⟨ad310,cs311,hA,ho314,hc312,hr313⟩:=hS.elo2 (i:=7) rfl (qac h309).2 [] (by decide)
 subst hA
 refine mp (.pointer (some (ad310.add (g.toNat*1)))) (qaf (a:=g) underlying22 sizeOf3 rfl rfl (qac h309).1) ?_
 replace hC:Cx _ O0 w _ ([_,_,_,_,_,_,_,.own 3 si (.slice (some ad310) y21.length c25) y21]++(rowsF 58 (.pr si si) K u++(rowsF 58 (.pr si si) a0 V++([]:List Fact)))):=hC
 obtain ⟨rfl,hr313'⟩:=hr313
 refine mixE.load hM (v:=iv x308) (fun _ hF=>qaj isAgg3 rfl (hF.cell (hc312 0 _ rfl) (off1 ho314)))<|mp (.slice A14 y12.length c16) (qaa e8)<|mp (iv g) (qaa e18) ?_
 obtain ⟨x315,h316,hb⟩:=bd hb
 obtain ⟨ad317,cs318,hA,ho321,hc319,hr320⟩:=hS.elo2 (i:=6) rfl (qac h316).2 [] (by decide)
 subst hA
 refine mp (.pointer (some (ad317.add (g.toNat*1)))) (qaf (a:=g) underlying22 sizeOf3 rfl rfl (qac h316).1) ?_
 replace hC:Cx _ O0 w _ ([_,_,_,_,_,_,.own 3 si (.slice (some ad317) y12.length c16) y12,_]++(rowsF 58 (.pr si si) K u++(rowsF 58 (.pr si si) a0 V++([]:List Fact)))):=hC
 obtain ⟨rfl,hr320'⟩:=hr320
 refine mixE.load hM (v:=iv x315) (fun _ hF=>qaj isAgg3 rfl (hF.cell (hc319 0 _ rfl) (off1 ho321)))<|mp (.bool (decide (x315<x308))) (qed (k:=.i64) (a:=x308) (b:=x315) rfl rfl)<|mixE.nil ?_
 clear hS hM
 refine hK305 _ _<|Wc.cond (t:=(decide (x315<x308))) (rfl) (fun hq322=>?_) (fun hq322=>?_)
 replace hb:=tt hq322 hb
 refine rg<|lp _ (qaa e6)<|lp _ (qaa e18) ?_
 obtain ⟨x323,h324,hb⟩:=bd hb
 obtain ⟨v329,hv330,-⟩:=qcr (e:=58) (s:=(.pr si si)) a9 (qac h324).2
 obtain ⟨ad325,cs326,hA,hc327,hr328⟩:=hC.elo (i:=5) rfl hv330
 subst hA
 refine lp (.pointer (some (ad325.add (g.toNat*1)))) (qaf (a:=g) underlying51 sizeOf56 rfl rfl (by rw [(hC.ow (i:=5) rfl).qad.1,a9]; exact (qac h324).1)) ?_
 replace hC:Cx _ O0 w _ ([_,_,_,_,_,.own 56 .raw (.slice (some ad325) (((List.replicate (c.length:Int).toNat (Value.slice none 0 0))).length) c45) K,_,_]++(rowsF 58 (.pr si si) K u++(rowsF 58 (.pr si si) a0 V++([]:List Fact)))):=hC
 replace hC:=Cx.takeRow hC hv330 (qac h324).2
 obtain ⟨A331,c332,hvf335,hl333,hc334⟩:=(hC.ow (i:=0) rfl).form
 subst hvf335
 obtain ⟨rfl,-⟩:=hr328
 replace hC:Cx _ O0 w _ ([.own 58 (.pr si si) (.slice A331 x323.length c332) x323,_,_,_,_,_,_,_,_]++((rowsF 58 (.pr si si) K u).eraseIdx g.toNat++(rowsF 58 (.pr si si) a0 V++([]:List Fact)))):=hC
 refine lv (.slice A331 x323.length c332) (qaj isAgg56 rfl (hc327 0 _ rfl)) ?_
 replace hC:=hC.selT [0,1,2,3,4,5,6,7,8] (by decide)
 replace hC:Cx _ O0 w _ ([_]++([.box g5 24 [.slice N c.length B,.slice M o.length C],.ro (.sl si) [.slice N c.length B] c,.ro (.sl si) [.slice M o.length C] o,.own 3 si (.slice R J.length S) J,.own 56 .raw (.slice A36 (((List.replicate (c.length:Int).toNat (Value.slice none 0 0))).length) c37) a0,.own 56 .raw (.slice (some ad325) (((List.replicate (c.length:Int).toNat (Value.slice none 0 0))).length) c45) K,.own 3 si (.slice (some ad317) y12.length c16) y12,.own 3 si (.slice (some ad310) y21.length c25) y21]++((rowsF 58 (.pr si si) K u).eraseIdx g.toNat++(rowsF 58 (.pr si si) a0 V++([]:List Fact))))):=hC
 obtain ⟨y337,h338,hb⟩:=bd hb
 refine lex.cl (⟨_,_,qas (vs:=[.slice A331 x323.length c332]) call67 rfl rfl rfl,qcq n hC.lt hC.give h338⟩) ?_
 rintro _ w339 ⟨rfl,hK⟩
 replace hC:=hC.back hK
 clear hK
 refine ln (hK263 _ _ ?_)
 refine rg ?_
 replace hC:Cx _ O0 w _ ([.own 58 (.pr si si) (.slice A331 x323.length c332) y337,.box g5 24 [.slice N c.length B,.slice M o.length C],.ro (.sl si) [.slice N c.length B] c,.ro (.sl si) [.slice M o.length C] o,.own 3 si (.slice R J.length S) J,.own 56 .raw (.slice A36 (((List.replicate (c.length:Int).toNat (Value.slice none 0 0))).length) c37) a0,.own 56 .raw (.slice (some ad325) (((List.replicate (c.length:Int).toNat (Value.slice none 0 0))).length) c45) K,.own 3 si (.slice (some ad317) y12.length c16) y12,.own 3 si (.slice (some ad310) y21.length c25) y21]++((rowsF 58 (.pr si si) K u).eraseIdx g.toNat++(rowsF 58 (.pr si si) a0 V++([]:List Fact)))):=hC
 obtain ⟨z340,h341,hb⟩:=bd hb
 refine lp (iv z340) (qal (a:=g) (b:=1) e111 rfl h341)<|lp (iv z340) (qaa rfl)<|ln ?_
 replace hC:=hC.selT [0,1,2,3,4,5,6,7,8] (by decide)
 replace hC:=Cx.putSame hC a9 (List.getElem?_eq_some_iff.1 (qac h324).2).1 hv330
 have hN342:K.length=(u.set g.toNat y337).length:=by rw [List.length_set]; exact a9
 replace hC:Cx _ O0 w _ ([_,_,_,_,_,_,_,_]++(rowsF 58 (.pr si si) K (u.set g.toNat y337)++(rowsF 58 (.pr si si) a0 V++([]:List Fact)))):=hC
 obtain rfl:=os hb
 exact hK255 m256' _ _ (Nat.lt_succ_self _) ⟨z340,V,(u.set g.toNat y337),a0,K,e2,e4,e5,e6,e8,e9,e110,rfl,(qai h341),c3,hN342,hC.selT [0,1,2,3,4,5,6,7] (by decide),lN hl2⟩
 replace hb:=tf hq322 hb
 refine Wc.skip (hK263 _ _ ?_)
 refine rg ?_
 obtain ⟨z343,h344,hb⟩:=bd hb
 refine lp (iv z343) (qal (a:=g) (b:=1) e111 rfl h344)<|lp (iv z343) (qaa rfl)<|ln ?_
 obtain rfl:=os hb
 exact hK255 m256' _ _ (Nat.lt_succ_self _) ⟨z343,V,u,a0,K,e2,e4,e5,e6,e8,e9,e110,rfl,(qai h344),c3,a9,hC.selT [0,1,2,3,4,5,6,7] (by decide),lN hl2⟩
 replace hb:=tf hq262 hb
 refine Wc.exit rfl ?_
 obtain rfl:=os hb
 obtain rfl:=(lX hl2).symm
 exact hK254 _ _ ⟨g,L,u,T,K,e4,e5,e6,b0,a8,a9,hC.selT [3,4,5] (by decide),hbK2⟩
 clear hb hC hl2
 rintro E346 w345 ⟨g,L,u,T,K,e4,e5,e6,b0,a8,a9,hC,hb⟩
 subst hf253
 refine hK251 _ _<|Wc.seq fun _ hK347=>rg ?_
 replace hC:Cx _ O0 w _ ([_,.own 56 .raw (.slice A36 (((List.replicate (c.length:Int).toNat (Value.slice none 0 0))).length) c37) T,.own 56 .raw (.slice A44 (((List.replicate (c.length:Int).toNat (Value.slice none 0 0))).length) c45) K]++(rowsF 58 (.pr si si) K u++(rowsF 58 (.pr si si) T L++([]:List Fact)))):=hC
 refine lp _ (qaa e4)<|lp _ (qaa e5)<|lp _ (qaa e6)<|lp (.slice R J.length S) (qab rfl)<|lp (.slice A36 (((List.replicate (c.length:Int).toNat (Value.slice none 0 0))).length) c37) (qab rfl)<|lp (.slice A44 (((List.replicate (c.length:Int).toNat (Value.slice none 0 0))).length) c45) (qab rfl)<|ln (hK347 _ _ ?_)
 replace hC:=hC.swapT
 replace hC:Cx _ O0 w _ ([_,_,_]++(rowsF 58 (.pr si si) T L++(rowsF 58 (.pr si si) K u++([]:List Fact)))):=hC
 replace hC:=hC.selT [1,0,2] (by decide)
 replace hC:=Cx.freezeR hC a8
 replace hC:Cx _ O0 w _ ([.ro (.sl (.sl (.pr si si))) [.slice A36 (((List.replicate (c.length:Int).toNat (Value.slice none 0 0))).length) c37] L,_,_]++(rowsF 58 (.pr si si) K u++([]:List Fact))):=hC
 replace hC:=hC.selT [2,0,1] (by decide)
 replace hC:=Cx.freezeR hC a9
 replace hC:Cx _ O0 w _ ([.ro (.sl (.sl (.pr si si))) [.slice A44 (((List.replicate (c.length:Int).toNat (Value.slice none 0 0))).length) c45] u,_,_]++([]:List Fact)):=hC
 obtain rfl:=os hb
 refine Wc.ret (hKR _ _ ?_)
 refine ⟨_,res3 results37 (tV (.slice R J.length S) rfl) (tV (.slice A36 (((List.replicate (c.length:Int).toNat (Value.slice none 0 0))).length) c37) rfl) (tV (.slice A44 (((List.replicate (c.length:Int).toNat (Value.slice none 0 0))).length) c45) rfl),_,rfl,R,J.length,S,A36,((List.replicate (c.length:Int).toNat (Value.slice none 0 0))).length,c37,A44,((List.replicate (c.length:Int).toNat (Value.slice none 0 0))).length,c45,rfl,hC.sE [2,1,0]⟩
 refine qae ?_
 obtain ⟨u34,h349,hb⟩:=bd hb
 refine mixE.op hM (hC.make (s:=.raw) (n:=(c.length:Int)) underlying51 type56 rfl rfl rfl rfl rfl (qah h349).1 (qah h349).2 (by decide)) ?_
 rintro _ w354 ⟨A350,c351,rfl,hl352,hc353,hC,hF,hN⟩
 have hBf355:=Beside.new hM hN
 replace hM:=hM.none hF
 refine ⟨hM,?_⟩
 clear hF hN
 replace hC:Cx _ O0 w _ ([.own 56 .raw (.slice A350 (((List.replicate (c.length:Int).toNat (Value.slice none 0 0))).length) c351) (List.replicate (c.length:Int).toNat (Value.slice none 0 0)),.own 3 si (.slice A23 y21.length c25) y21,.own 3 si (.slice A14 y12.length c16) y12,.box g5 24 [.slice N c.length B,.slice M o.length C],.ro (.sl (.pr si si)) [.slice Z z.length U] z,.ro (.sl si) [.slice M o.length C] o,.ro (.sl si) [.slice N c.length B] c]++([]:List Fact)):=hC
 replace hC:=hC.nilRows 58 (.pr si si) (c.length:Int).toNat
 replace hC:Cx _ O0 w _ ([_,_,_,_,_,_,_]++(rowsF 58 (.pr si si) (List.replicate (c.length:Int).toNat (Value.slice none 0 0)) (List.replicate (c.length:Int).toNat ([]:List (Int×Int)))++([]:List Fact))):=hC
 refine mixE.nil ?_
 refine qae ?_
 obtain ⟨u42,h357,hb⟩:=bd hb
 refine mixE.op hM (hC.make (s:=.raw) (n:=(c.length:Int)) underlying51 type56 rfl rfl rfl rfl rfl (qah h357).1 (qah h357).2 (by decide)) ?_
 rintro _ w362 ⟨A358,c359,rfl,hl360,hc361,hC,hF,hN⟩
 have hBf363:=Beside.new hM hN
 replace hM:=hM.none hF
 refine ⟨hM,?_⟩
 clear hF hN
 replace hC:Cx _ O0 w _ ([.own 56 .raw (.slice A358 (((List.replicate (c.length:Int).toNat (Value.slice none 0 0))).length) c359) (List.replicate (c.length:Int).toNat (Value.slice none 0 0)),_,_,_,_,_,_,_]++(rowsF 58 (.pr si si) (List.replicate (c.length:Int).toNat (Value.slice none 0 0)) (List.replicate (c.length:Int).toNat ([]:List (Int×Int)))++([]:List Fact))):=hC
 replace hC:=hC.nilRows 58 (.pr si si) (c.length:Int).toNat
 replace hC:Cx _ O0 w _ ([_,_,_,_,_,_,_,_]++(rowsF 58 (.pr si si) (List.replicate (c.length:Int).toNat (Value.slice none 0 0)) (List.replicate (c.length:Int).toNat ([]:List (Int×Int)))++(rowsF 58 (.pr si si) (List.replicate (c.length:Int).toNat (Value.slice none 0 0)) (List.replicate (c.length:Int).toNat ([]:List (Int×Int)))++([]:List Fact)))):=hC
 refine mp (.slice A358 (((List.replicate (c.length:Int).toNat (Value.slice none 0 0))).length) c359) (qab rfl)<|mp (.slice A350 (((List.replicate (c.length:Int).toNat (Value.slice none 0 0))).length) c351) (qab rfl)<|mixE.nil ?_
 clear hS hM
 refine hK31 _ _ ?_
 refine Wc.seq fun _ hK364=>?_
 refine Wc.seq fun _ hK365=>rg<|lp _ (qaa e1)<|lp (iv (z.length:Int)) (qao (A:=Z) (n:=z.length) (m:=U) underlying33 rfl)<|lp (iv 0) (qaa rfl)<|ln (hK365 _ _ ?_)
 replace hC:=hC.nil 3 si
 obtain ⟨o53,hl0,hb⟩:=bd hb
 refine Wc.cut (fun E wv=> ∃(J:List Int) (Q:Int) (h:List (List (Int×Int))) (j:List (List (Int×Int))) (R:Option Addr) (a7 S:Nat) (l:List Value) (y:List Value),E 2=pg g5∧E 4=.slice R a7 S∧E 5=.slice A358 (((List.replicate (c.length:Int).toNat (Value.slice none 0 0))).length) c359∧E 6=.slice A350 (((List.replicate (c.length:Int).toNat (Value.slice none 0 0))).length) c351∧E 7=iv (c.length:Int)∧E 8=.slice A14 y12.length c16∧E 9=.slice A23 y21.length c25∧I64 Q∧l.length=h.length∧y.length=j.length∧Cx (fun _=>False) O0 w wv ([.box g5 24 [.slice N c.length B,.slice M o.length C],.ro (.sl si) [.slice N c.length B] c,.ro (.sl si) [.slice M o.length C] o,.own 3 si (.slice R a7 S) J,.own 56 .raw (.slice A358 (((List.replicate (c.length:Int).toNat (Value.slice none 0 0))).length) c359) l,.own 56 .raw (.slice A350 (((List.replicate (c.length:Int).toNat (Value.slice none 0 0))).length) c351) y,.own 3 si (.slice A14 y12.length c16) y12,.own 3 si (.slice A23 y21.length c25) y21]++(rowsF 58 (.pr si si) l h++(rowsF 58 (.pr si si) y j++([]:List Fact))))∧(((loopN n (F.qbv n c o y12 y21) (0,h,j)).bind fun o253=>match o253 with | (g,L,u)=>some (J,L,u)):Option ((List Int)×(List (List (Int×Int)))×(List (List (Int×Int)))))=some r) (fun _ hK368=>?_) ?_
 refine Wc.block ?_
 replace hC:Cx _ O0 w _ ([.own 3 si (.slice none 0 0) ([]:List Int),_,_,_,_,_,_,_,_]++(rowsF 58 (.pr si si) (List.replicate (c.length:Int).toNat (Value.slice none 0 0)) (List.replicate (c.length:Int).toNat ([]:List (Int×Int)))++(rowsF 58 (.pr si si) (List.replicate (c.length:Int).toNat (Value.slice none 0 0)) (List.replicate (c.length:Int).toNat ([]:List (Int×Int)))++([]:List Fact)))):=hC
 refine Wc.loop (fun m E wv=> ∃(J:List Int) (Q:Int) (h:List (List (Int×Int))) (j:List (List (Int×Int))) (R:Option Addr) (a7 S:Nat) (l:List Value) (y:List Value),E 2=pg g5∧E 4=.slice R a7 S∧E 5=.slice A358 (((List.replicate (c.length:Int).toNat (Value.slice none 0 0))).length) c359∧E 6=.slice A350 (((List.replicate (c.length:Int).toNat (Value.slice none 0 0))).length) c351∧E 7=iv (c.length:Int)∧E 8=.slice A14 y12.length c16∧E 9=.slice A23 y21.length c25∧E 32=.slice Z z.length U∧E 33=iv (z.length:Int)∧E 34=iv Q∧I64 Q∧l.length=h.length∧y.length=j.length∧Cx (fun _=>False) O0 w wv ([.box g5 24 [.slice N c.length B,.slice M o.length C],.ro (.sl si) [.slice N c.length B] c,.ro (.sl si) [.slice M o.length C] o,.own 3 si (.slice R a7 S) J,.own 56 .raw (.slice A358 (((List.replicate (c.length:Int).toNat (Value.slice none 0 0))).length) c359) l,.own 56 .raw (.slice A350 (((List.replicate (c.length:Int).toNat (Value.slice none 0 0))).length) c351) y,.own 3 si (.slice A14 y12.length c16) y12,.own 3 si (.slice A23 y21.length c25) y21,.ro (.sl (.pr si si)) [.slice Z z.length U] z]++(rowsF 58 (.pr si si) l h++(rowsF 58 (.pr si si) y j++([]:List Fact))))∧loopN m (F.qce n c o z y12 y21) (J,Q,h,j)=some o53) n ⟨([]:List Int),0,(List.replicate (c.length:Int).toNat ([]:List (Int×Int))),(List.replicate (c.length:Int).toNat ([]:List (Int×Int))),none,0,0,(List.replicate (c.length:Int).toNat (Value.slice none 0 0)),(List.replicate (c.length:Int).toNat (Value.slice none 0 0)),e2,e4,rfl,rfl,e7,e8,e9,rfl,rfl,rfl,(show I64 0 from by unfold I64; omega),(nilRows_len (c.length:Int).toNat (s:=(.pr si si))),(nilRows_len (c.length:Int).toNat (s:=(.pr si si))),hC.selT [5,8,7,0,1,2,4,3,6] (by decide),hl0⟩ ?_
 have hbK0:=hb
 clear hb hC hl0
 rintro m370 E372 w371 ⟨J,Q,h,j,R,a7,S,l,y,e2,e4,e5,e6,e7,e8,e9,e32,e33,e34,b2,a1,a2,hC,hl0⟩ K369 hK369
 obtain ⟨m370',o373,rfl,hb,hl0⟩:=qan hl0
 unfold F.qce at hb
 obtain ⟨rfl,b8,b9⟩:=(hC.ow (i:=3) rfl).qad
 refine Wc.seq fun _ hK374=>rg ?_
 replace hC:Cx _ O0 w _ ([_,_,_,.own 3 si (.slice R J.length S) J,.own 56 .raw (.slice A358 (((List.replicate (c.length:Int).toNat (Value.slice none 0 0))).length) c359) l,.own 56 .raw (.slice A350 (((List.replicate (c.length:Int).toNat (Value.slice none 0 0))).length) c351) y,_,_,_]++(rowsF 58 (.pr si si) l h++(rowsF 58 (.pr si si) y j++([]:List Fact)))):=hC
 refine lp _ (qap e34 e33)<|ln (hK374 _ _ ?_)
 refine Wc.seq fun _ hK375=>?_
 refine Wc.cond (t:=(decide (Q<(z.length:Int)))) (rfl) (fun hq376=>?_) (fun hq376=>?_)
 replace hb:=tt hq376 hb
 refine Wc.skip (hK375 _ _ ?_)
 refine Wc.seq fun _ hK377=>?_
 refine Wc.block<|Wc.seq fun _ hK378=>rg<|lp _ (qaa e34) ?_
 obtain ⟨x65,h380,hb⟩:=bd hb
 obtain ⟨ad381,cs382,hA,hc383,hr384⟩:=hC.elr (i:=8) rfl (qac h380).2
 subst hA
 refine lp (.pointer (some (ad381.add (Q.toNat*2)))) (qaf (a:=Q) underlying33 sizeOf67 e32 e34 (qac h380).1) ?_
 replace hC:Cx _ O0 w _ ([_,_,_,_,_,_,_,_,.ro (.sl (.pr si si)) [.slice (some ad381) z.length U] z]++(rowsF 58 (.pr si si) l h++(rowsF 58 (.pr si si) y j++([]:List Fact)))):=hC
 obtain ⟨k385,k386,rfl,hr387,hr388⟩:=hr384
 obtain ⟨rfl,hr387⟩:=hr387
 obtain ⟨rfl,hr388⟩:=hr388
 refine lv (.agg #[iv x65.1,iv x65.2]) (ld_agg isAgg67 sizeOf67 rfl rfl hc383)<|lex.op (hC.alloc (cs:=[iv 0,iv 0]) zeroValue67 rfl) ?_
 rintro _ w390 ⟨g389,rfl,hC,hF,-⟩
 replace hC:Cx _ O0 w _ ([.box g389 67 [iv 0,iv 0],_,_,_,_,_,_,_,_,_]++(rowsF 58 (.pr si si) l h++(rowsF 58 (.pr si si) y j++([]:List Fact)))):=hC
 refine lp (iv Q) (qab rfl)<|lex.sk (hC.seta (i:=0) (ds:=[iv x65.1,iv x65.2]) rfl type67 rfl rfl rfl rfl rfl) ?_
 rintro w392 ⟨hC,hF⟩
 refine ln (hK378 _ _ ?_)
 refine Wc.seq fun _ hK393=>?_
 refine Wc.regionMix [] (frm [] ([]:List Fact) ([]:List Fact)) (fun _=>rfl) mixed (by decide+kernel) (by decide+kernel) fun w395 hw394=>?_
 replace hC:=hC.step (Fr.qbb hw394)
 have hM:=Fr.refl (fun k=>k∈blocks ([]:List Fact)) w395
 clear hw394
 have hS:=hC
 replace hC:Cx _ O0 w _ ([.box g389 67 [iv x65.1,iv x65.2],_,_,_,_,_,_,_,_,_]++(rowsF 58 (.pr si si) l h++(rowsF 58 (.pr si si) y j++([]:List Fact)))):=hC
 refine mp (.pointer (some ((⟨g389,0,none⟩:Addr).add 0))) (qeh (A:=⟨g389,0,none⟩) (a:=0) (sz:=1) underlying67 sizeOf3 rfl rfl (by decide))<|mixE.load hM (v:=iv x65.1) (fun _ hF=>qam (hS.bx2 (i:=0) rfl [] (by decide) hF) isAgg3 rfl rfl)<|mp (.pointer (some ((⟨g389,0,none⟩:Addr).add 1))) (qeh (A:=⟨g389,0,none⟩) (a:=1) (sz:=1) underlying67 sizeOf3 rfl rfl (by decide))<|mixE.load hM (v:=iv x65.2) (fun _ hF=>qam (hS.bx2 (i:=0) rfl [] (by decide) hF) isAgg3 rfl rfl)<|mp (iv x65.1) (qab rfl)<|mp (iv x65.2) (qab rfl)<|mixE.nil ?_
 clear hS hM
 refine hK393 _ _<|Wc.fresh fun E396 hE=>?_
 have e2:=cg hE 2 e2
 have e4:=cg hE 4 e4
 have e5:=cg hE 5 e5
 have e6:=cg hE 6 e6
 have e7:=cg hE 7 e7
 have e8:=cg hE 8 e8
 have e9:=cg hE 9 e9
 have e10:E396 10=iv Q:=cg hE 10 rfl
 have e11:E396 11=pg g389:=cg hE 11 rfl
 have e12:E396 12=iv x65.1:=cg hE 12 rfl
 have e13:E396 13=iv x65.2:=cg hE 13 rfl
 have e32:=cg hE 32 e32
 have e33:=cg hE 33 e33
 have e34:=cg hE 34 e34
 have e35:E396 35=.bool (decide (Q<(z.length:Int))):=cg hE 35 rfl
 clear hE
 refine Wc.seq fun _ hK397=>?_
 refine Wc.regionMix [] (frm [] ([]:List Fact) ([]:List Fact)) (fun _=>rfl) mixed (by decide+kernel) (by decide+kernel) fun w399 hw398=>?_
 replace hC:=hC.step (Fr.qbb hw398)
 have hM:=Fr.refl (fun k=>k∈blocks ([]:List Fact)) w399
 clear hw398
 have hS:=hC
 replace hC:Cx _ O0 w _ ([_,_,_,_,_,_,_,_,_,_]++(rowsF 58 (.pr si si) l h++(rowsF 58 (.pr si si) y j++([]:List Fact)))):=hC
 refine mp (.pointer (some ((⟨g5,0,none⟩:Addr).add 0))) (qag (sz:=1) underlying24 rfl sizeOf22 (by decide) rfl e2)<|mixE.load hM (v:=.slice N c.length B) (fun _ hF=>qam (hS.bx2 (i:=1) rfl [] (by decide) hF) isAgg22 rfl rfl)<|mp (iv x65.1) (qaa e12) ?_
 obtain ⟨x86,h401,hb⟩:=bd hb
 obtain ⟨ad402,cs403,hA,ho406,hc404,hr405⟩:=hS.elr2 (i:=2) rfl (qac h401).2 []
 subst hA
 refine mp (.pointer (some (ad402.add (x65.1.toNat*1)))) (qaf (a:=x65.1) underlying22 sizeOf3 rfl rfl (qac h401).1) ?_
 replace hC:Cx _ O0 w _ ([_,.box g5 24 [.slice (some ad402) c.length B,.slice M o.length C],.ro (.sl si) [.slice (some ad402) c.length B] c,_,_,_,_,_,_,_]++(rowsF 58 (.pr si si) l h++(rowsF 58 (.pr si si) y j++([]:List Fact)))):=hC
 obtain ⟨rfl,hr405'⟩:=hr405
 refine mixE.load hM (v:=iv x86) (fun _ hF=>qaj isAgg3 rfl (hF.cell (hc404 0 _ rfl) (off1 ho406)))<|mp (.pointer (some ((⟨g5,0,none⟩:Addr).add 1))) (qag (sz:=1) underlying24 rfl sizeOf22 (by decide) rfl e2)<|mixE.load hM (v:=.slice M o.length C) (fun _ hF=>qam (hS.bx2 (i:=1) rfl [] (by decide) hF) isAgg22 rfl rfl)<|mp (iv x65.1) (qaa e12) ?_
 obtain ⟨x93,h408,hb⟩:=bd hb
 obtain ⟨ad409,cs410,hA,ho413,hc411,hr412⟩:=hS.elr2 (i:=3) rfl (qac h408).2 []
 subst hA
 refine mp (.pointer (some (ad409.add (x65.1.toNat*1)))) (qaf (a:=x65.1) underlying22 sizeOf3 rfl rfl (qac h408).1) ?_
 replace hC:Cx _ O0 w _ ([_,.box g5 24 [.slice (some ad402) c.length B,.slice (some ad409) o.length C],_,.ro (.sl si) [.slice (some ad409) o.length C] o,_,_,_,_,_,_]++(rowsF 58 (.pr si si) l h++(rowsF 58 (.pr si si) y j++([]:List Fact)))):=hC
 obtain ⟨rfl,hr412'⟩:=hr412
 refine mixE.load hM (v:=iv x93) (fun _ hF=>qaj isAgg3 rfl (hF.cell (hc411 0 _ rfl) (off1 ho413)))<|mp (.bool (decide (x86<x93))) (qap (k:=.i64) (a:=x86) (b:=x93) rfl rfl)<|mp (.slice A23 y21.length c25) (qaa e9)<|mp (iv x65.2) (qaa e13) ?_
 obtain ⟨x100,h415,hb⟩:=bd hb
 obtain ⟨ad416,cs417,hA,ho420,hc418,hr419⟩:=hS.elo2 (i:=8) rfl (qac h415).2 [] (by decide)
 subst hA
 refine mp (.pointer (some (ad416.add (x65.2.toNat*1)))) (qaf (a:=x65.2) underlying22 sizeOf3 rfl rfl (qac h415).1) ?_
 replace hC:Cx _ O0 w _ ([_,_,_,_,_,_,_,_,.own 3 si (.slice (some ad416) y21.length c25) y21,_]++(rowsF 58 (.pr si si) l h++(rowsF 58 (.pr si si) y j++([]:List Fact)))):=hC
 obtain ⟨rfl,hr419'⟩:=hr419
 refine mixE.load hM (v:=iv x100) (fun _ hF=>qaj isAgg3 rfl (hF.cell (hc418 0 _ rfl) (off1 ho420)))<|mp (.slice A14 y12.length c16) (qaa e8)<|mp (iv x65.2) (qaa e13) ?_
 obtain ⟨x107,h422,hb⟩:=bd hb
 obtain ⟨ad423,cs424,hA,ho427,hc425,hr426⟩:=hS.elo2 (i:=7) rfl (qac h422).2 [] (by decide)
 subst hA
 refine mp (.pointer (some (ad423.add (x65.2.toNat*1)))) (qaf (a:=x65.2) underlying22 sizeOf3 rfl rfl (qac h422).1) ?_
 replace hC:Cx _ O0 w _ ([_,_,_,_,_,_,_,.own 3 si (.slice (some ad423) y12.length c16) y12,_,_]++(rowsF 58 (.pr si si) l h++(rowsF 58 (.pr si si) y j++([]:List Fact)))):=hC
 obtain ⟨rfl,hr426'⟩:=hr426
 refine mixE.load hM (v:=iv x107) (fun _ hF=>qaj isAgg3 rfl (hF.cell (hc425 0 _ rfl) (off1 ho427)))<|mp (.bool (decide (x100<x107))) (qap (k:=.i64) (a:=x100) (b:=x107) rfl rfl)<|mp (.bool (decide (x86<x93))) (qab rfl)<|mp (.bool (decide (x100<x107))) (qab rfl)<|mixE.nil ?_
 clear hS hM
 refine hK397 _ _<|Wc.fresh fun E428 hE=>?_
 have e2:=cg hE 2 e2
 have e4:=cg hE 4 e4
 have e5:=cg hE 5 e5
 have e6:=cg hE 6 e6
 have e7:=cg hE 7 e7
 have e8:=cg hE 8 e8
 have e9:=cg hE 9 e9
 have e10:=cg hE 10 e10
 have e11:=cg hE 11 e11
 have e12:=cg hE 12 e12
 have e13:=cg hE 13 e13
 have e14:E428 14=.bool (decide (x86<x93)):=cg hE 14 rfl
 have e15:E428 15=.bool (decide (x100<x107)):=cg hE 15 rfl
 have e32:=cg hE 32 e32
 have e33:=cg hE 33 e33
 have e34:=cg hE 34 e34
 have e35:=cg hE 35 e35
 clear hE
 refine Wc.seq fun _ hK429=>rg<|lp _ (qaa e10) ?_
 obtain ⟨z116,h431,hb⟩:=bd hb
 refine lp (iv z116) (qbx (a:=4) (b:=Q) rfl rfl h431) ?_
 obtain ⟨z118,h433,hb⟩:=bd hb
 refine lp (iv z118) (qal (a:=z116) (b:=1) rfl rfl h433)<|lp _ (qaa e10) ?_
 obtain ⟨z120,h435,hb⟩:=bd hb
 refine lp (iv z120) (qbx (a:=4) (b:=Q) rfl rfl h435) ?_
 obtain ⟨z122,h437,hb⟩:=bd hb
 refine lp (iv z122) (qal (a:=z120) (b:=3) rfl rfl h437)<|lp (.agg #[iv z118,iv z122]) (qbr (places:=[(0,1),(1,1)]) (pv:=[(0,iv z118),(1,iv z122)]) type58 underlying58 rfl (qar type3 (qar type3 qco rfl rfl) rfl rfl) rfl (by simp [Instr.fill,Value.cells]))<|lex.op (hC.alloc (cs:=[iv 0,iv 0]) zeroValue58 rfl) ?_
 rintro _ w439 ⟨g438,rfl,hC,hF,-⟩
 replace hC:Cx _ O0 w _ ([.box g438 58 [iv 0,iv 0],_,_,_,_,_,_,_,_,_,_]++(rowsF 58 (.pr si si) l h++(rowsF 58 (.pr si si) y j++([]:List Fact)))):=hC
 refine lp (iv (-1)) (qab rfl)<|lex.sk (hC.seta (i:=0) (ds:=[iv z118,iv z122]) rfl type58 rfl rfl rfl rfl rfl) ?_
 rintro w441 ⟨hC,hF⟩
 refine ln (hK429 _ _ ?_)
 refine Wc.seqJ (fun E wv=> ∃(X:Int) (b3:Bool) (d:Int) (f:Int),E 2=pg g5∧E 4=.slice R J.length S∧E 5=.slice A358 (((List.replicate (c.length:Int).toNat (Value.slice none 0 0))).length) c359∧E 6=.slice A350 (((List.replicate (c.length:Int).toNat (Value.slice none 0 0))).length) c351∧E 7=iv (c.length:Int)∧E 8=.slice (some ad423) y12.length c16∧E 9=.slice (some ad416) y21.length c25∧E 10=iv Q∧E 11=pg g389∧E 12=iv x65.1∧E 13=iv x65.2∧E 14=.bool (decide (x86<x93))∧E 15=.bool (decide (x100<x107))∧E 16=iv X∧E 17=pg g438∧E 32=.slice (some ad381) z.length U∧E 33=iv (z.length:Int)∧E 34=iv Q∧E 35=.bool (decide (Q<(z.length:Int)))∧E 72=.bool b3∧I64 X∧I64 d∧I64 f∧Cx (fun _=>False) O0 w wv ([.box g5 24 [.slice (some ad402) c.length B,.slice (some ad409) o.length C],.ro (.sl si) [.slice (some ad402) c.length B] c,.ro (.sl si) [.slice (some ad409) o.length C] o,.own 3 si (.slice R J.length S) J,.own 56 .raw (.slice A358 (((List.replicate (c.length:Int).toNat (Value.slice none 0 0))).length) c359) l,.own 56 .raw (.slice A350 (((List.replicate (c.length:Int).toNat (Value.slice none 0 0))).length) c351) y,.own 3 si (.slice (some ad423) y12.length c16) y12,.own 3 si (.slice (some ad416) y21.length c25) y21,.box g389 67 [iv x65.1,iv x65.2],.box g438 58 [iv d,iv f],.ro (.sl (.pr si si)) [.slice (some ad381) z.length U] z]++(rowsF 58 (.pr si si) l h++(rowsF 58 (.pr si si) y j++([]:List Fact))))∧F.qcj n J Q h j x65 X b3 d f=some o373) (fun _ hK442=>?_) ?_
 refine Wc.seq fun _ hK443=>rg ?_
 replace hC:Cx _ O0 w _ ([.box g438 58 [iv z118,iv z122],_,_,_,_,_,_,_,_,_,_]++(rowsF 58 (.pr si si) l h++(rowsF 58 (.pr si si) y j++([]:List Fact)))):=hC
 refine lp _ (qaa e14)<|lp _ (qaa e15)<|lp (.bool (!((decide (x86<x93)) == (decide (x100<x107))))) (pu_neqb (p:=(decide (x86<x93))) (q:=(decide (x100<x107))) underlying4 rfl rfl)<|ln (hK443 _ _ ?_)
 refine Wc.fresh fun E444 hE=>?_
 have e2:=cg hE 2 e2
 have e4:=cg hE 4 e4
 have e5:=cg hE 5 e5
 have e6:=cg hE 6 e6
 have e7:=cg hE 7 e7
 have e8:=cg hE 8 e8
 have e9:=cg hE 9 e9
 have e10:=cg hE 10 e10
 have e11:=cg hE 11 e11
 have e12:=cg hE 12 e12
 have e13:=cg hE 13 e13
 have e14:=cg hE 14 e14
 have e15:=cg hE 15 e15
 have e16:E444 16=iv (-1):=cg hE 16 rfl
 have e17:E444 17=pg g438:=cg hE 17 rfl
 have e32:=cg hE 32 e32
 have e33:=cg hE 33 e33
 have e34:=cg hE 34 e34
 have e35:=cg hE 35 e35
 have e72:E444 72=.bool (!((decide (x86<x93)) == (decide (x100<x107)))):=cg hE 72 rfl
 clear hE
 refine Wc.cond (t:=(!((decide (x86<x93)) == (decide (x100<x107))))) (e72) (fun hq445=>?_) (fun hq445=>?_)
 replace hb:=tt hq445 hb
 refine rg<|lp _ (qaa e10) ?_
 obtain ⟨z132,h447,hb⟩:=bd hb
 refine lp (iv z132) (qbx (a:=4) (b:=Q) rfl rfl h447) ?_
 obtain ⟨z134,h449,hb⟩:=bd hb
 refine lp (iv z134) (qal (a:=z132) (b:=3) rfl rfl h449)<|lp _ (qaa e10) ?_
 obtain ⟨z136,h451,hb⟩:=bd hb
 refine lp (iv z136) (qbx (a:=4) (b:=Q) rfl rfl h451) ?_
 obtain ⟨z138,h453,hb⟩:=bd hb
 refine lp (iv z138) (qal (a:=z136) (b:=1) rfl rfl h453)<|lp (.agg #[iv z134,iv z138]) (qbr (places:=[(0,1),(1,1)]) (pv:=[(0,iv z134),(1,iv z138)]) type58 underlying58 rfl (qar type3 (qar type3 qco rfl rfl) rfl rfl) rfl (by simp [Instr.fill,Value.cells]))<|lp (iv 1) (qab rfl)<|lex.sk (hC.seta (i:=0) (ds:=[iv z134,iv z138]) rfl type58 rfl rfl rfl e17 rfl) ?_
 rintro w454 ⟨hC,hF⟩
 refine ln ?_
 replace hC:Cx _ O0 w _ ([.box g438 58 [iv z134,iv z138],_,_,_,_,_,_,_,_,_,_]++(rowsF 58 (.pr si si) l h++(rowsF 58 (.pr si si) y j++([]:List Fact)))):=hC
 exact hK442 _ _ ⟨1,(!((decide (x86<x93)) == (decide (x100<x107)))),z134,z138,e2,e4,e5,e6,e7,e8,e9,e10,e11,e12,e13,e14,e15,rfl,e17,e32,e33,e34,e35,e72,(show I64 1 from by unfold I64; omega),(qai h449),(qai h453),hC.selT [2,3,4,5,6,7,8,9,1,0,10] (by decide),hb⟩
 replace hb:=tf hq445 hb
 refine Wc.skip ?_
 exact hK442 _ _ ⟨(-1),(!((decide (x86<x93)) == (decide (x100<x107)))),z118,z122,e2,e4,e5,e6,e7,e8,e9,e10,e11,e12,e13,e14,e15,e16,e17,e32,e33,e34,e35,e72,(show I64 (-1) from by unfold I64; omega),(qai h433),(qai h437),hC.selT [2,3,4,5,6,7,8,9,1,0,10] (by decide),hb⟩
 clear hb hC
 rintro E456 w455 ⟨X,b3,d,f,e2,e4,e5,e6,e7,e8,e9,e10,e11,e12,e13,e14,e15,e16,e17,e32,e33,e34,e35,e72,b6,c6,c7,hC,hb⟩
 unfold F.qcj at hb
 refine Wc.seq fun _ hK457=>rg ?_
 replace hC:Cx _ O0 w _ ([_,_,_,_,_,_,_,_,_,.box g438 58 [iv d,iv f],_]++(rowsF 58 (.pr si si) l h++(rowsF 58 (.pr si si) y j++([]:List Fact)))):=hC
 refine lp _ (qaa e4)<|lp _ (qaa e16)<|lex.op (hC.lit (s:=si) (vs:=[iv X]) (xs:=[X]) underlying22 type3 rfl rfl (nb rfl) rfl rfl (by simp [Value.cells,Sh.n]) rfl (show Elems _ _ si ([iv X]++([])) ([X]:List Int) from Elems.cons (⟨rfl,I64.wr b6⟩) (Elems.nil _ _ _))) ?_
 rintro _ w462 ⟨A458,c459,rfl,hl460,hc461,hC,-,-⟩
 replace hC:Cx _ O0 w _ ([.own 3 si (.slice A458 ((([X]:List Int)).length) c459) ([X]:List Int),_,_,_,_,_,_,_,_,_,_,_]++(rowsF 58 (.pr si si) l h++(rowsF 58 (.pr si si) y j++([]:List Fact)))):=hC
 obtain ⟨u150,h465,hb⟩:=bd hb
 refine lex.op (hC.app (i:=4) (s:=si) (xs:=J) (ys:=([X]:List Int)) (m:=((([X]:List Int)).length)) rfl underlying22 underlying22 type3 rfl rfl rfl (hC.srco (i:=0) rfl) rfl rfl (by have:=qaw h465; simp at this⊢ <;>omega) (by decide)) ?_
 rintro _ w470 ⟨A466,c467,rfl,hl468,hc469,hC,-,-⟩
 replace hC:Cx _ O0 w _ ([_,_,_,_,.own 3 si (.slice A466 ((J++([X]:List Int)).length) c467) (J++([X]:List Int)),_,_,_,_,_,_,_]++(rowsF 58 (.pr si si) l h++(rowsF 58 (.pr si si) y j++([]:List Fact)))):=hC
 refine lp (.slice A466 ((J++([X]:List Int)).length) c467) (qab rfl)<|ln (hK457 _ _ ?_)
 refine Wc.seq fun _ hK471=>?_
 obtain ⟨x158,h473,hb⟩:=bd hb
 obtain ⟨v474,hv475,-⟩:=qcr (e:=58) (s:=(.pr si si)) a1 (qac h473).2
 replace hC:=Cx.takeRow hC hv475 (qac h473).2
 obtain ⟨A476,c477,hvf480,hl478,hc479⟩:=(hC.ow (i:=0) rfl).form
 subst hvf480
 replace hC:Cx _ O0 w _ ([.own 58 (.pr si si) (.slice A476 x158.length c477) x158,_,_,_,_,_,_,_,_,_,_,_,_]++((rowsF 58 (.pr si si) l h).eraseIdx x65.1.toNat++(rowsF 58 (.pr si si) y j++([]:List Fact)))):=hC
 refine Wc.regionMix [90] (frm [90] [.own 58 (.pr si si) (.slice A476 x158.length c477) x158] [.own 56 .raw (.slice A358 (((List.replicate (c.length:Int).toNat (Value.slice none 0 0))).length) c359) l]) (fun _=>rfl) mixed (by decide+kernel) (by decide+kernel) fun w483 hw482=>?_
 replace hC:=hC.step (Fr.qbb hw482)
 have hM:=Fr.refl (fun k=>k∈blocks [.own 58 (.pr si si) (.slice A476 x158.length c477) x158]) w483
 clear hw482
 have hS:=hC
 have hBf481:Beside [.own 58 (.pr si si) (.slice A476 x158.length c477) x158] w483 (.slice A476 x158.length c477):=Beside.of (i:=0) rfl
 have hD:Fr (fun k=>k∈blocks ([.own 58 (.pr si si) (.slice A476 x158.length c477) x158]++[.own 56 .raw (.slice A358 (((List.replicate (c.length:Int).toNat (Value.slice none 0 0))).length) c359) l])) w483 w483:=hM.wide
 have hUf481:Beside ([.own 58 (.pr si si) (.slice A476 x158.length c477) x158]++[.own 56 .raw (.slice A358 (((List.replicate (c.length:Int).toNat (Value.slice none 0 0))).length) c359) l]) w483 (.slice A476 x158.length c477):=Beside.of (i:=0) rfl
 have hUf363:Beside ([.own 58 (.pr si si) (.slice A476 x158.length c477) x158]++[.own 56 .raw (.slice A358 (((List.replicate (c.length:Int).toNat (Value.slice none 0 0))).length) c359) l]) w483 (.slice A358 (((List.replicate (c.length:Int).toNat (Value.slice none 0 0))).length) c359):=Beside.of (i:=1) rfl
 replace hC:Cx _ O0 w _ ([_,_,_,_,_,_,_,_,_,_,_,_,_]++((rowsF 58 (.pr si si) l h).eraseIdx x65.1.toNat++(rowsF 58 (.pr si si) y j++([]:List Fact)))):=hC
 refine mp (.slice A358 (((List.replicate (c.length:Int).toNat (Value.slice none 0 0))).length) c359) (qaa e5)<|mp (iv x65.1) (qaa e12)<|mp (.slice A358 (((List.replicate (c.length:Int).toNat (Value.slice none 0 0))).length) c359) (qaa e5)<|mp (iv x65.1) (qaa e12) ?_
 obtain ⟨x170,h485,hb⟩:=bd hb
 obtain ⟨v490,hv491,-⟩:=qcr (e:=58) (s:=(.pr si si)) a1 (qac h485).2
 obtain ⟨ad486,cs487,hA,ho492,hc488,hr489⟩:=hS.elo2 (i:=6) rfl hv491 [0] (by decide)
 subst hA
 refine mp (.pointer (some (ad486.add (x65.1.toNat*1)))) (qaf (a:=x65.1) underlying51 sizeOf56 rfl rfl (by rw [(hC.ow (i:=6) rfl).qad.1,a1]; exact (qac h485).1)) ?_
 replace hC:Cx _ O0 w _ ([_,_,_,_,_,_,.own 56 .raw (.slice (some ad486) (((List.replicate (c.length:Int).toNat (Value.slice none 0 0))).length) c359) l,_,_,_,_,_,_]++((rowsF 58 (.pr si si) l h).eraseIdx x65.1.toNat++(rowsF 58 (.pr si si) y j++([]:List Fact)))):=hC
 obtain rfl:=Option.some.inj (hv491.symm.trans hv475)
 obtain ⟨rfl,-⟩:=hr489
 refine mixE.load hM (v:=.slice A476 x158.length c477) (fun _ hF=>qaj isAgg56 rfl (hF.cell (hc488 0 _ rfl) (off1 ho492)))<|mixE.steady hD (v:=.agg #[iv d,iv f]) (fun _ hF=>qbs (hS.bx2 (i:=11) rfl [0,6] (by decide) hF) isAgg58 sizeOf58 e17)<|mixE.op hM (hC.lit (s:=(.pr si si)) (vs:=[.agg #[iv d,iv f]]) (xs:=[(d,f)]) underlying56 type58 rfl rfl (nb rfl) rfl rfl (by simp [Value.cells,Sh.n]) rfl (show Elems _ _ (.pr si si) ([iv d,iv f]++([])) ([(d,f)]:List (Int×Int)) from Elems.cons (⟨[iv d],[iv f],rfl,⟨rfl,I64.wr c6⟩,⟨rfl,I64.wr c7⟩⟩) (Elems.nil _ _ _))) ?_
 rintro _ w497 ⟨A493,c494,rfl,hl495,hc496,hC,hF,hN⟩
 have hBf498:=Beside.new hM hN
 have hUf498:=Beside.new (hM.wide (H:=[.own 56 .raw (.slice (some ad486) (((List.replicate (c.length:Int).toNat (Value.slice none 0 0))).length) c359) l])) hN
 replace hM:=hM.none hF
 replace hD:=hM.wide (H:=[.own 56 .raw (.slice (some ad486) (((List.replicate (c.length:Int).toNat (Value.slice none 0 0))).length) c359) l])
 refine ⟨hM,?_⟩
 clear hF hN
 replace hC:Cx _ O0 w _ ([.own 58 (.pr si si) (.slice A493 ((([(d,f)]:List (Int×Int))).length) c494) ([(d,f)]:List (Int×Int)),_,_,_,_,_,_,_,_,_,_,_,_,_]++((rowsF 58 (.pr si si) l h).eraseIdx x65.1.toNat++(rowsF 58 (.pr si si) y j++([]:List Fact)))):=hC
 obtain ⟨u185,h500,hb⟩:=bd hb
 refine mixE.op hM (hC.app (i:=1) (s:=(.pr si si)) (xs:=x158) (ys:=([(d,f)]:List (Int×Int))) (m:=((([(d,f)]:List (Int×Int))).length)) rfl underlying56 underlying56 type58 rfl rfl rfl (hC.srco (i:=0) rfl) rfl rfl (by have:=qaw h500; simp at this⊢ <;>omega) (by decide)) ?_
 rintro _ w505 ⟨A501,c502,rfl,hl503,hc504,hC,hF,hN⟩
 have hB:=hBf481
 replace hBf481:=hB.app hM hN
 replace hM:=hM.beside hB hF
 clear hB
 replace hD:=hM.wide (H:=[.own 56 .raw (.slice (some ad486) (((List.replicate (c.length:Int).toNat (Value.slice none 0 0))).length) c359) l])
 refine ⟨hM,?_⟩
 clear hF hN
 replace hC:Cx _ O0 w _ ([_,.own 58 (.pr si si) (.slice A501 ((x158++([(d,f)]:List (Int×Int))).length) c502) (x158++([(d,f)]:List (Int×Int))),_,_,_,_,_,_,_,_,_,_,_,_]++((rowsF 58 (.pr si si) l h).eraseIdx x65.1.toNat++(rowsF 58 (.pr si si) y j++([]:List Fact)))):=hC
 obtain ⟨x192,h507,hb⟩:=bd hb
 obtain ⟨v512,hv513,-⟩:=qcr (e:=58) (s:=(.pr si si)) a1 (qac h507).2
 obtain ⟨ad508,cs509,hA,ho514,hc510,hr511⟩:=hS.elo2 (i:=6) rfl hv513 [0] (by decide)
 obtain rfl:=Option.some.inj hA
 refine mp (.pointer (some (ad486.add (x65.1.toNat*1)))) (qaf (a:=x65.1) underlying51 sizeOf56 rfl rfl (by rw [(hC.ow (i:=7) rfl).qad.1,a1]; exact (qac h507).1))<|mixE.sk hD (hC.put (i:=7) (s:=.raw) rfl rfl sizeOf56 (k:=x65.1.toNat) (a:=Value.slice A501 ((x158++([(d,f)]:List (Int×Int))).length) c502) (by rw [a1]; exact (List.getElem?_eq_some_iff.1 (qac h507).2).1) (show Rep _ _ .raw [Value.slice A501 ((x158++([(d,f)]:List (Int×Int))).length) c502] (Value.slice A501 ((x158++([(d,f)]:List (Int×Int))).length) c502) from ⟨rfl,rfl⟩) rfl rfl rfl) ?_
 rintro w515 ⟨hC,hF⟩
 replace hD:=hD.beside hUf363 hF
 clear hF
 refine ⟨hD,?_⟩
 replace hC:Cx _ O0 w _ ([_,_,_,_,_,_,_,.own 56 .raw (.slice (some ad486) (((List.replicate (c.length:Int).toNat (Value.slice none 0 0))).length) c359) (l.set x65.1.toNat (Value.slice A501 ((x158++([(d,f)]:List (Int×Int))).length) c502)),_,_,_,_,_,_]++((rowsF 58 (.pr si si) l h).eraseIdx x65.1.toNat++(rowsF 58 (.pr si si) y j++([]:List Fact)))):=hC
 replace hC:=hC.selT [1,0,2,3,4,5,6,7,8,9,10,11,12,13] (by decide)
 replace hC:=Cx.putRow hC a1 (List.getElem?_eq_some_iff.1 (qac h507).2).1
 have hN516:(l.set x65.1.toNat (Value.slice A501 ((x158++([(d,f)]:List (Int×Int))).length) c502)).length=(h.set x65.1.toNat (x158++([(d,f)]:List (Int×Int)))).length:=lenset a1 _ _ _ _
 replace hC:Cx _ O0 w _ ([_,_,_,_,_,_,_,_,_,_,_,_,_]++(rowsF 58 (.pr si si) (l.set x65.1.toNat (Value.slice A501 ((x158++([(d,f)]:List (Int×Int))).length) c502)) (h.set x65.1.toNat (x158++([(d,f)]:List (Int×Int))))++(rowsF 58 (.pr si si) y j++([]:List Fact)))):=hC
 refine mixE.nil ?_
 clear hS hM
 clear hD
 refine hK471 _ _<|Wc.fresh fun E517 hE=>?_
 have e2:=cg hE 2 e2
 have e4:E517 4=.slice A466 ((J++([X]:List Int)).length) c467:=cg hE 4 rfl
 have e5:=cg hE 5 e5
 have e6:=cg hE 6 e6
 have e7:=cg hE 7 e7
 have e8:=cg hE 8 e8
 have e9:=cg hE 9 e9
 have e10:=cg hE 10 e10
 have e11:=cg hE 11 e11
 have e12:=cg hE 12 e12
 have e13:=cg hE 13 e13
 have e14:=cg hE 14 e14
 have e15:=cg hE 15 e15
 have e16:=cg hE 16 e16
 have e17:=cg hE 17 e17
 have e32:=cg hE 32 e32
 have e33:=cg hE 33 e33
 have e34:=cg hE 34 e34
 have e35:=cg hE 35 e35
 have e72:=cg hE 72 e72
 clear hE
 refine rg<|lp _ (qaa e6)<|lp _ (qaa e13)<|lp _ (qaa e6)<|lp _ (qaa e13) ?_
 obtain ⟨x204,h519,hb⟩:=bd hb
 obtain ⟨v524,hv525,-⟩:=qcr (e:=58) (s:=(.pr si si)) a2 (qac h519).2
 obtain ⟨ad520,cs521,hA,hc522,hr523⟩:=hC.elo (i:=7) rfl hv525
 subst hA
 refine lp (.pointer (some (ad520.add (x65.2.toNat*1)))) (qaf (a:=x65.2) underlying51 sizeOf56 rfl rfl (by rw [(hC.ow (i:=7) rfl).qad.1,a2]; exact (qac h519).1)) ?_
 replace hC:Cx _ O0 w _ ([_,_,_,_,_,_,_,.own 56 .raw (.slice (some ad520) (((List.replicate (c.length:Int).toNat (Value.slice none 0 0))).length) c351) y,_,_,_,_,_]++(rowsF 58 (.pr si si) (l.set x65.1.toNat (Value.slice A501 ((x158++([(d,f)]:List (Int×Int))).length) c502)) (h.set x65.1.toNat (x158++([(d,f)]:List (Int×Int))))++(rowsF 58 (.pr si si) y j++([]:List Fact)))):=hC
 replace hC:=hC.swapT
 replace hC:Cx _ O0 w _ ([_,_,_,_,_,_,_,_,_,_,_,_,_]++(rowsF 58 (.pr si si) y j++(rowsF 58 (.pr si si) (l.set x65.1.toNat (Value.slice A501 ((x158++([(d,f)]:List (Int×Int))).length) c502)) (h.set x65.1.toNat (x158++([(d,f)]:List (Int×Int))))++([]:List Fact)))):=hC
 replace hC:=Cx.takeRow hC hv525 (qac h519).2
 obtain ⟨A526,c527,hvf530,hl528,hc529⟩:=(hC.ow (i:=0) rfl).form
 subst hvf530
 obtain ⟨rfl,-⟩:=hr523
 replace hC:Cx _ O0 w _ ([.own 58 (.pr si si) (.slice A526 x204.length c527) x204,_,_,_,_,_,_,_,_,_,_,_,_,_]++((rowsF 58 (.pr si si) y j).eraseIdx x65.2.toNat++(rowsF 58 (.pr si si) (l.set x65.1.toNat (Value.slice A501 ((x158++([(d,f)]:List (Int×Int))).length) c502)) (h.set x65.1.toNat (x158++([(d,f)]:List (Int×Int))))++([]:List Fact)))):=hC
 refine lv (.slice A526 x204.length c527) (qaj isAgg56 rfl (hc522 0 _ rfl))<|lp _ (qaa e10) ?_
 obtain ⟨z218,h533,hb⟩:=bd hb
 refine lp (iv z218) (qbx (a:=4) (b:=Q) rfl rfl h533)<|lp _ (qaa e10) ?_
 obtain ⟨z220,h535,hb⟩:=bd hb
 refine lp (iv z220) (qbx (a:=4) (b:=Q) rfl rfl h535) ?_
 obtain ⟨z222,h537,hb⟩:=bd hb
 refine lp (iv z222) (qal (a:=z220) (b:=2) rfl rfl h537)<|lp (.agg #[iv z218,iv z222]) (qbr (places:=[(0,1),(1,1)]) (pv:=[(0,iv z218),(1,iv z222)]) type58 underlying58 rfl (qar type3 (qar type3 qco rfl rfl) rfl rfl) rfl (by simp [Instr.fill,Value.cells]))<|lex.op (hC.lit (s:=(.pr si si)) (vs:=[.agg #[iv z218,iv z222]]) (xs:=[(z218,z222)]) underlying56 type58 rfl rfl (nb rfl) rfl rfl (by simp [Value.cells,Sh.n]) rfl (show Elems _ _ (.pr si si) ([iv z218,iv z222]++([])) ([(z218,z222)]:List (Int×Int)) from Elems.cons (⟨[iv z218],[iv z222],rfl,⟨rfl,I64.wr (qai h533)⟩,⟨rfl,I64.wr (qai h537)⟩⟩) (Elems.nil _ _ _))) ?_
 rintro _ w542 ⟨A538,c539,rfl,hl540,hc541,hC,-,-⟩
 replace hC:Cx _ O0 w _ ([.own 58 (.pr si si) (.slice A538 ((([(z218,z222)]:List (Int×Int))).length) c539) ([(z218,z222)]:List (Int×Int)),_,_,_,_,_,_,_,_,_,_,_,_,_,_]++((rowsF 58 (.pr si si) y j).eraseIdx x65.2.toNat++(rowsF 58 (.pr si si) (l.set x65.1.toNat (Value.slice A501 ((x158++([(d,f)]:List (Int×Int))).length) c502)) (h.set x65.1.toNat (x158++([(d,f)]:List (Int×Int))))++([]:List Fact)))):=hC
 obtain ⟨u230,h545,hb⟩:=bd hb
 refine lex.op (hC.app (i:=1) (s:=(.pr si si)) (xs:=x204) (ys:=([(z218,z222)]:List (Int×Int))) (m:=((([(z218,z222)]:List (Int×Int))).length)) rfl underlying56 underlying56 type58 rfl rfl rfl (hC.srco (i:=0) rfl) rfl rfl (by have:=qaw h545; simp at this⊢ <;>omega) (by decide)) ?_
 rintro _ w550 ⟨A546,c547,rfl,hl548,hc549,hC,-,-⟩
 replace hC:Cx _ O0 w _ ([_,.own 58 (.pr si si) (.slice A546 ((x204++([(z218,z222)]:List (Int×Int))).length) c547) (x204++([(z218,z222)]:List (Int×Int))),_,_,_,_,_,_,_,_,_,_,_,_,_]++((rowsF 58 (.pr si si) y j).eraseIdx x65.2.toNat++(rowsF 58 (.pr si si) (l.set x65.1.toNat (Value.slice A501 ((x158++([(d,f)]:List (Int×Int))).length) c502)) (h.set x65.1.toNat (x158++([(d,f)]:List (Int×Int))))++([]:List Fact)))):=hC
 obtain ⟨x237,h552,hb⟩:=bd hb
 obtain ⟨v557,hv558,-⟩:=qcr (e:=58) (s:=(.pr si si)) a2 (qac h552).2
 obtain ⟨ad553,cs554,hA,hc555,hr556⟩:=hC.elo (i:=9) rfl hv558
 obtain rfl:=Option.some.inj hA
 refine lp (.pointer (some (ad520.add (x65.2.toNat*1)))) (qaf (a:=x65.2) underlying51 sizeOf56 rfl rfl (by rw [(hC.ow (i:=9) rfl).qad.1,a2]; exact (qac h552).1))<|lex.sk (hC.put (i:=9) (s:=.raw) rfl rfl sizeOf56 (k:=x65.2.toNat) (a:=Value.slice A546 ((x204++([(z218,z222)]:List (Int×Int))).length) c547) (by rw [a2]; exact (List.getElem?_eq_some_iff.1 (qac h552).2).1) (show Rep _ _ .raw [Value.slice A546 ((x204++([(z218,z222)]:List (Int×Int))).length) c547] (Value.slice A546 ((x204++([(z218,z222)]:List (Int×Int))).length) c547) from ⟨rfl,rfl⟩) rfl rfl rfl) ?_
 rintro w559 ⟨hC,-⟩
 replace hC:Cx _ O0 w _ ([_,_,_,_,_,_,_,_,_,.own 56 .raw (.slice (some ad520) (((List.replicate (c.length:Int).toNat (Value.slice none 0 0))).length) c351) (y.set x65.2.toNat (Value.slice A546 ((x204++([(z218,z222)]:List (Int×Int))).length) c547)),_,_,_,_,_]++((rowsF 58 (.pr si si) y j).eraseIdx x65.2.toNat++(rowsF 58 (.pr si si) (l.set x65.1.toNat (Value.slice A501 ((x158++([(d,f)]:List (Int×Int))).length) c502)) (h.set x65.1.toNat (x158++([(d,f)]:List (Int×Int))))++([]:List Fact)))):=hC
 replace hC:=hC.selT [1,0,2,3,4,5,6,7,8,9,10,11,12,13,14] (by decide)
 replace hC:=Cx.putRow hC a2 (List.getElem?_eq_some_iff.1 (qac h552).2).1
 have hN560:(y.set x65.2.toNat (Value.slice A546 ((x204++([(z218,z222)]:List (Int×Int))).length) c547)).length=(j.set x65.2.toNat (x204++([(z218,z222)]:List (Int×Int)))).length:=lenset a2 _ _ _ _
 replace hC:Cx _ O0 w _ ([_,_,_,_,_,_,_,_,_,_,_,_,_,_]++(rowsF 58 (.pr si si) (y.set x65.2.toNat (Value.slice A546 ((x204++([(z218,z222)]:List (Int×Int))).length) c547)) (j.set x65.2.toNat (x204++([(z218,z222)]:List (Int×Int))))++(rowsF 58 (.pr si si) (l.set x65.1.toNat (Value.slice A501 ((x158++([(d,f)]:List (Int×Int))).length) c502)) (h.set x65.1.toNat (x158++([(d,f)]:List (Int×Int))))++([]:List Fact)))):=hC
 refine ln (hK377 _ _ ?_)
 refine rg ?_
 obtain ⟨z247,h562,hb⟩:=bd hb
 refine lp (iv z247) (qal (a:=Q) (b:=1) e34 rfl h562)<|lp (iv z247) (qaa rfl)<|ln ?_
 obtain rfl:=os hb
 replace hC:=hC.swapT
 replace hC:Cx _ O0 w _ ([_,_,_,_,_,_,_,_,_,_,_,_,_,_]++(rowsF 58 (.pr si si) (l.set x65.1.toNat (Value.slice A501 ((x158++([(d,f)]:List (Int×Int))).length) c502)) (h.set x65.1.toNat (x158++([(d,f)]:List (Int×Int))))++(rowsF 58 (.pr si si) (y.set x65.2.toNat (Value.slice A546 ((x204++([(z218,z222)]:List (Int×Int))).length) c547)) (j.set x65.2.toNat (x204++([(z218,z222)]:List (Int×Int))))++([]:List Fact)))):=hC
 exact hK369 m370' _ _ (Nat.lt_succ_self _) ⟨(J++([X]:List Int)),z247,(h.set x65.1.toNat (x158++([(d,f)]:List (Int×Int)))),(j.set x65.2.toNat (x204++([(z218,z222)]:List (Int×Int)))),A466,(J++([X]:List Int)).length,c467,(l.set x65.1.toNat (Value.slice A501 ((x158++([(d,f)]:List (Int×Int))).length) c502)),(y.set x65.2.toNat (Value.slice A546 ((x204++([(z218,z222)]:List (Int×Int))).length) c547)),e2,e4,e5,e6,e7,e8,e9,e32,e33,rfl,(qai h562),hN516,hN560,hC.selT [3,4,5,6,7,8,9,10,13] (by decide),lN hl0⟩
 replace hb:=tf hq376 hb
 refine Wc.exit rfl ?_
 obtain rfl:=os hb
 obtain rfl:=(lX hl0).symm
 exact hK368 _ _ ⟨J,Q,h,j,R,J.length,S,l,y,e2,e4,e5,e6,e7,e8,e9,b2,a1,a2,hC.selT [0,1,2,3,4,5,6,7] (by decide),hbK0⟩
 clear hb hC hl0
 rintro E564 w563 ⟨J,Q,h,j,R,a7,S,l,y,e2,e4,e5,e6,e7,e8,e9,b2,a1,a2,hC,hb⟩
 obtain ⟨rfl,b8,b9⟩:=(hC.ow (i:=3) rfl).qad
 refine hK364 _ _ ?_
 refine Wc.seq fun _ hK565=>?_
 refine Wc.seq fun _ hK566=>rg ?_
 replace hC:Cx _ O0 w _ ([.box g5 24 [.slice N c.length B,.slice M o.length C],.ro (.sl si) [.slice N c.length B] c,.ro (.sl si) [.slice M o.length C] o,.own 3 si (.slice R J.length S) J,.own 56 .raw (.slice A358 (((List.replicate (c.length:Int).toNat (Value.slice none 0 0))).length) c359) l,.own 56 .raw (.slice A350 (((List.replicate (c.length:Int).toNat (Value.slice none 0 0))).length) c351) y,.own 3 si (.slice A14 y12.length c16) y12,.own 3 si (.slice A23 y21.length c25) y21]++(rowsF 58 (.pr si si) l h++(rowsF 58 (.pr si si) y j++([]:List Fact)))):=hC
 refine lp _ (qaa e7)<|lp (iv 0) (qaa rfl)<|ln (hK566 _ _ ?_)
 obtain ⟨o253,hl2,f253,hf253,hb⟩:=bn hb
 refine Wc.cut (fun E wv=> ∃(g:Int) (L:List (List (Int×Int))) (u:List (List (Int×Int))) (P:List Value) (G:List Value),E 4=.slice R J.length S∧E 5=.slice A358 (((List.replicate (c.length:Int).toNat (Value.slice none 0 0))).length) c359∧E 6=.slice A350 (((List.replicate (c.length:Int).toNat (Value.slice none 0 0))).length) c351∧I64 g∧P.length=L.length∧G.length=u.length∧Cx (fun _=>False) O0 w wv ([.own 3 si (.slice R J.length S) J,.own 56 .raw (.slice A358 (((List.replicate (c.length:Int).toNat (Value.slice none 0 0))).length) c359) P,.own 56 .raw (.slice A350 (((List.replicate (c.length:Int).toNat (Value.slice none 0 0))).length) c351) G]++(rowsF 58 (.pr si si) P L++(rowsF 58 (.pr si si) G u++([]:List Fact))))∧f253 (g,L,u)=some r) (fun _ hK568=>?_) ?_
 refine Wc.block ?_
 refine Wc.loop (fun m E wv=> ∃(g:Int) (L:List (List (Int×Int))) (u:List (List (Int×Int))) (P:List Value) (G:List Value),E 2=pg g5∧E 4=.slice R J.length S∧E 5=.slice A358 (((List.replicate (c.length:Int).toNat (Value.slice none 0 0))).length) c359∧E 6=.slice A350 (((List.replicate (c.length:Int).toNat (Value.slice none 0 0))).length) c351∧E 8=.slice A14 y12.length c16∧E 9=.slice A23 y21.length c25∧E 110=iv (c.length:Int)∧E 111=iv g∧I64 g∧P.length=L.length∧G.length=u.length∧Cx (fun _=>False) O0 w wv ([.box g5 24 [.slice N c.length B,.slice M o.length C],.ro (.sl si) [.slice N c.length B] c,.ro (.sl si) [.slice M o.length C] o,.own 3 si (.slice R J.length S) J,.own 56 .raw (.slice A358 (((List.replicate (c.length:Int).toNat (Value.slice none 0 0))).length) c359) P,.own 56 .raw (.slice A350 (((List.replicate (c.length:Int).toNat (Value.slice none 0 0))).length) c351) G,.own 3 si (.slice A14 y12.length c16) y12,.own 3 si (.slice A23 y21.length c25) y21]++(rowsF 58 (.pr si si) P L++(rowsF 58 (.pr si si) G u++([]:List Fact))))∧loopN m (F.qbv n c o y12 y21) (g,L,u)=some o253) n ⟨0,h,j,l,y,e2,e4,e5,e6,e8,e9,rfl,rfl,(show I64 0 from by unfold I64; omega),a1,a2,hC.selT [0,1,2,3,4,5,6,7] (by decide),hl2⟩ ?_
 have hbK2:=hb
 clear hb hC hl2
 rintro m570 E572 w571 ⟨g,L,u,P,G,e2,e4,e5,e6,e8,e9,e110,e111,b0,a5,a6,hC,hl2⟩ K569 hK569
 obtain ⟨m570',o573,rfl,hb,hl2⟩:=qan hl2
 unfold F.qbv at hb
 refine Wc.seq fun _ hK574=>rg ?_
 replace hC:Cx _ O0 w _ ([_,_,_,_,.own 56 .raw (.slice A358 (((List.replicate (c.length:Int).toNat (Value.slice none 0 0))).length) c359) P,.own 56 .raw (.slice A350 (((List.replicate (c.length:Int).toNat (Value.slice none 0 0))).length) c351) G,_,_]++(rowsF 58 (.pr si si) P L++(rowsF 58 (.pr si si) G u++([]:List Fact)))):=hC
 refine lp _ (qap e111 e110)<|ln (hK574 _ _ ?_)
 refine Wc.seq fun _ hK575=>?_
 refine Wc.cond (t:=(decide (g<(c.length:Int)))) (rfl) (fun hq576=>?_) (fun hq576=>?_)
 replace hb:=tt hq576 hb
 refine Wc.skip (hK575 _ _ ?_)
 refine Wc.seq fun _ hK577=>?_
 refine Wc.block<|Wc.seq fun _ hK578=>rg<|lp _ (qaa e111)<|lp (iv g) (qab rfl)<|ln (hK578 _ _ ?_)
 refine Wc.seqJ (fun E wv=> ∃(b1:Bool) (V:List (List (Int×Int))) (Y:List Value),E 2=pg g5∧E 4=.slice R J.length S∧E 5=.slice A358 (((List.replicate (c.length:Int).toNat (Value.slice none 0 0))).length) c359∧E 6=.slice A350 (((List.replicate (c.length:Int).toNat (Value.slice none 0 0))).length) c351∧E 8=.slice A14 y12.length c16∧E 9=.slice A23 y21.length c25∧E 18=iv g∧E 110=iv (c.length:Int)∧E 111=iv g∧E 112=.bool (decide (g<(c.length:Int)))∧E 124=.bool b1∧Y.length=V.length∧Cx (fun _=>False) O0 w wv ([.box g5 24 [.slice N c.length B,.slice M o.length C],.ro (.sl si) [.slice N c.length B] c,.ro (.sl si) [.slice M o.length C] o,.own 3 si (.slice R J.length S) J,.own 56 .raw (.slice A358 (((List.replicate (c.length:Int).toNat (Value.slice none 0 0))).length) c359) Y,.own 56 .raw (.slice A350 (((List.replicate (c.length:Int).toNat (Value.slice none 0 0))).length) c351) G,.own 3 si (.slice A14 y12.length c16) y12,.own 3 si (.slice A23 y21.length c25) y21]++(rowsF 58 (.pr si si) Y V++(rowsF 58 (.pr si si) G u++([]:List Fact))))∧F.qck n y12 y21 g u b1 V=some o573) (fun _ hK579=>?_) ?_
 refine Wc.seq fun _ hK580=>?_
 refine Wc.regionMix [] (frm [] ([]:List Fact) ([]:List Fact)) (fun _=>rfl) mixed (by decide+kernel) (by decide+kernel) fun w582 hw581=>?_
 replace hC:=hC.step (Fr.qbb hw581)
 have hM:=Fr.refl (fun k=>k∈blocks ([]:List Fact)) w582
 clear hw581
 have hS:=hC
 replace hC:Cx _ O0 w _ ([_,_,_,_,_,_,_,_]++(rowsF 58 (.pr si si) P L++(rowsF 58 (.pr si si) G u++([]:List Fact)))):=hC
 refine mp (.pointer (some ((⟨g5,0,none⟩:Addr).add 0))) (qag (sz:=1) underlying24 rfl sizeOf22 (by decide) rfl e2)<|mixE.load hM (v:=.slice N c.length B) (fun _ hF=>qam (hS.bx2 (i:=0) rfl [] (by decide) hF) isAgg22 rfl rfl)<|mp (iv g) (qaa rfl) ?_
 obtain ⟨x269,h584,hb⟩:=bd hb
 obtain ⟨ad585,cs586,hA,ho589,hc587,hr588⟩:=hS.elr2 (i:=1) rfl (qac h584).2 []
 subst hA
 refine mp (.pointer (some (ad585.add (g.toNat*1)))) (qaf (a:=g) underlying22 sizeOf3 rfl rfl (qac h584).1) ?_
 replace hC:Cx _ O0 w _ ([.box g5 24 [.slice (some ad585) c.length B,.slice M o.length C],.ro (.sl si) [.slice (some ad585) c.length B] c,_,_,_,_,_,_]++(rowsF 58 (.pr si si) P L++(rowsF 58 (.pr si si) G u++([]:List Fact)))):=hC
 obtain ⟨rfl,hr588'⟩:=hr588
 refine mixE.load hM (v:=iv x269) (fun _ hF=>qaj isAgg3 rfl (hF.cell (hc587 0 _ rfl) (off1 ho589)))<|mp (.pointer (some ((⟨g5,0,none⟩:Addr).add 1))) (qag (sz:=1) underlying24 rfl sizeOf22 (by decide) rfl e2)<|mixE.load hM (v:=.slice M o.length C) (fun _ hF=>qam (hS.bx2 (i:=0) rfl [] (by decide) hF) isAgg22 rfl rfl)<|mp (iv g) (qaa rfl) ?_
 obtain ⟨x276,h591,hb⟩:=bd hb
 obtain ⟨ad592,cs593,hA,ho596,hc594,hr595⟩:=hS.elr2 (i:=2) rfl (qac h591).2 []
 subst hA
 refine mp (.pointer (some (ad592.add (g.toNat*1)))) (qaf (a:=g) underlying22 sizeOf3 rfl rfl (qac h591).1) ?_
 replace hC:Cx _ O0 w _ ([.box g5 24 [.slice (some ad585) c.length B,.slice (some ad592) o.length C],_,.ro (.sl si) [.slice (some ad592) o.length C] o,_,_,_,_,_]++(rowsF 58 (.pr si si) P L++(rowsF 58 (.pr si si) G u++([]:List Fact)))):=hC
 obtain ⟨rfl,hr595'⟩:=hr595
 refine mixE.load hM (v:=iv x276) (fun _ hF=>qaj isAgg3 rfl (hF.cell (hc594 0 _ rfl) (off1 ho596)))<|mp (.bool (decide (x276<x269))) (qed (k:=.i64) (a:=x269) (b:=x276) rfl rfl)<|mixE.nil ?_
 clear hS hM
 refine hK580 _ _<|Wc.fresh fun E597 hE=>?_
 have e2:=cg hE 2 e2
 have e4:=cg hE 4 e4
 have e5:=cg hE 5 e5
 have e6:=cg hE 6 e6
 have e8:=cg hE 8 e8
 have e9:=cg hE 9 e9
 have e18:E597 18=iv g:=cg hE 18 rfl
 have e110:=cg hE 110 e110
 have e111:=cg hE 111 e111
 have e112:E597 112=.bool (decide (g<(c.length:Int))):=cg hE 112 rfl
 have e124:E597 124=.bool (decide (x276<x269)):=cg hE 124 rfl
 clear hE
 refine Wc.cond (t:=(decide (x276<x269))) (e124) (fun hq598=>?_) (fun hq598=>?_)
 replace hb:=tt hq598 hb
 refine rg<|lp _ (qaa e5)<|lp _ (qaa e18) ?_
 obtain ⟨x285,h600,hb⟩:=bd hb
 obtain ⟨v605,hv606,-⟩:=qcr (e:=58) (s:=(.pr si si)) a5 (qac h600).2
 obtain ⟨ad601,cs602,hA,hc603,hr604⟩:=hC.elo (i:=4) rfl hv606
 subst hA
 refine lp (.pointer (some (ad601.add (g.toNat*1)))) (qaf (a:=g) underlying51 sizeOf56 rfl rfl (by rw [(hC.ow (i:=4) rfl).qad.1,a5]; exact (qac h600).1)) ?_
 replace hC:Cx _ O0 w _ ([_,_,_,_,.own 56 .raw (.slice (some ad601) (((List.replicate (c.length:Int).toNat (Value.slice none 0 0))).length) c359) P,_,_,_]++(rowsF 58 (.pr si si) P L++(rowsF 58 (.pr si si) G u++([]:List Fact)))):=hC
 replace hC:=Cx.takeRow hC hv606 (qac h600).2
 obtain ⟨A607,c608,hvf611,hl609,hc610⟩:=(hC.ow (i:=0) rfl).form
 subst hvf611
 obtain ⟨rfl,-⟩:=hr604
 replace hC:Cx _ O0 w _ ([.own 58 (.pr si si) (.slice A607 x285.length c608) x285,_,_,_,_,_,_,_,_]++((rowsF 58 (.pr si si) P L).eraseIdx g.toNat++(rowsF 58 (.pr si si) G u++([]:List Fact)))):=hC
 refine lv (.slice A607 x285.length c608) (qaj isAgg56 rfl (hc603 0 _ rfl)) ?_
 replace hC:=hC.selT [0,1,2,3,4,5,6,7,8] (by decide)
 replace hC:Cx _ O0 w _ ([_]++([.box g5 24 [.slice (some ad585) c.length B,.slice (some ad592) o.length C],.ro (.sl si) [.slice (some ad585) c.length B] c,.ro (.sl si) [.slice (some ad592) o.length C] o,.own 3 si (.slice R J.length S) J,.own 56 .raw (.slice (some ad601) (((List.replicate (c.length:Int).toNat (Value.slice none 0 0))).length) c359) P,.own 56 .raw (.slice A350 (((List.replicate (c.length:Int).toNat (Value.slice none 0 0))).length) c351) G,.own 3 si (.slice A14 y12.length c16) y12,.own 3 si (.slice A23 y21.length c25) y21]++((rowsF 58 (.pr si si) P L).eraseIdx g.toNat++(rowsF 58 (.pr si si) G u++([]:List Fact))))):=hC
 obtain ⟨y299,h614,hb⟩:=bd hb
 refine lex.cl (⟨_,_,qas (vs:=[.slice A607 x285.length c608]) call67 rfl rfl rfl,qcq n hC.lt hC.give h614⟩) ?_
 rintro _ w615 ⟨rfl,hK⟩
 replace hC:=hC.back hK
 clear hK
 refine ln ?_
 replace hC:Cx _ O0 w _ ([.own 58 (.pr si si) (.slice A607 x285.length c608) y299,.box g5 24 [.slice (some ad585) c.length B,.slice (some ad592) o.length C],.ro (.sl si) [.slice (some ad585) c.length B] c,.ro (.sl si) [.slice (some ad592) o.length C] o,.own 3 si (.slice R J.length S) J,.own 56 .raw (.slice (some ad601) (((List.replicate (c.length:Int).toNat (Value.slice none 0 0))).length) c359) P,.own 56 .raw (.slice A350 (((List.replicate (c.length:Int).toNat (Value.slice none 0 0))).length) c351) G,.own 3 si (.slice A14 y12.length c16) y12,.own 3 si (.slice A23 y21.length c25) y21]++((rowsF 58 (.pr si si) P L).eraseIdx g.toNat++(rowsF 58 (.pr si si) G u++([]:List Fact)))):=hC
 replace hC:=hC.selT [0,1,2,3,4,5,6,7,8] (by decide)
 replace hC:=Cx.putSame hC a5 (List.getElem?_eq_some_iff.1 (qac h600).2).1 hv606
 have hN616:P.length=(L.set g.toNat y299).length:=by rw [List.length_set]; exact a5
 replace hC:Cx _ O0 w _ ([_,_,_,_,_,_,_,_]++(rowsF 58 (.pr si si) P (L.set g.toNat y299)++(rowsF 58 (.pr si si) G u++([]:List Fact)))):=hC
 exact hK579 _ _ ⟨(decide (x276<x269)),(L.set g.toNat y299),P,e2,e4,e5,e6,e8,e9,e18,e110,e111,e112,e124,hN616,hC.selT [0,1,2,3,4,5,6,7] (by decide),hb⟩
 replace hb:=tf hq598 hb
 refine Wc.skip ?_
 exact hK579 _ _ ⟨(decide (x276<x269)),L,P,e2,e4,e5,e6,e8,e9,e18,e110,e111,e112,e124,a5,hC.selT [0,1,2,3,4,5,6,7] (by decide),hb⟩
 clear hb hC
 rintro E618 w617 ⟨b1,V,Y,e2,e4,e5,e6,e8,e9,e18,e110,e111,e112,e124,b7,hC,hb⟩
 unfold F.qck at hb
 refine Wc.seq fun _ hK619=>?_
 refine Wc.regionMix [] (frm [] ([]:List Fact) ([]:List Fact)) (fun _=>rfl) mixed (by decide+kernel) (by decide+kernel) fun w621 hw620=>?_
 replace hC:=hC.step (Fr.qbb hw620)
 have hM:=Fr.refl (fun k=>k∈blocks ([]:List Fact)) w621
 clear hw620
 have hS:=hC
 replace hC:Cx _ O0 w _ ([.box g5 24 [.slice N c.length B,.slice M o.length C],.ro (.sl si) [.slice N c.length B] c,.ro (.sl si) [.slice M o.length C] o,_,.own 56 .raw (.slice A358 (((List.replicate (c.length:Int).toNat (Value.slice none 0 0))).length) c359) Y,_,_,_]++(rowsF 58 (.pr si si) Y V++(rowsF 58 (.pr si si) G u++([]:List Fact)))):=hC
 refine mp (.slice A23 y21.length c25) (qaa e9)<|mp (iv g) (qaa e18) ?_
 obtain ⟨x308,h623,hb⟩:=bd hb
 obtain ⟨ad624,cs625,hA,ho628,hc626,hr627⟩:=hS.elo2 (i:=7) rfl (qac h623).2 [] (by decide)
 subst hA
 refine mp (.pointer (some (ad624.add (g.toNat*1)))) (qaf (a:=g) underlying22 sizeOf3 rfl rfl (qac h623).1) ?_
 replace hC:Cx _ O0 w _ ([_,_,_,_,_,_,_,.own 3 si (.slice (some ad624) y21.length c25) y21]++(rowsF 58 (.pr si si) Y V++(rowsF 58 (.pr si si) G u++([]:List Fact)))):=hC
 obtain ⟨rfl,hr627'⟩:=hr627
 refine mixE.load hM (v:=iv x308) (fun _ hF=>qaj isAgg3 rfl (hF.cell (hc626 0 _ rfl) (off1 ho628)))<|mp (.slice A14 y12.length c16) (qaa e8)<|mp (iv g) (qaa e18) ?_
 obtain ⟨x315,h630,hb⟩:=bd hb
 obtain ⟨ad631,cs632,hA,ho635,hc633,hr634⟩:=hS.elo2 (i:=6) rfl (qac h630).2 [] (by decide)
 subst hA
 refine mp (.pointer (some (ad631.add (g.toNat*1)))) (qaf (a:=g) underlying22 sizeOf3 rfl rfl (qac h630).1) ?_
 replace hC:Cx _ O0 w _ ([_,_,_,_,_,_,.own 3 si (.slice (some ad631) y12.length c16) y12,_]++(rowsF 58 (.pr si si) Y V++(rowsF 58 (.pr si si) G u++([]:List Fact)))):=hC
 obtain ⟨rfl,hr634'⟩:=hr634
 refine mixE.load hM (v:=iv x315) (fun _ hF=>qaj isAgg3 rfl (hF.cell (hc633 0 _ rfl) (off1 ho635)))<|mp (.bool (decide (x315<x308))) (qed (k:=.i64) (a:=x308) (b:=x315) rfl rfl)<|mixE.nil ?_
 clear hS hM
 refine hK619 _ _<|Wc.cond (t:=(decide (x315<x308))) (rfl) (fun hq636=>?_) (fun hq636=>?_)
 replace hb:=tt hq636 hb
 refine rg<|lp _ (qaa e6)<|lp _ (qaa e18) ?_
 obtain ⟨x323,h638,hb⟩:=bd hb
 obtain ⟨v643,hv644,-⟩:=qcr (e:=58) (s:=(.pr si si)) a6 (qac h638).2
 obtain ⟨ad639,cs640,hA,hc641,hr642⟩:=hC.elo (i:=5) rfl hv644
 subst hA
 refine lp (.pointer (some (ad639.add (g.toNat*1)))) (qaf (a:=g) underlying51 sizeOf56 rfl rfl (by rw [(hC.ow (i:=5) rfl).qad.1,a6]; exact (qac h638).1)) ?_
 replace hC:Cx _ O0 w _ ([_,_,_,_,_,.own 56 .raw (.slice (some ad639) (((List.replicate (c.length:Int).toNat (Value.slice none 0 0))).length) c351) G,_,_]++(rowsF 58 (.pr si si) Y V++(rowsF 58 (.pr si si) G u++([]:List Fact)))):=hC
 replace hC:=hC.swapT
 replace hC:Cx _ O0 w _ ([_,_,_,_,_,_,_,_]++(rowsF 58 (.pr si si) G u++(rowsF 58 (.pr si si) Y V++([]:List Fact)))):=hC
 replace hC:=Cx.takeRow hC hv644 (qac h638).2
 obtain ⟨A645,c646,hvf649,hl647,hc648⟩:=(hC.ow (i:=0) rfl).form
 subst hvf649
 obtain ⟨rfl,-⟩:=hr642
 replace hC:Cx _ O0 w _ ([.own 58 (.pr si si) (.slice A645 x323.length c646) x323,_,_,_,_,_,_,_,_]++((rowsF 58 (.pr si si) G u).eraseIdx g.toNat++(rowsF 58 (.pr si si) Y V++([]:List Fact)))):=hC
 refine lv (.slice A645 x323.length c646) (qaj isAgg56 rfl (hc641 0 _ rfl)) ?_
 replace hC:=hC.selT [0,1,2,3,4,5,6,7,8] (by decide)
 replace hC:Cx _ O0 w _ ([_]++([.box g5 24 [.slice N c.length B,.slice M o.length C],.ro (.sl si) [.slice N c.length B] c,.ro (.sl si) [.slice M o.length C] o,.own 3 si (.slice R J.length S) J,.own 56 .raw (.slice A358 (((List.replicate (c.length:Int).toNat (Value.slice none 0 0))).length) c359) Y,.own 56 .raw (.slice (some ad639) (((List.replicate (c.length:Int).toNat (Value.slice none 0 0))).length) c351) G,.own 3 si (.slice (some ad631) y12.length c16) y12,.own 3 si (.slice (some ad624) y21.length c25) y21]++((rowsF 58 (.pr si si) G u).eraseIdx g.toNat++(rowsF 58 (.pr si si) Y V++([]:List Fact))))):=hC
 obtain ⟨y337,h652,hb⟩:=bd hb
 refine lex.cl (⟨_,_,qas (vs:=[.slice A645 x323.length c646]) call67 rfl rfl rfl,qcq n hC.lt hC.give h652⟩) ?_
 rintro _ w653 ⟨rfl,hK⟩
 replace hC:=hC.back hK
 clear hK
 refine ln (hK577 _ _ ?_)
 refine rg ?_
 replace hC:Cx _ O0 w _ ([.own 58 (.pr si si) (.slice A645 x323.length c646) y337,.box g5 24 [.slice N c.length B,.slice M o.length C],.ro (.sl si) [.slice N c.length B] c,.ro (.sl si) [.slice M o.length C] o,.own 3 si (.slice R J.length S) J,.own 56 .raw (.slice A358 (((List.replicate (c.length:Int).toNat (Value.slice none 0 0))).length) c359) Y,.own 56 .raw (.slice (some ad639) (((List.replicate (c.length:Int).toNat (Value.slice none 0 0))).length) c351) G,.own 3 si (.slice (some ad631) y12.length c16) y12,.own 3 si (.slice (some ad624) y21.length c25) y21]++((rowsF 58 (.pr si si) G u).eraseIdx g.toNat++(rowsF 58 (.pr si si) Y V++([]:List Fact)))):=hC
 obtain ⟨z340,h655,hb⟩:=bd hb
 refine lp (iv z340) (qal (a:=g) (b:=1) e111 rfl h655)<|lp (iv z340) (qaa rfl)<|ln ?_
 replace hC:=hC.selT [0,1,2,3,4,5,6,7,8] (by decide)
 replace hC:=Cx.putSame hC a6 (List.getElem?_eq_some_iff.1 (qac h638).2).1 hv644
 have hN656:G.length=(u.set g.toNat y337).length:=by rw [List.length_set]; exact a6
 replace hC:Cx _ O0 w _ ([_,_,_,_,_,_,_,_]++(rowsF 58 (.pr si si) G (u.set g.toNat y337)++(rowsF 58 (.pr si si) Y V++([]:List Fact)))):=hC
 obtain rfl:=os hb
 replace hC:=hC.swapT
 replace hC:Cx _ O0 w _ ([_,_,_,_,_,_,_,_]++(rowsF 58 (.pr si si) Y V++(rowsF 58 (.pr si si) G (u.set g.toNat y337)++([]:List Fact)))):=hC
 exact hK569 m570' _ _ (Nat.lt_succ_self _) ⟨z340,V,(u.set g.toNat y337),Y,G,e2,e4,e5,e6,e8,e9,e110,rfl,(qai h655),b7,hN656,hC.selT [0,1,2,3,4,5,6,7] (by decide),lN hl2⟩
 replace hb:=tf hq636 hb
 refine Wc.skip (hK577 _ _ ?_)
 refine rg ?_
 obtain ⟨z343,h658,hb⟩:=bd hb
 refine lp (iv z343) (qal (a:=g) (b:=1) e111 rfl h658)<|lp (iv z343) (qaa rfl)<|ln ?_
 obtain rfl:=os hb
 exact hK569 m570' _ _ (Nat.lt_succ_self _) ⟨z343,V,u,Y,G,e2,e4,e5,e6,e8,e9,e110,rfl,(qai h658),b7,a6,hC.selT [0,1,2,3,4,5,6,7] (by decide),lN hl2⟩
 replace hb:=tf hq576 hb
 refine Wc.exit rfl ?_
 obtain rfl:=os hb
 obtain rfl:=(lX hl2).symm
 exact hK568 _ _ ⟨g,L,u,P,G,e4,e5,e6,b0,a5,a6,hC.selT [3,4,5] (by decide),hbK2⟩
 clear hb hC hl2
 rintro E660 w659 ⟨g,L,u,P,G,e4,e5,e6,b0,a5,a6,hC,hb⟩
 subst hf253
 refine hK565 _ _<|Wc.seq fun _ hK661=>rg ?_
 replace hC:Cx _ O0 w _ ([_,.own 56 .raw (.slice A358 (((List.replicate (c.length:Int).toNat (Value.slice none 0 0))).length) c359) P,.own 56 .raw (.slice A350 (((List.replicate (c.length:Int).toNat (Value.slice none 0 0))).length) c351) G]++(rowsF 58 (.pr si si) P L++(rowsF 58 (.pr si si) G u++([]:List Fact)))):=hC
 refine lp _ (qaa e4)<|lp _ (qaa e5)<|lp _ (qaa e6)<|lp (.slice R J.length S) (qab rfl)<|lp (.slice A358 (((List.replicate (c.length:Int).toNat (Value.slice none 0 0))).length) c359) (qab rfl)<|lp (.slice A350 (((List.replicate (c.length:Int).toNat (Value.slice none 0 0))).length) c351) (qab rfl)<|ln (hK661 _ _ ?_)
 replace hC:=hC.selT [1,0,2] (by decide)
 replace hC:=Cx.freezeR hC a5
 replace hC:Cx _ O0 w _ ([.ro (.sl (.sl (.pr si si))) [.slice A358 (((List.replicate (c.length:Int).toNat (Value.slice none 0 0))).length) c359] L,_,_]++(rowsF 58 (.pr si si) G u++([]:List Fact))):=hC
 replace hC:=hC.selT [2,0,1] (by decide)
 replace hC:=Cx.freezeR hC a6
 replace hC:Cx _ O0 w _ ([.ro (.sl (.sl (.pr si si))) [.slice A350 (((List.replicate (c.length:Int).toNat (Value.slice none 0 0))).length) c351] u,_,_]++([]:List Fact)):=hC
 obtain rfl:=os hb
 refine Wc.ret (hKR _ _ ?_)
 refine ⟨_,res3 results37 (tV (.slice R J.length S) rfl) (tV (.slice A358 (((List.replicate (c.length:Int).toNat (Value.slice none 0 0))).length) c359) rfl) (tV (.slice A350 (((List.replicate (c.length:Int).toNat (Value.slice none 0 0))).length) c351) rfl),_,rfl,R,J.length,S,A358,((List.replicate (c.length:Int).toNat (Value.slice none 0 0))).length,c359,A350,((List.replicate (c.length:Int).toNat (Value.slice none 0 0))).length,c351,rfl,hC.sE [2,1,0]⟩
