import Derived.Test.YticemffhlapnnaaS
set_option linter.all false
namespace Go.Proofs.Yticemffhlapnnaa
open Ev Try
set_option maxRecDepth 100000
set_option maxHeartbeats 4000000
theorem qgm (n:Nat) {w:World} {O0:List Nat} (hO: ∀k∈O0,k<w.heap.size) {f:Option Addr} {l g:Nat} {c:List Int} (o:Rep O0 w (.sl si) [.slice f l g] c) {r:(List Int)} (hb:F.qdw n c=some r):
    Calls prog 38 #[.slice f l g] w fun e w'=> ∃v,e=.returned v∧∃(A0:Option Addr) (m0 c0:Nat),v=.slice A0 m0 c0∧Cx (fun _=>False) O0 w w' [.own 3 si (.slice A0 m0 c0) r]:=by
 unfold F.qdw at hb
 have hC:=Cx.start hO
 replace hC:=hC.arg rfl o
 clear hO
 obtain ⟨rfl,p,q⟩:=o.qad
 refine qaq func38 rfl (by rw [ntmps38]; exact nb rfl) fun KR hKR=>?_
 refine Wc.seq fun _ hK2=>rg<|lp (.slice none 0 0) (qab rfl)<|ln (hK2 _ _ ?_)
 refine Wc.seq fun _ hK3=>rg<|lp (.slice f c.length g) (qaa rfl)<|lp (iv (c.length:Int)) (qao (A:=f) (n:=c.length) (m:=g) underlying22 rfl) ?_
 obtain ⟨u4,h5,hb⟩:=bd hb
 refine lex.op (hC.make (s:=si) (n:=(c.length:Int)) underlying22 type3 rfl rfl rfl rfl rfl (qah h5).1 (qah h5).2 (by decide)) ?_
 rintro _ w10 ⟨A6,c7,rfl,hl8,hc9,hC,-,-⟩
 refine lp (.slice A6 (((rZ c.length)).length) c7) (qab rfl)<|ln (hK3 _ _ ?_)
 refine Wc.seq fun _ hK12=>?_
 refine Wc.seq fun _ hK13=>rg<|lp (.slice f c.length g) (qaa rfl)<|lp (iv (c.length:Int)) (qao (A:=f) (n:=c.length) (m:=g) underlying22 rfl)<|lp (iv 0) (qaa rfl)<|ln (hK13 _ _ ?_)
 obtain ⟨o14,hl0,hb⟩:=bd hb
 refine Wc.cut (fun E wv=> ∃(d:Int) (h:List Int),E 2=.slice none 0 0∧E 3=.slice A6 (((rZ c.length)).length) c7∧I64 d∧Cx (fun _=>False) O0 w wv [.own 3 si (.slice A6 (((rZ c.length)).length) c7) h]∧(some h:Option ((List Int)))=some r) (fun _ hK15=>?_) ?_
 refine Wc.block ?_
 refine Wc.loop (fun m E wv=> ∃(d:Int) (h:List Int),E 2=.slice none 0 0∧E 3=.slice A6 (((rZ c.length)).length) c7∧E 9=.slice f c.length g∧E 10=iv (c.length:Int)∧E 11=iv d∧I64 d∧Cx (fun _=>False) O0 w wv [.own 3 si (.slice A6 (((rZ c.length)).length) c7) h,.ro (.sl si) [.slice f c.length g] c]∧loopN m (F.qgl n c) (d,h)=some o14) n ⟨0,(rZ c.length),rfl,rfl,rfl,rfl,rfl,(show I64 0 from by unfold I64; omega),hC.sE [0,1],hl0⟩ ?_
 have hbK0:=hb
 clear hb hC hl0
 rintro m17 E19 w18 ⟨d,h,e2,e3,e9,e10,e11,j,hC,hl0⟩ K16 hK16
 obtain ⟨m17',o20,rfl,hb,hl0⟩:=qan hl0
 unfold F.qgl at hb
 refine Wc.seq fun _ hK21=>rg<|lp _ (qap e11 e10)<|ln (hK21 _ _ ?_)
 refine Wc.seq fun _ hK22=>?_
 refine Wc.cond (t:=(decide (d<(c.length:Int)))) (rfl) (fun hq23=>?_) (fun hq23=>?_)
 replace hb:=tt hq23 hb
 refine Wc.skip (hK22 _ _ ?_)
 refine Wc.seq fun _ hK24=>?_
 refine Wc.block<|Wc.seq fun _ hK25=>rg<|lp _ (qaa e11) ?_
 obtain ⟨x26,h27,hb⟩:=bd hb
 obtain ⟨ad28,cs29,hA,hc30,hr31⟩:=hC.elr (i:=1) rfl (qac h27).2
 subst hA
 refine lp (.pointer (some (ad28.add (d.toNat*1)))) (qaf (a:=d) underlying22 sizeOf3 e9 e11 (qac h27).1) ?_
 obtain ⟨rfl,hr31'⟩:=hr31
 refine lv (iv x26) (qaj isAgg3 rfl (hc30 0 _ rfl))<|lp (iv d) (qab rfl)<|lp (iv x26) (qab rfl)<|ln (hK25 _ _ ?_)
 refine rg<|lp _ (qaa e3)<|lp (iv x26) (qaa rfl)<|lp (iv d) (qaa rfl) ?_
 obtain ⟨x32,h33,hb⟩:=bd hb
 obtain ⟨ad34,cs35,hA,hc36,hr37⟩:=hC.elo (i:=0) rfl (qac h33).2
 subst hA
 refine lp (.pointer (some (ad34.add (x26.toNat*1)))) (qaf (a:=x26) underlying22 sizeOf3 rfl rfl (by rw [(hC.ow (i:=0) rfl).qad.1]; exact (qac h33).1))<|lex.sk (hC.put (i:=0) rfl rfl sizeOf3 (k:=x26.toNat) (a:=d) (by have:=(qac h33).1; simp at this⊢; omega) (⟨rfl,I64.wr j⟩) rfl rfl rfl) ?_
 rintro w38 ⟨hC,hF⟩
 refine ln (hK24 _ _ ?_)
 refine rg ?_
 obtain ⟨z39,h40,hb⟩:=bd hb
 refine lp (iv z39) (qal (a:=d) (b:=1) e11 rfl h40)<|lp (iv z39) (qaa rfl)<|ln ?_
 obtain rfl:=os hb
 exact hK16 m17' _ _ (Nat.lt_succ_self _) ⟨z39,(h.set x26.toNat d),e2,e3,e9,e10,rfl,(qai h40),hC.sE [0,1],lN hl0⟩
 replace hb:=tf hq23 hb
 refine Wc.exit rfl ?_
 obtain rfl:=os hb
 obtain rfl:=(lX hl0).symm
 exact hK15 _ _ ⟨d,h,e2,e3,j,hC.sE [0],hbK0⟩
 clear hb hC hl0
 rintro E42 w41 ⟨d,h,e2,e3,j,hC,hb⟩
 refine hK12 _ _<|Wc.seq fun _ hK43=>rg<|lp _ (qaa e3)<|lp (.slice A6 (((rZ c.length)).length) c7) (qab rfl)<|ln (hK43 _ _ ?_)
 obtain rfl:=os hb
 refine Wc.ret (hKR _ _ ?_)
 refine ⟨_,res1 results38 (tV (.slice A6 (((rZ c.length)).length) c7) rfl),_,rfl,A6,((rZ c.length)).length,c7,rfl,hC.sE [0]⟩

theorem qcq (n:Nat) {w:World} {O0:List Nat} (hO: ∀k∈O0,k<w.heap.size) {g:Option Addr} {o f:Nat} {h:List (Int×Int)} (hio:Tk O0 w [.own 58 (.pr si si) (.slice g o f) h]) {r:(List (Int×Int))} (hb:F.qca n h=some r):
    Calls prog 67 #[.slice g o f] w fun e w'=> ∃v,e=.returned v∧v=.tuple #[]∧Cx (fun k=>k∈blocks [.own 58 (.pr si si) (.slice g o f) h]) O0 w w' [.own 58 (.pr si si) (.slice g o f) r]:=by
 unfold F.qca at hb
 have hC:=Cx.startTk hO hio
 have hsub:=hio.2.2
 clear hO
 obtain ⟨rfl,s,x⟩:=(hC.ow (i:=0) rfl).qad
 clear hio hsub
 obtain ⟨I,hI,hC⟩: ∃I:Nat→Prop,I=(fun k=>k∈blocks [.own 58 (.pr si si) (.slice g h.length f) h])∧Cx I O0 w w ([.own 58 (.pr si si) (.slice g h.length f) h]):=⟨_,rfl,hC⟩
 refine qaq func67 rfl (by rw [ntmps67]; exact nb rfl) fun KR hKR=>?_
 refine Wc.seq fun _ hK2=>rg<|lp (.slice g h.length f) (qaa rfl)<|lp (iv (h.length:Int)) (qao (A:=g) (n:=h.length) (m:=f) underlying56 rfl) ?_
 obtain ⟨z3,h4,hb⟩:=bd hb
 refine lp (iv z3) (qbk (a:=(h.length:Int)) (b:=1) rfl rfl h4)<|lp (iv 0) (qab rfl)<|lp (iv z3) (qab rfl)<|ln (hK2 _ _ ?_)
 obtain ⟨o5,hl0,hb⟩:=bd hb
 refine Wc.cut (fun E wv=> ∃(c:Int) (d:Int) (l:List (Int×Int)),I64 c∧I64 d∧Cx I O0 w wv [.own 58 (.pr si si) (.slice g h.length f) l]∧(some l:Option ((List (Int×Int))))=some r) (fun _ hK6=>?_) ?_
 refine Wc.block ?_
 refine Wc.loop (fun m E wv=> ∃(c:Int) (d:Int) (l:List (Int×Int)),E 0=.slice g h.length f∧E 2=iv c∧E 3=iv d∧I64 c∧I64 d∧Cx I O0 w wv [.own 58 (.pr si si) (.slice g h.length f) l]∧loopN m (F.qbw n) (c,d,l)=some o5) n ⟨0,z3,h,rfl,rfl,rfl,(show I64 0 from by unfold I64; omega),(qai h4),hC.sE [0],hl0⟩ ?_
 have hbK0:=hb
 clear hb hC hl0
 rintro m8 E10 w9 ⟨c,d,l,e0,e2,e3,p,q,hC,hl0⟩ K7 hK7
 obtain ⟨m8',o11,rfl,hb,hl0⟩:=qan hl0
 unfold F.qbw at hb
 refine Wc.seq fun _ hK12=>?_
 refine Wc.seq fun _ hK13=>rg<|lp _ (qaa e2)<|lp _ (qaa e3)<|lp (.bool (decide (c<d))) (qap (k:=.i64) (a:=c) (b:=d) rfl rfl)<|ln (hK13 _ _ ?_)
 refine Wc.cond (t:=(decide (c<d))) (rfl) (fun hq14=>?_) (fun hq14=>?_)
 replace hb:=tt hq14 hb
 refine Wc.skip (hK12 _ _ ?_)
 refine Wc.seq fun _ hK15=>?_
 refine Wc.block ?_
 refine Wc.regionMix [] (frm [] ([]:List Fact) [.own 58 (.pr si si) (.slice g h.length f) l]) (fun _=>rfl) mixed (by decide+kernel) (by decide+kernel) fun w17 hw16=>?_
 replace hC:=hC.step (Fr.qbb hw16)
 have hM:=Fr.refl (fun k=>k∈blocks ([]:List Fact)) w17
 clear hw16
 have hS:=hC
 have hD:Fr (fun k=>k∈blocks (([]:List Fact)++[.own 58 (.pr si si) (.slice g h.length f) l])) w17 w17:=hM.wide
 have hUf1:Beside (([]:List Fact)++[.own 58 (.pr si si) (.slice g h.length f) l]) w17 (.slice g h.length f):=Beside.of (i:=0) rfl
 refine mp (.slice g h.length f) (qaa e0)<|mp (iv c) (qaa e2)<|mp (.slice g h.length f) (qaa e0)<|mp (iv d) (qaa e3)<|mp (.slice g h.length f) (qaa e0)<|mp (iv d) (qaa e3) ?_
 obtain ⟨x18,h19,hb⟩:=bd hb
 obtain ⟨ad20,cs21,hA,ho24,hc22,hr23⟩:=hS.elo2 (i:=0) rfl (qac h19).2 [] (by decide)
 subst hA
 refine mp (.pointer (some (ad20.add (d.toNat*2)))) (qaf (a:=d) underlying56 sizeOf58 rfl rfl (by rw [(hC.ow (i:=0) rfl).qad.1]; exact (qac h19).1)) ?_
 obtain ⟨k25,k26,rfl,hr27,hr28⟩:=hr23
 obtain ⟨rfl,hr27⟩:=hr27
 obtain ⟨rfl,hr28⟩:=hr28
 refine mixE.load hM (v:=.agg #[iv x18.1,iv x18.2]) (fun _ hF=>ld_agg isAgg58 sizeOf58 rfl rfl (fun j u hu=>hF.cell (hc22 j u hu) (off2 ho24)))<|mp (.slice (some ad20) h.length f) (qaa e0)<|mp (iv c) (qaa e2) ?_
 obtain ⟨x29,h30,hb⟩:=bd hb
 obtain ⟨ad31,cs32,hA,ho35,hc33,hr34⟩:=hS.elo2 (i:=0) rfl (qac h30).2 [] (by decide)
 obtain rfl:=Option.some.inj hA
 refine mp (.pointer (some (ad20.add (c.toNat*2)))) (qaf (a:=c) underlying56 sizeOf58 rfl rfl (by rw [(hC.ow (i:=0) rfl).qad.1]; exact (qac h30).1)) ?_
 obtain ⟨k36,k37,rfl,hr38,hr39⟩:=hr34
 obtain ⟨rfl,hr38⟩:=hr38
 obtain ⟨rfl,hr39⟩:=hr39
 refine mixE.load hM (v:=.agg #[iv x29.1,iv x29.2]) (fun _ hF=>ld_agg isAgg58 sizeOf58 rfl rfl (fun j u hu=>hF.cell (hc33 j u hu) (off2 ho35))) ?_
 obtain ⟨x40,h41,hb⟩:=bd hb
 obtain ⟨ad42,cs43,hA,ho46,hc44,hr45⟩:=hS.elo2 (i:=0) rfl (qac h41).2 [] (by decide)
 obtain rfl:=Option.some.inj hA
 refine mp (.pointer (some (ad20.add (c.toNat*2)))) (qaf (a:=c) underlying56 sizeOf58 rfl rfl (by rw [(hC.ow (i:=0) rfl).qad.1]; exact (qac h41).1))<|mixE.sk hD (hC.putS (P:=prog) (i:=0) (e:=58) (ds:=[iv x18.1,iv x18.2]) rfl type58 rfl (k:=c.toNat) (a:=(x18.1,x18.2)) (by have:=(qac h41).1; simp at this⊢; omega) rfl rfl (⟨[iv x18.1],[iv x18.2],rfl,⟨rfl,I64.wr (qay hr27)⟩,⟨rfl,I64.wr (qay hr28)⟩⟩) rfl rfl) ?_
 rintro w47 ⟨hC,hF⟩
 replace hD:=hD.beside hUf1 hF
 clear hF
 refine ⟨hD,?_⟩
 obtain ⟨x48,h49,hb⟩:=bd hb
 obtain ⟨ad50,cs51,hA,hc52,hr53⟩:=hC.elo (i:=0) rfl (qac h49).2
 obtain rfl:=Option.some.inj hA
 refine mp (.pointer (some (ad20.add (d.toNat*2)))) (qaf (a:=d) underlying56 sizeOf58 rfl rfl (by rw [(hC.ow (i:=0) rfl).qad.1]; exact (qac h49).1))<|mixE.sk hD (hC.putS (P:=prog) (i:=0) (e:=58) (ds:=[iv x29.1,iv x29.2]) rfl type58 rfl (k:=d.toNat) (a:=(x29.1,x29.2)) (by have:=(qac h49).1; simp at this⊢; omega) rfl rfl (⟨[iv x29.1],[iv x29.2],rfl,⟨rfl,I64.wr (qay hr38)⟩,⟨rfl,I64.wr (qay hr39)⟩⟩) rfl rfl) ?_
 rintro w54 ⟨hC,hF⟩
 replace hD:=hD.beside hUf1 hF
 clear hF
 refine ⟨hD,?_⟩
 refine mixE.nil ?_
 clear hS hM
 clear hD
 refine hK15 _ _<|Wc.fresh fun E55 hE=>?_
 have e0:=cg hE 0 e0
 have e2:=cg hE 2 e2
 have e3:=cg hE 3 e3
 have e9:E55 9=.bool (decide (c<d)):=cg hE 9 rfl
 clear hE
 refine rg<|lp _ (qaa e2) ?_
 obtain ⟨z56,h57,hb⟩:=bd hb
 refine lp (iv z56) (qal (a:=c) (b:=1) rfl rfl h57)<|lp _ (qaa e3) ?_
 obtain ⟨z58,h59,hb⟩:=bd hb
 refine lp (iv z58) (qbk (a:=d) (b:=1) rfl rfl h59)<|lp (iv z56) (qab rfl)<|lp (iv z58) (qab rfl)<|ln ?_
 obtain rfl:=os hb
 exact hK7 m8' _ _ (Nat.lt_succ_self _) ⟨z56,z58,((l.set c.toNat (x18.1,x18.2)).set d.toNat (x29.1,x29.2)),e0,rfl,rfl,(qai h57),(qai h59),hC.sE [0],lN hl0⟩
 replace hb:=tf hq14 hb
 refine Wc.exit rfl ?_
 obtain rfl:=os hb
 obtain rfl:=(lX hl0).symm
 exact hK6 _ _ ⟨c,d,l,p,q,hC.sE [0],hbK0⟩
 clear hb hC hl0
 rintro E61 w60 ⟨c,d,l,p,q,hC,hb⟩
 obtain rfl:=os hb
 subst hI
 refine hKR _ _ ?_
 refine ⟨_,res0 results67,_,rfl,rfl,hC.sE [0]⟩

theorem qgp (n:Nat) {w:World} {O0:List Nat} (hO: ∀k∈O0,k<w.heap.size) {c:Int} (d:I64 c) {r:(List (Int×Int))} (hb:F.qby n c=some r):
    Calls prog 68 #[.slice none 0 0,iv c] w fun e w'=> ∃v,e=.returned v∧∃(A0:Option Addr) (m0 c0:Nat),v=.slice A0 m0 c0∧Cx (fun _=>False) O0 w w' [.own 58 (.pr si si) (.slice A0 m0 c0) r]:=by
 unfold F.qby at hb
 have hC:=Cx.start hO
 clear hO
 refine qaq func68 rfl (by rw [ntmps68]; exact nb rfl) fun KR hKR=>?_
 refine Wc.seq fun _ hK1=>rg<|lp (.slice none 0 0) (qab rfl)<|ln (hK1 _ _ ?_)
 refine Wc.seq fun _ hK2=>?_
 refine Wc.seq fun _ hK3=>rg<|lp (iv c) (qaa rfl)<|lp (.bool (decide (c<0))) (qap (k:=.i64) (a:=c) (b:=0) rfl rfl)<|ln (hK3 _ _ ?_)
 refine Wc.cond (t:=(decide (c<0))) (rfl) (fun hq4=>?_) (fun hq4=>?_)
 replace hb:=tt hq4 hb
 cases hb
 replace hb:=tf hq4 hb
 refine Wc.skip (hK2 _ _ ?_)
 refine Wc.seq fun _ hK5=>?_
 refine Wc.seq fun _ hK6=>rg<|lp (iv c) (qaa rfl)<|lp (.slice none 0 0) (qaa rfl)<|lp (iv 0) (pu_cap (A:=none) (n:=0) (m:=0) underlying56 rfl)<|lp (.slice none 0 0) (qaa rfl)<|lp (iv 0) (qao (A:=none) (n:=0) (m:=0) underlying56 rfl) ?_
 obtain ⟨z7,h8,hb⟩:=bd hb
 refine lp (iv z7) (qbk (a:=0) (b:=0) rfl rfl h8) ?_
 obtain ⟨z9,h10,hb⟩:=bd hb
 refine lp (iv z9) (qbk (a:=c) (b:=z7) rfl rfl h10)<|lp (iv z9) (qab rfl)<|ln (hK6 _ _ ?_)
 refine Wc.fresh fun E11 hE=>?_
 have e0:E11 0=.slice none 0 0:=cg hE 0 rfl
 have e1:E11 1=iv z9:=cg hE 1 rfl
 have e4:E11 4=.slice none 0 0:=cg hE 4 rfl
 clear hE
 refine Wc.seq fun _ hK12=>rg<|lp _ (qaa e1)<|lp (.bool (decide (0<z9))) (qed (k:=.i64) (a:=z9) (b:=0) rfl rfl)<|ln (hK12 _ _ ?_)
 refine Wc.cond (t:=(decide (0<z9))) (rfl) (fun hq13=>?_) (fun hq13=>?_)
 replace hb:=tt hq13 hb
 refine rg<|lp _ (qaa e0)<|lp _ (qaa e0)<|lp (iv 0) (pu_cap (A:=none) (n:=0) (m:=0) underlying56 rfl)<|lp (.slice none 0 0) (pu_nilcut underlying56 sizeOf58 rfl rfl)<|lp _ (qaa e1) ?_
 obtain ⟨u14,h15,hb⟩:=bd hb
 refine lex.op (hC.appz (s:=(.pr si si)) (n:=z9) underlying56 underlying3 type58 rfl rfl rfl rfl rfl (posz_some h15).1 (posz_some h15).2 (by decide)) ?_
 rintro _ w20 ⟨A16,c17,rfl,hl18,hc19,hC,-,-⟩
 refine lp _ (qaa e0)<|lp (iv 0) (qao (A:=none) (n:=0) (m:=0) underlying56 rfl) ?_
 obtain ⟨u22,h23,hb⟩:=bd hb
 refine lp (.slice A16 (((List.replicate z9.toNat ((0:Int),(0:Int))).take (0:Int).toNat).length) c17) (pu_cuth (b:=0) underlying56 sizeOf58 rfl rfl (hC.ow (i:=0) rfl).qad (cut_some h23)) ?_
 replace hC:=hC.cuth (i:=0) rfl (k:=(0:Int).toNat) (by have:=cut_some h23; omega)
 obtain ⟨-,hl24,hc25⟩:=(hC.ow (i:=0) rfl).qad
 refine lp (.slice A16 (((List.replicate z9.toNat ((0:Int),(0:Int))).take (0:Int).toNat).length) c17) (qab rfl)<|ln (hK5 _ _ ?_)
 refine Wc.seq fun _ hK26=>rg<|lp (.slice A16 (((List.replicate z9.toNat ((0:Int),(0:Int))).take (0:Int).toNat).length) c17) (qaa rfl)<|lp (.slice A16 (((List.replicate z9.toNat ((0:Int),(0:Int))).take (0:Int).toNat).length) c17) (qab rfl)<|ln (hK26 _ _ ?_)
 obtain rfl:=os hb
 refine Wc.ret (hKR _ _ ?_)
 refine ⟨_,res1 results68 (tV (.slice A16 (((List.replicate z9.toNat ((0:Int),(0:Int))).take (0:Int).toNat).length) c17) rfl),_,rfl,A16,((List.replicate z9.toNat ((0:Int),(0:Int))).take (0:Int).toNat).length,c17,rfl,hC.sE [0]⟩
 replace hb:=tf hq13 hb
 refine Wc.skip (hK5 _ _ ?_)
 refine Wc.seq fun _ hK27=>rg<|lp _ (qaa e0)<|lp (.slice none 0 0) (qab rfl)<|ln (hK27 _ _ ?_)
 replace hC:=hC.nil 58 (.pr si si)
 obtain rfl:=os hb
 refine Wc.ret (hKR _ _ ?_)
 refine ⟨_,res1 results68 (tV (.slice none 0 0) rfl),_,rfl,none,0,0,rfl,hC.sE [0]⟩

theorem qgr (n:Nat) {w:World} {O0:List Nat} (hO: ∀k∈O0,k<w.heap.size) {d:Option Addr} {u f:Nat} {c:List (List (Int×Int))} (x:Rep O0 w (.sl (.sl (.pr si si))) [.slice d u f] c) {r:(List (Int×Int))} (hb:F.qcn n c=some r):
    Calls prog 40 #[.slice d u f] w fun e w'=> ∃v,e=.returned v∧∃(A0:Option Addr) (m0 c0:Nat),v=.slice A0 m0 c0∧Cx (fun _=>False) O0 w w' [.own 58 (.pr si si) (.slice A0 m0 c0) r]:=by
 unfold F.qcn at hb
 have hC:=Cx.start hO
 replace hC:=hC.arg rfl x
 clear hO
 obtain ⟨rfl,G,H⟩:=x.qad
 refine qaq func40 rfl (by rw [ntmps40]; exact nb rfl) fun KR hKR=>?_
 refine Wc.seq fun _ hK2=>rg<|lp (.slice none 0 0) (qab rfl)<|ln (hK2 _ _ ?_)
 refine Wc.seq fun _ hK3=>rg<|lp (iv 0) (qab rfl)<|ln (hK3 _ _ ?_)
 refine Wc.seq fun _ hK4=>?_
 refine Wc.seq fun _ hK5=>rg<|lp (.slice d c.length f) (qaa rfl)<|lp (iv (c.length:Int)) (qao (A:=d) (n:=c.length) (m:=f) underlying51 rfl)<|lp (iv 0) (qaa rfl)<|ln (hK5 _ _ ?_)
 obtain ⟨o6,hl0,hb⟩:=bd hb
 refine Wc.cut (fun E wv=> ∃(p:Int) (j:Int),E 0=.slice d c.length f∧E 2=.slice none 0 0∧E 3=iv p∧I64 p∧I64 j∧Cx (fun _=>False) O0 w wv [.ro (.sl (.sl (.pr si si))) [.slice d c.length f] c]∧((F.qby n p).bind fun y40=>((loopN n (F.qav n c) (y40,0)).bind fun o51=>match o51 with | (g,h)=>some g):Option ((List (Int×Int))))=some r) (fun _ hK7=>?_) ?_
 refine Wc.block ?_
 refine Wc.loop (fun m E wv=> ∃(p:Int) (j:Int),E 0=.slice d c.length f∧E 2=.slice none 0 0∧E 3=iv p∧E 9=.slice d c.length f∧E 10=iv (c.length:Int)∧E 11=iv j∧I64 p∧I64 j∧Cx (fun _=>False) O0 w wv [.ro (.sl (.sl (.pr si si))) [.slice d c.length f] c]∧loopN m (F.qaz n c) (p,j)=some o6) n ⟨0,0,rfl,rfl,rfl,rfl,rfl,rfl,(show I64 0 from by unfold I64; omega),(show I64 0 from by unfold I64; omega),hC.sE [0],hl0⟩ ?_
 have hbK0:=hb
 clear hb hC hl0
 rintro m9 E11 w10 ⟨p,j,e0,e2,e3,e9,e10,e11,y,z,hC,hl0⟩ K8 hK8
 obtain ⟨m9',o12,rfl,hb,hl0⟩:=qan hl0
 unfold F.qaz at hb
 refine Wc.seq fun _ hK13=>rg<|lp _ (qap e11 e10)<|ln (hK13 _ _ ?_)
 refine Wc.seq fun _ hK14=>?_
 refine Wc.cond (t:=(decide (j<(c.length:Int)))) (rfl) (fun hq15=>?_) (fun hq15=>?_)
 replace hb:=tt hq15 hb
 refine Wc.skip (hK14 _ _ ?_)
 refine Wc.seq fun _ hK16=>?_
 refine Wc.block<|Wc.seq fun _ hK17=>rg ?_
 obtain ⟨x18,h19,hb⟩:=bd hb
 obtain ⟨ad20,cs21,hA,hc22,hr23⟩:=hC.elr (i:=0) rfl (qac h19).2
 subst hA
 refine lp (.pointer (some (ad20.add (j.toNat*1)))) (qaf (a:=j) underlying51 sizeOf56 e9 e11 (qac h19).1) ?_
 have hR:=hr23
 obtain ⟨A24,c25,rfl,hl26,hc27,_⟩:=hr23
 replace hC:=hC.ro hR
 clear hR
 refine lv (.slice A24 x18.length c25) (qaj isAgg56 rfl (hc22 0 _ rfl))<|lp (.slice A24 x18.length c25) (qab rfl)<|ln (hK17 _ _ ?_)
 refine Wc.seq fun _ hK29=>rg<|lp _ (qaa e3)<|lp (.slice A24 x18.length c25) (qaa rfl)<|lp (iv (x18.length:Int)) (qao (A:=A24) (n:=x18.length) (m:=c25) underlying56 rfl) ?_
 obtain ⟨z30,h31,hb⟩:=bd hb
 refine lp (iv z30) (qal (a:=p) (b:=(x18.length:Int)) rfl rfl h31)<|lp (iv z30) (qab rfl)<|ln (hK29 _ _ ?_)
 refine Wc.seq fun _ hK32=>rg<|lp (iv z30) (qaa rfl)<|lp (.bool (decide (z30<0))) (qap (k:=.i64) (a:=z30) (b:=0) rfl rfl)<|ln (hK32 _ _ ?_)
 refine Wc.fresh fun E33 hE=>?_
 have e0:=cg hE 0 e0
 have e2:=cg hE 2 e2
 have e3:E33 3=iv z30:=cg hE 3 rfl
 have e5:E33 5=.slice A24 x18.length c25:=cg hE 5 rfl
 have e9:=cg hE 9 e9
 have e10:=cg hE 10 e10
 have e11:=cg hE 11 e11
 have e12:E33 12=.bool (decide (j<(c.length:Int))):=cg hE 12 rfl
 have e20:E33 20=.bool (decide (z30<0)):=cg hE 20 rfl
 clear hE
 refine Wc.cond (t:=(decide (z30<0))) (e20) (fun hq34=>?_) (fun hq34=>?_)
 replace hb:=tt hq34 hb
 cases hb
 replace hb:=tf hq34 hb
 refine Wc.skip (hK16 _ _ ?_)
 refine rg ?_
 obtain ⟨z35,h36,hb⟩:=bd hb
 refine lp (iv z35) (qal (a:=j) (b:=1) e11 rfl h36)<|lp (iv z35) (qaa rfl)<|ln ?_
 obtain rfl:=os hb
 exact hK8 m9' _ _ (Nat.lt_succ_self _) ⟨z30,z35,e0,e2,e3,e9,e10,rfl,(qai h31),(qai h36),hC.sE [1],lN hl0⟩
 replace hb:=tf hq15 hb
 refine Wc.exit rfl ?_
 obtain rfl:=os hb
 obtain rfl:=(lX hl0).symm
 exact hK7 _ _ ⟨p,j,e0,e2,e3,y,z,hC.sE [0],hbK0⟩
 clear hb hC hl0
 rintro E38 w37 ⟨p,j,e0,e2,e3,y,z,hC,hb⟩
 refine hK4 _ _<|Wc.seq fun _ hK39=>rg<|lp _ (qaa e3) ?_
 obtain ⟨y40,h41,hb⟩:=bd hb
 refine lex.cl (⟨_,_,qas (vs:=[.slice none 0 0,iv p]) call68 rfl rfl rfl,qgp n hC.lt y h41⟩) ?_
 rintro _ w46 ⟨A42,m43,c44,rfl,hK⟩
 replace hC:=hC.merge hK
 clear hK
 obtain ⟨rfl,hl47,hc48⟩:=(hC.ow (i:=0) rfl).qad
 refine lp (.slice A42 y40.length c44) (qab rfl)<|ln (hK39 _ _ ?_)
 refine Wc.seq fun _ hK49=>?_
 refine Wc.seq fun _ hK50=>rg<|lp _ (qaa e0)<|lp (iv (c.length:Int)) (qao (A:=d) (n:=c.length) (m:=f) underlying51 rfl)<|lp (iv 0) (qaa rfl)<|ln (hK50 _ _ ?_)
 obtain ⟨o51,hl1,f51,hf51,hb⟩:=bn hb
 refine Wc.cut (fun E wv=> ∃(g:List (Int×Int)) (h:Int) (l:Option Addr) (q o:Nat),E 2=.slice none 0 0∧E 6=.slice l q o∧I64 h∧Cx (fun _=>False) O0 w wv [.own 58 (.pr si si) (.slice l q o) g]∧f51 (g,h)=some r) (fun _ hK52=>?_) ?_
 refine Wc.block ?_
 refine Wc.loop (fun m E wv=> ∃(g:List (Int×Int)) (h:Int) (l:Option Addr) (q o:Nat),E 2=.slice none 0 0∧E 6=.slice l q o∧E 25=.slice d c.length f∧E 26=iv (c.length:Int)∧E 27=iv h∧I64 h∧Cx (fun _=>False) O0 w wv [.own 58 (.pr si si) (.slice l q o) g,.ro (.sl (.sl (.pr si si))) [.slice d c.length f] c]∧loopN m (F.qav n c) (g,h)=some o51) n ⟨y40,0,A42,y40.length,c44,e2,rfl,rfl,rfl,rfl,(show I64 0 from by unfold I64; omega),hC.sE [0,1],hl1⟩ ?_
 have hbK1:=hb
 clear hb hC hl1
 rintro m54 E56 w55 ⟨g,h,l,q,o,e2,e6,e25,e26,e27,B,hC,hl1⟩ K53 hK53
 obtain ⟨m54',o57,rfl,hb,hl1⟩:=qan hl1
 unfold F.qav at hb
 obtain ⟨rfl,C,D⟩:=(hC.ow (i:=0) rfl).qad
 refine Wc.seq fun _ hK58=>rg<|lp _ (qap e27 e26)<|ln (hK58 _ _ ?_)
 refine Wc.seq fun _ hK59=>?_
 refine Wc.cond (t:=(decide (h<(c.length:Int)))) (rfl) (fun hq60=>?_) (fun hq60=>?_)
 replace hb:=tt hq60 hb
 refine Wc.skip (hK59 _ _ ?_)
 refine Wc.seq fun _ hK61=>?_
 refine Wc.block<|Wc.seq fun _ hK62=>rg ?_
 obtain ⟨x63,h64,hb⟩:=bd hb
 obtain ⟨ad65,cs66,hA,hc67,hr68⟩:=hC.elr (i:=1) rfl (qac h64).2
 subst hA
 refine lp (.pointer (some (ad65.add (h.toNat*1)))) (qaf (a:=h) underlying51 sizeOf56 e25 e27 (qac h64).1) ?_
 have hR:=hr68
 obtain ⟨A69,c70,rfl,hl71,hc72,_⟩:=hr68
 replace hC:=hC.ro hR
 clear hR
 refine lv (.slice A69 x63.length c70) (qaj isAgg56 rfl (hc67 0 _ rfl))<|lp (.slice A69 x63.length c70) (qab rfl)<|ln (hK62 _ _ ?_)
 refine rg<|lp _ (qaa e6)<|lp (.slice A69 x63.length c70) (qaa rfl) ?_
 obtain ⟨u74,h75,hb⟩:=bd hb
 refine lex.op (hC.app (i:=1) (s:=(.pr si si)) (xs:=g) (ys:=x63) (m:=x63.length) rfl underlying56 underlying56 type58 rfl rfl rfl (hC.srcr (i:=0) rfl) rfl rfl (by have:=qaw h75; simp at this⊢ <;>omega) (by decide)) ?_
 rintro _ w80 ⟨A76,c77,rfl,hl78,hc79,hC,-,-⟩
 refine lp (.slice A76 ((g++x63).length) c77) (qab rfl)<|ln (hK61 _ _ ?_)
 refine rg ?_
 obtain ⟨z81,h82,hb⟩:=bd hb
 refine lp (iv z81) (qal (a:=h) (b:=1) e27 rfl h82)<|lp (iv z81) (qaa rfl)<|ln ?_
 obtain rfl:=os hb
 exact hK53 m54' _ _ (Nat.lt_succ_self _) ⟨(g++x63),z81,A76,(g++x63).length,c77,e2,rfl,e25,e26,rfl,(qai h82),hC.sE [1,2],lN hl1⟩
 replace hb:=tf hq60 hb
 refine Wc.exit rfl ?_
 obtain rfl:=os hb
 obtain rfl:=(lX hl1).symm
 exact hK52 _ _ ⟨g,h,l,g.length,o,e2,e6,B,hC.sE [0],hbK1⟩
 clear hb hC hl1
 rintro E84 w83 ⟨g,h,l,q,o,e2,e6,B,hC,hb⟩
 subst hf51
 obtain ⟨rfl,C,D⟩:=(hC.ow (i:=0) rfl).qad
 refine hK49 _ _<|Wc.seq fun _ hK85=>rg<|lp _ (qaa e6)<|lp (.slice l g.length o) (qab rfl)<|ln (hK85 _ _ ?_)
 obtain rfl:=os hb
 refine Wc.ret (hKR _ _ ?_)
 refine ⟨_,res1 results40 (tV (.slice l g.length o) rfl),_,rfl,l,g.length,o,rfl,hC.sE [0]⟩

theorem qgq (n:Nat) {w:World} {O0:List Nat} (hO: ∀k∈O0,k<w.heap.size) {u:Nat} {U:Option Addr} {b2 V:Nat} {X:List (Int×Int)} (b3:Rep O0 w (.sl (.pr si si)) [.slice U b2 V] X) {a1:Nat} {p:Option Addr} {a0 o:Nat} {q:List Bool} {a2:Nat} {a3:Int} (c1:I64 a3) {Z:Nat} {P:Option Addr} {a7 Q:Nat} {R:List Int} (b4:Rep O0 w (.sl si) [.slice P a7 Q] R) {x:Option Addr} {a8 y:Nat} {K:List Int} (b5:Rep O0 w (.sl si) [.slice x a8 y] K) {a4:Nat} {z:Option Addr} {a9 B:Nat} {L:List (List (Int×Int))} (b6:Rep O0 w (.sl (.sl (.pr si si))) [.slice z a9 B] L) {a5:Nat} {C:Option Addr} {b0 D:Nat} {M:List (List (Int×Int))} (b7:Rep O0 w (.sl (.sl (.pr si si))) [.slice C b0 D] M) {a6:Nat} {G:Option Addr} {b1 J:Nat} {N:List Int} (b8:Rep O0 w (.sl si) [.slice G b1 J] N) (hio:Tk O0 w [.own 4 .bool (.slice p a0 o) q,.box u 56 [.slice U b2 V],.box a1 55 [.slice p a0 o],.box a2 3 [iv a3],.box Z 24 [.slice P a7 Q,.slice x a8 y],.box a4 51 [.slice z a9 B],.box a5 51 [.slice C b0 D],.box a6 22 [.slice G b1 J]]) {r:Int×Int×Bool×(List Bool)×(List (Int×Int))×Int} (hb:F.qcb n X q a3 R K L M N=some r):
    Calls prog 39 #[pg u,pg a1,pg a2,pg Z,pg a4,pg a5,pg a6] w fun e w'=> ∃v,e=.returned v∧∃(A4:Option Addr) (m4 c4:Nat),v=.tuple #[.agg #[iv r.1,iv r.2.1],.bool r.2.2.1]∧I64 r.1∧I64 r.2.1∧I64 r.2.2.2.2.2∧Cx (fun k=>k∈blocks [.own 4 .bool (.slice p a0 o) q,.box u 56 [.slice U b2 V],.box a1 55 [.slice p a0 o],.box a2 3 [iv a3],.box Z 24 [.slice P a7 Q,.slice x a8 y],.box a4 51 [.slice z a9 B],.box a5 51 [.slice C b0 D],.box a6 22 [.slice G b1 J]]) O0 w w' [.own 4 .bool (.slice p a0 o) r.2.2.2.1,.ro (.sl (.pr si si)) [.slice A4 m4 c4] r.2.2.2.2.1,.box u 56 [.slice A4 m4 c4],.box a1 55 [.slice p a0 o],.box a2 3 [iv r.2.2.2.2.2],.box Z 24 [.slice P a7 Q,.slice x a8 y],.box a4 51 [.slice z a9 B],.box a5 51 [.slice C b0 D],.box a6 22 [.slice G b1 J]]:=by
 unfold F.qcb at hb
 have hC:=Cx.startTk hO hio
 have hsub:=hio.2.2
 replace hC:=hC.argTk (by first | exact hsub | exact fun k hk=>hsub k (by simpa [blocks,Fact.blk] using hk)) b3
 replace hC:=hC.argTk (by first | exact hsub | exact fun k hk=>hsub k (by simpa [blocks,Fact.blk] using hk)) b4
 replace hC:=hC.argTk (by first | exact hsub | exact fun k hk=>hsub k (by simpa [blocks,Fact.blk] using hk)) b5
 replace hC:=hC.argTk (by first | exact hsub | exact fun k hk=>hsub k (by simpa [blocks,Fact.blk] using hk)) b6
 replace hC:=hC.argTk (by first | exact hsub | exact fun k hk=>hsub k (by simpa [blocks,Fact.blk] using hk)) b7
 replace hC:=hC.argTk (by first | exact hsub | exact fun k hk=>hsub k (by simpa [blocks,Fact.blk] using hk)) b8
 clear hO
 obtain ⟨rfl,c2,c3⟩:=b3.qad
 obtain ⟨rfl,c5,c6⟩:=b4.qad
 obtain ⟨rfl,c7,c8⟩:=b5.qad
 obtain ⟨rfl,c9,d0⟩:=b6.qad
 obtain ⟨rfl,d1,d2⟩:=b7.qad
 obtain ⟨rfl,d3,d4⟩:=b8.qad
 obtain ⟨rfl,d5,d6⟩:=(hC.ow (i:=6) rfl).qad
 clear hio hsub
 obtain ⟨I,hI,hC⟩: ∃I:Nat→Prop,I=(fun k=>k∈blocks [.own 4 .bool (.slice p q.length o) q,.box u 56 [.slice U X.length V],.box a1 55 [.slice p q.length o],.box a2 3 [iv a3],.box Z 24 [.slice P R.length Q,.slice x K.length y],.box a4 51 [.slice z L.length B],.box a5 51 [.slice C M.length D],.box a6 22 [.slice G N.length J]])∧Cx I O0 w w ([.ro (.sl si) [.slice G N.length J] N,.ro (.sl (.sl (.pr si si))) [.slice C M.length D] M,.ro (.sl (.sl (.pr si si))) [.slice z L.length B] L,.ro (.sl si) [.slice x K.length y] K,.ro (.sl si) [.slice P R.length Q] R,.ro (.sl (.pr si si)) [.slice U X.length V] X,.own 4 .bool (.slice p q.length o) q,.box u 56 [.slice U X.length V],.box a1 55 [.slice p q.length o],.box a2 3 [iv a3],.box Z 24 [.slice P R.length Q,.slice x K.length y],.box a4 51 [.slice z L.length B],.box a5 51 [.slice C M.length D],.box a6 22 [.slice G N.length J]]):=⟨_,rfl,hC⟩
 refine qaq func39 rfl (by rw [ntmps39]; exact nb rfl) fun KR hKR=>?_
 refine Wc.seq fun _ hK15=>rg<|lex.op (hC.alloc (cs:=[iv 0,iv 0]) zeroValue58 rfl) ?_
 rintro _ w17 ⟨g16,rfl,hC,hF,-⟩
 refine lp (.bool false) (qab rfl)<|ln (hK15 _ _ ?_)
 refine Wc.seq fun _ hK19=>?_
 obtain ⟨o20,hl0,hb⟩:=bd hb
 refine Wc.cut (fun E wv=> ∃(c:List (Int×Int)) (T:List Bool) (d:Int) (l:Option Addr) (S f:Nat),E 0=pg u∧E 7=pg g16∧E 8=.bool false∧I64 d∧Cx I O0 w wv [.box u 56 [.slice l S f],.ro (.sl (.pr si si)) [.slice l S f] c,.box g16 58 [iv 0,iv 0],.own 4 .bool (.slice p q.length o) T,.box a1 55 [.slice p q.length o],.box a2 3 [iv d],.box Z 24 [.slice P R.length Q,.slice x K.length y],.box a4 51 [.slice z L.length B],.box a5 51 [.slice C M.length D],.box a6 22 [.slice G N.length J],.ro (.sl si) [.slice P R.length Q] R,.ro (.sl si) [.slice x K.length y] K,.ro (.sl (.sl (.pr si si))) [.slice z L.length B] L,.ro (.sl (.sl (.pr si si))) [.slice C M.length D] M,.ro (.sl si) [.slice G N.length J] N]∧((get c 0).bind fun x111=>(cut 1 (c.length:Int) c.length).bind fun u126=>some (x111.1,x111.2,true,T,((c.drop (1:Int).toNat).take ((c.length:Int).toNat-(1:Int).toNat)),d):Option (Int×Int×Bool×(List Bool)×(List (Int×Int))×Int))=some r) (fun _ hK21=>?_) ?_
 refine Wc.block ?_
 refine Wc.loop (fun m E wv=> ∃(c:List (Int×Int)) (T:List Bool) (d:Int) (l:Option Addr) (S f:Nat),E 0=pg u∧E 1=pg a1∧E 2=pg a2∧E 3=pg Z∧E 4=pg a4∧E 5=pg a5∧E 6=pg a6∧E 7=pg g16∧E 8=.bool false∧I64 d∧Cx I O0 w wv [.box u 56 [.slice l S f],.ro (.sl (.pr si si)) [.slice l S f] c,.box a1 55 [.slice p q.length o],.own 4 .bool (.slice p q.length o) T,.box a2 3 [iv d],.box Z 24 [.slice P R.length Q,.slice x K.length y],.ro (.sl si) [.slice P R.length Q] R,.ro (.sl si) [.slice x K.length y] K,.box a4 51 [.slice z L.length B],.ro (.sl (.sl (.pr si si))) [.slice z L.length B] L,.box a5 51 [.slice C M.length D],.ro (.sl (.sl (.pr si si))) [.slice C M.length D] M,.box a6 22 [.slice G N.length J],.ro (.sl si) [.slice G N.length J] N,.box g16 58 [iv 0,iv 0]]∧loopN m (F.qbh n K L M N) (c,T,d)=some o20) n ⟨X,q,a3,U,X.length,V,rfl,rfl,rfl,rfl,rfl,rfl,rfl,rfl,rfl,c1,hC.sE [8,6,9,7,10,11,5,4,12,3,13,2,14,1,0],hl0⟩ ?_
 have hbK0:=hb
 clear hb hC hl0
 rintro m23 E25 w24 ⟨c,T,d,l,S,f,e0,e1,e2,e3,e4,e5,e6,e7,e8,Y,hC,hl0⟩ K22 hK22
 obtain ⟨m23',o26,rfl,hb,hl0⟩:=qan hl0
 unfold F.qbh at hb
 obtain ⟨rfl,b9,c0⟩:=(hC.rd (i:=1) rfl).qad
 refine Wc.seq fun _ hK27=>?_
 refine Wc.seq fun _ hK28=>rg<|lv (.slice l c.length f) (qaj isAgg56 e0 ((hC.bx (i:=0) rfl).cell (j:=0) rfl))<|lp (iv (c.length:Int)) (qao (A:=l) (n:=c.length) (m:=f) underlying56 rfl)<|lp (.bool (decide ((c.length:Int)=0))) (qef (k:=.i64) (a:=(c.length:Int)) (b:=0) rfl rfl)<|ln (hK28 _ _ ?_)
 refine Wc.cond (t:=(decide ((c.length:Int)=0))) (rfl) (fun hq29=>?_) (fun hq29=>?_)
 replace hb:=tt hq29 hb
 refine Wc.skip (hK27 _ _ ?_)
 refine Wc.block ?_
 refine Wc.seq fun _ hK30=>?_
 refine Wc.seq fun _ hK31=>rg<|lv (.slice p q.length o) (qaj isAgg55 e1 ((hC.bx (i:=2) rfl).cell (j:=0) rfl))<|lv (iv d) (qaj isAgg3 e2 ((hC.bx (i:=4) rfl).cell (j:=0) rfl)) ?_
 obtain ⟨x32,h33,hb⟩:=bd hb
 obtain ⟨ad34,cs35,hA,hc36,hr37⟩:=hC.elo (i:=3) rfl (qac h33).2
 subst hA
 refine lp (.pointer (some (ad34.add (d.toNat*1)))) (qaf (a:=d) underlying55 sizeOf4 rfl rfl (by rw [(hC.ow (i:=3) rfl).qad.1]; exact (qac h33).1)) ?_
 obtain rfl:=(show _=_ from hr37)
 refine lv (.bool x32) (qaj isAgg4 rfl (hc36 0 _ rfl))<|ln (hK31 _ _ ?_)
 refine Wc.cond (t:=x32) (rfl) (fun hq38=>?_) (fun hq38=>?_)
 replace hb:=tt hq38 hb
 refine Wc.seq fun _ hK39=>rg<|lp (.agg #[iv 0,iv 0]) (qbr (places:=[(0,1),(1,1)]) (pv:=[]) type58 underlying58 rfl (qar type3 (qar type3 qco rfl rfl) rfl rfl) rfl (by simp [Instr.fill,Value.cells]))<|lex.sk (hC.seta (i:=14) (ds:=[iv 0,iv 0]) rfl type58 rfl rfl rfl e7 rfl) ?_
 rintro w40 ⟨hC,hF⟩
 refine lp (.bool false) (qab rfl)<|ln (hK39 _ _ ?_)
 obtain rfl:=os hb
 obtain rfl:=(lX hl0).symm
 replace hb:=hbK0
 obtain rfl:=os hb
 subst hI
 refine Wc.ret (hKR _ _ ?_)
 refine ⟨_,res2 results39 ⟨_,e7,qch (hC.bx (i:=14) rfl) isAgg58 sizeOf58⟩ (tV (.bool false) rfl),_,rfl,l,c.length,f,rfl,(show I64 0 from by unfold I64; omega),(show I64 0 from by unfold I64; omega),Y,hC.sE [3,1,0,2,4,5,8,10,12]⟩
 replace hb:=tf hq38 hb
 refine Wc.skip (hK30 _ _ ?_)
 refine Wc.seq fun _ hK41=>rg<|lv (.slice (some ad34) q.length o) (qaj isAgg55 e1 ((hC.bx (i:=2) rfl).cell (j:=0) rfl))<|lv (iv d) (qaj isAgg3 e2 ((hC.bx (i:=4) rfl).cell (j:=0) rfl)) ?_
 obtain ⟨x42,h43,hb⟩:=bd hb
 obtain ⟨ad44,cs45,hA,hc46,hr47⟩:=hC.elo (i:=3) rfl (qac h43).2
 obtain rfl:=Option.some.inj hA
 refine lp (.pointer (some (ad34.add (d.toNat*1)))) (qaf (a:=d) underlying55 sizeOf4 rfl rfl (by rw [(hC.ow (i:=3) rfl).qad.1]; exact (qac h43).1))<|lex.sk (hC.put (i:=3) rfl rfl sizeOf4 (k:=d.toNat) (a:=true) (by have:=(qac h43).1; simp at this⊢; omega) (show Rep _ _ .bool _ _ from rfl) rfl rfl rfl) ?_
 rintro w48 ⟨hC,hF⟩
 refine ln (hK41 _ _ ?_)
 refine Wc.fresh fun E49 hE=>?_
 have e0:=cg hE 0 e0
 have e1:=cg hE 1 e1
 have e2:=cg hE 2 e2
 have e3:=cg hE 3 e3
 have e4:=cg hE 4 e4
 have e5:=cg hE 5 e5
 have e6:=cg hE 6 e6
 have e7:=cg hE 7 e7
 have e8:=cg hE 8 e8
 have e13:E49 13=.bool (decide ((c.length:Int)=0)):=cg hE 13 rfl
 have e17:E49 17=.bool x32:=cg hE 17 rfl
 clear hE
 refine Wc.seq fun _ hK50=>rg<|lp (.pointer (some ((⟨Z,0,none⟩:Addr).add 1))) (qag (sz:=1) underlying24 rfl sizeOf22 (by decide) rfl e3)<|lv (.slice x K.length y) (qam (hC.bx (i:=5) rfl) isAgg22 rfl rfl)<|lv (iv d) (qaj isAgg3 e2 ((hC.bx (i:=4) rfl).cell (j:=0) rfl)) ?_
 obtain ⟨x51,h52,hb⟩:=bd hb
 obtain ⟨ad53,cs54,hA,hc55,hr56⟩:=hC.elr (i:=7) rfl (qac h52).2
 subst hA
 refine lp (.pointer (some (ad53.add (d.toNat*1)))) (qaf (a:=d) underlying22 sizeOf3 rfl rfl (qac h52).1) ?_
 obtain ⟨rfl,hr56'⟩:=hr56
 refine lv (iv x51) (qaj isAgg3 rfl (hc55 0 _ rfl))<|lp (iv x51) (qab rfl)<|ln (hK50 _ _ ?_)
 refine Wc.seq fun _ hK57=>?_
 refine Wc.regionMix [27,28,30,31,34] (frm [27,28,30,31,34] ([]:List Fact) [.box u 56 [.slice l c.length f]]) (fun _=>rfl) mixed (by decide+kernel) (by decide+kernel) fun w59 hw58=>?_
 replace hC:=hC.step (Fr.qbb hw58)
 have hM:=Fr.refl (fun k=>k∈blocks ([]:List Fact)) w59
 clear hw58
 have hS:=hC
 have hD:Fr (fun k=>k∈blocks (([]:List Fact)++[.box u 56 [.slice l c.length f]])) w59 w59:=hM.wide
 have hUf1:u<w59.heap.size→u∈blocks (([]:List Fact)++[.box u 56 [.slice l c.length f]]):=fun _=>box_in (i:=0) rfl
 refine mixE.steady hD (v:=.slice z L.length B) (fun _ hF=>qaj isAgg51 e4 ((hS.bx2 (i:=8) rfl [0] (by decide) hF).cell (j:=0) rfl))<|mixE.steady hD (v:=iv d) (fun _ hF=>qaj isAgg3 e2 ((hS.bx2 (i:=4) rfl [0] (by decide) hF).cell (j:=0) rfl)) ?_
 obtain ⟨x60,h61,hb⟩:=bd hb
 obtain ⟨ad62,cs63,hA,ho66,hc64,hr65⟩:=hS.elr2 (i:=9) rfl (qac h61).2 [0]
 subst hA
 refine mp (.pointer (some (ad62.add (d.toNat*1)))) (qaf (a:=d) underlying51 sizeOf56 rfl rfl (qac h61).1) ?_
 have hR:=hr65
 obtain ⟨A67,c68,rfl,hl69,hc70,_⟩:=hr65
 replace hS:=hS.ro hR
 replace hC:=hC.ro hR
 clear hR
 refine mixE.steady hD (v:=.slice A67 x60.length c68) (fun _ hF=>qaj isAgg56 rfl (hF.cell (hc64 0 _ rfl) (off1 ho66)))<|mixE.steady hD (v:=.slice C M.length D) (fun _ hF=>qaj isAgg51 e5 ((hS.bx2 (i:=11) rfl [1] (by decide) hF).cell (j:=0) rfl))<|mp (iv x51) (qaa rfl) ?_
 obtain ⟨x72,h73,hb⟩:=bd hb
 obtain ⟨ad74,cs75,hA,ho78,hc76,hr77⟩:=hS.elr2 (i:=12) rfl (qac h73).2 [1]
 subst hA
 refine mp (.pointer (some (ad74.add (x51.toNat*1)))) (qaf (a:=x51) underlying51 sizeOf56 rfl rfl (qac h73).1) ?_
 have hR:=hr77
 obtain ⟨A79,c80,rfl,hl81,hc82,_⟩:=hr77
 replace hS:=hS.ro hR
 replace hC:=hC.ro hR
 clear hR
 refine mixE.steady hD (v:=.slice A79 x72.length c80) (fun _ hF=>qaj isAgg56 rfl (hF.cell (hc76 0 _ rfl) (off1 ho78)))<|mixE.op hM (hC.lit (s:=(.sl (.pr si si))) (vs:=[.slice A67 x60.length c68,.slice A79 x72.length c80]) (xs:=[x60,x72]) underlying51 type56 rfl rfl (nb rfl) rfl rfl (by simp [Value.cells,Sh.n]) rfl (show Elems _ _ (.sl (.pr si si)) ([.slice A67 x60.length c68]++([.slice A79 x72.length c80]++([]))) ([x60,x72]:List (List (Int×Int))) from Elems.cons (hC.rd (i:=1) rfl) (Elems.cons (hC.rd (i:=0) rfl) (Elems.nil _ _ _)))) ?_
 rintro _ w88 ⟨A84,c85,rfl,hl86,hc87,hC,hF,hN⟩
 have hBf89:=Beside.new hM hN
 have hUf89:=Beside.new (hM.wide (H:=[.box u 56 [.slice l c.length f]])) hN
 replace hM:=hM.none hF
 replace hD:=hM.wide (H:=[.box u 56 [.slice l c.length f]])
 refine ⟨hM,?_⟩
 clear hF hN
 obtain ⟨y90,h91,hb⟩:=bd hb
 refine mixE.cl hM (⟨_,_,qas (vs:=[.slice A84 ((([x60,x72]:List (List (Int×Int)))).length) c85]) call40 rfl rfl rfl,qgr n (hC.lentLt [.slice A84 ((([x60,x72]:List (List (Int×Int)))).length) c85]) ((hC.ow (i:=0) rfl).lend (vs:=[.slice A84 ((([x60,x72]:List (List (Int×Int)))).length) c85]) (by simp)) h91⟩) ?_
 rintro _ w96 ⟨A92,m93,c94,rfl,hK⟩
 have hBf95:=Beside.cl (i:=0) hM hK rfl
 have hUf95:=hBf95.wide (H:=[.box u 56 [.slice l c.length f]])
 replace hM:=hM.none hK.fr
 replace hD:=hM.wide (H:=[.box u 56 [.slice l c.length f]])
 refine ⟨hM,?_⟩
 replace hC:=hC.mergeF hK rfl
 clear hK
 obtain ⟨rfl,hl97,hc98⟩:=(hC.ow (i:=0) rfl).qad
 refine mixE.sk hD (hC.setf (i:=4) (k:=0) (v:=.slice A92 y90.length c94) rfl sizeOf56 rfl (by rw [Addr.add_zero']; exact e0) rfl rfl) ?_
 rintro w99 ⟨hC,hF⟩
 replace hD:=hD.besideG hUf1 hF
 clear hF
 refine ⟨hD,?_⟩
 refine mixE.nil ?_
 clear hS hM
 clear hD
 refine hK57 _ _<|Wc.fresh fun E100 hE=>?_
 have e0:=cg hE 0 e0
 have e1:=cg hE 1 e1
 have e2:=cg hE 2 e2
 have e3:=cg hE 3 e3
 have e4:=cg hE 4 e4
 have e5:=cg hE 5 e5
 have e6:=cg hE 6 e6
 have e7:=cg hE 7 e7
 have e8:=cg hE 8 e8
 have e9:E100 9=iv x51:=cg hE 9 rfl
 have e13:=cg hE 13 e13
 have e17:=cg hE 17 e17
 clear hE
 refine rg<|lv (.slice G N.length J) (qaj isAgg22 e6 ((hC.bx (i:=16) rfl).cell (j:=0) rfl))<|lp _ (qaa e9) ?_
 obtain ⟨x101,h102,hb⟩:=bd hb
 obtain ⟨ad103,cs104,hA,hc105,hr106⟩:=hC.elr (i:=17) rfl (qac h102).2
 subst hA
 refine lp (.pointer (some (ad103.add (x51.toNat*1)))) (qaf (a:=x51) underlying22 sizeOf3 rfl rfl (qac h102).1) ?_
 obtain ⟨rfl,hr106'⟩:=hr106
 refine lv (iv x101) (qaj isAgg3 rfl (hc105 0 _ rfl))<|lex.sk (hC.setf (i:=8) (k:=0) (v:=iv x101) rfl sizeOf3 rfl (by rw [Addr.add_zero']; exact e2) rfl rfl) ?_
 rintro w107 ⟨hC,hF⟩
 refine ln ?_
 replace hC:=hC.freeze (i:=0) rfl (hC.own_newI hI (i:=0) rfl (List.forall_mem_cons.2 ⟨fun g hg=>⟨7,_,rfl,by decide,blk_own hg⟩,List.forall_mem_cons.2 ⟨fun g hg=>⟨4,_,rfl,by decide,hg⟩,List.forall_mem_cons.2 ⟨fun g hg=>⟨6,_,rfl,by decide,hg⟩,List.forall_mem_cons.2 ⟨fun g hg=>⟨8,_,rfl,by decide,hg⟩,List.forall_mem_cons.2 ⟨fun g hg=>⟨9,_,rfl,by decide,hg⟩,List.forall_mem_cons.2 ⟨fun g hg=>⟨12,_,rfl,by decide,hg⟩,List.forall_mem_cons.2 ⟨fun g hg=>⟨14,_,rfl,by decide,hg⟩,List.forall_mem_cons.2 ⟨fun g hg=>⟨16,_,rfl,by decide,hg⟩,fun _ h=>absurd h List.not_mem_nil⟩⟩⟩⟩⟩⟩⟩⟩))
 obtain rfl:=os hb
 exact hK22 m23' _ _ (Nat.lt_succ_self _) ⟨y90,(T.set d.toNat true),x101,A92,y90.length,c94,e0,e1,e2,e3,e4,e5,e6,e7,e8,(qay hr106'),hC.sE [4,0,6,7,8,9,10,11,12,13,14,15,16,17,18],lN hl0⟩
 replace hb:=tf hq29 hb
 refine Wc.exit rfl ?_
 obtain rfl:=os hb
 obtain rfl:=(lX hl0).symm
 exact hK21 _ _ ⟨c,T,d,l,c.length,f,e0,e7,e8,Y,hC.sE [0,1,14,3,2,4,5,8,10,12,6,7,9,11,13],hbK0⟩
 clear hb hC hl0
 rintro E109 w108 ⟨c,T,d,l,S,f,e0,e7,e8,Y,hC,hb⟩
 obtain ⟨rfl,b9,c0⟩:=(hC.rd (i:=1) rfl).qad
 refine hK19 _ _<|Wc.seq fun _ hK110=>rg<|lv (.slice l c.length f) (qaj isAgg56 e0 ((hC.bx (i:=0) rfl).cell (j:=0) rfl)) ?_
 obtain ⟨x111,h112,hb⟩:=bd hb
 obtain ⟨ad113,cs114,hA,hc115,hr116⟩:=hC.elr (i:=1) rfl (qac h112).2
 subst hA
 refine lp (.pointer (some (ad113.add ((0:Int).toNat*2)))) (qaf (a:=0) underlying56 sizeOf58 rfl rfl (qac h112).1) ?_
 obtain ⟨k117,k118,rfl,hr119,hr120⟩:=hr116
 obtain ⟨rfl,hr119⟩:=hr119
 obtain ⟨rfl,hr120⟩:=hr120
 refine lv (.agg #[iv x111.1,iv x111.2]) (ld_agg isAgg58 sizeOf58 rfl rfl hc115)<|lex.op (hC.alloc (cs:=[iv 0,iv 0]) zeroValue58 rfl) ?_
 rintro _ w122 ⟨g121,rfl,hC,hF,-⟩
 refine lex.sk (hC.seta (i:=0) (ds:=[iv x111.1,iv x111.2]) rfl type58 rfl rfl rfl rfl rfl) ?_
 rintro w124 ⟨hC,hF⟩
 refine ln (hK110 _ _ ?_)
 refine Wc.seq fun _ hK125=>rg<|lv (.slice (some ad113) c.length f) (qaj isAgg56 e0 ((hC.bx (i:=1) rfl).cell (j:=0) rfl)) ?_
 obtain ⟨u126,h127,hb⟩:=bd hb
 obtain ⟨A128,c129,hp132,hR133⟩:=pu_part_l (a:=1) underlying56 sizeOf58 (hC.rd (i:=2) rfl) rfl (cut_some h127)
 refine lp (.slice A128 (((c.drop (1:Int).toNat).take ((c.length:Int).toNat-(1:Int).toNat)).length) c129) (hp132 rfl rfl ) ?_
 replace hC:=hC.ro hR133
 obtain ⟨-,hl130,hc131⟩:=(hC.rd (i:=0) rfl).qad
 refine lex.sk (hC.setf (i:=2) (k:=0) (v:=.slice A128 (((c.drop (1:Int).toNat).take ((c.length:Int).toNat-(1:Int).toNat)).length) c129) rfl sizeOf56 rfl (by rw [Addr.add_zero']; exact e0) rfl rfl) ?_
 rintro w135 ⟨hC,hF⟩
 refine ln (hK125 _ _ ?_)
 refine Wc.seq fun _ hK136=>rg<|lv (.agg #[iv x111.1,iv x111.2]) (qbs (hC.bx (i:=1) rfl) isAgg58 sizeOf58 rfl)<|lex.sk (hC.seta (i:=4) (ds:=[iv x111.1,iv x111.2]) rfl type58 rfl rfl rfl e7 rfl) ?_
 rintro w137 ⟨hC,hF⟩
 refine lp (.bool true) (qab rfl)<|ln (hK136 _ _ ?_)
 obtain rfl:=os hb
 subst hI
 refine Wc.ret (hKR _ _ ?_)
 refine ⟨_,res2 results39 ⟨_,e7,qch (hC.bx (i:=4) rfl) isAgg58 sizeOf58⟩ (tV (.bool true) rfl),_,rfl,A128,((c.drop (1:Int).toNat).take ((c.length:Int).toNat-(1:Int).toNat)).length,c129,rfl,(qay hr119),(qay hr120),Y,hC.sE [5,0,2,6,7,8,9,10,11]⟩
