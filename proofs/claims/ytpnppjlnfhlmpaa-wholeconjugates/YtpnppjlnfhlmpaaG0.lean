import Derived.Test.YtpnppjlnfhlmpaaS
set_option linter.all false
namespace Go.Proofs.Ytpnppjlnfhlmpaa
open Ev Try
set_option maxRecDepth 100000
set_option maxHeartbeats 4000000
theorem qhi (n:Nat) {w:World} {O0:List Nat} (hO: ∀k∈O0,k<w.heap.size) {d:Option Addr} {o f:Nat} {g:List Int} (p:Rep O0 w (.sl si) [.slice d o f] g) {j:Option Addr} {q l:Nat} {m:List Int} (s:Rep O0 w (.sl si) [.slice j q l] m) {h:Int} (A:I64 h) {c:Int} (B:I64 c) {r:Bool} (hb:F.qeh n g m h c=some r):
    Calls prog 27 #[.agg #[.slice d o f,.slice j q l,iv h],iv c] w fun e w'=> ∃v,e=.returned v∧v=.bool r∧Cx (fun _=>False) O0 w w' []:=by
 unfold F.qeh at hb
 have hC:=Cx.start hO
 replace hC:=hC.arg rfl p
 replace hC:=hC.arg rfl s
 clear hO
 obtain ⟨rfl,u,x⟩:=p.qae
 obtain ⟨rfl,y,z⟩:=s.qae
 refine qao func27 rfl (by rw [ntmps27]; exact nb rfl) fun KR hKR=>?_
 refine Wc.seq fun _ hK3=>rg<|lex.op (hC.box (cs:=[.slice d g.length f,.slice j m.length l,iv h]) rfl rfl) ?_
 rintro _ w5 ⟨g4,rfl,hC,hF,-⟩
 refine lp (.bool false) (qab rfl)<|ln (hK3 _ _ ?_)
 refine Wc.seq fun _ hK7=>?_
 refine Wc.seq fun _ hK8=>rg<|lp (iv c) (qaa rfl) ?_
 obtain ⟨u9,h10,hb⟩:=bd hb
 refine lp (iv (Int.tmod c 4)) (pu_remc (a:=c) (b:=4) rfl rfl h10)<|ln (hK8 _ _ ?_)
 refine Wc.block<|Wc.seq fun _ hK11=>rg<|lp (.bool (decide ((Int.tmod c 4)=1))) (qbl (k:=.i64) (a:=(Int.tmod c 4)) (b:=1) rfl rfl)<|lp (.bool (decide ((Int.tmod c 4)=1))) (qab rfl)<|ln (hK11 _ _ ?_)
 refine Wc.cond (t:=(decide ((Int.tmod c 4)=1))) (rfl) (fun hq12=>?_) (fun hq12=>?_)
 replace hb:=tt hq12 hb
 refine Wc.seq fun _ hK13=>rg<|lp (.pointer (some ((⟨g4,0,none⟩:Addr).add 0))) (qaf (sz:=1) underlying32 rfl sizeOf22 (by decide) rfl rfl)<|lv (.slice d g.length f) (qal (hC.bx (i:=0) rfl) isAgg22 rfl rfl)<|lp (iv c) (qaa rfl) ?_
 obtain ⟨u14,h15,hb⟩:=bd hb
 obtain ⟨z16,h17,hb⟩:=bd hb
 refine lp (iv z16) (qfu (a:=c) (b:=4) rfl rfl h15 h17) ?_
 obtain ⟨x18,h19,hb⟩:=bd hb
 obtain ⟨ad20,cs21,hA,hc22,hr23⟩:=hC.elr (i:=2) rfl (qad h19).2
 subst hA
 refine lp (.pointer (some (ad20.add (z16.toNat*1)))) (qar (a:=z16) underlying22 sizeOf3 rfl rfl (qad h19).1) ?_
 obtain ⟨rfl,hr23'⟩:=hr23
 refine lv (iv x18) (qaw isAgg3 rfl (hc22 0 _ rfl))<|lp (.bool (decide (x18=1))) (qbl (k:=.i64) (a:=x18) (b:=1) rfl rfl)<|lp (.bool (decide (x18=1))) (qab rfl)<|ln (hK13 _ _ ?_)
 obtain rfl:=os hb
 refine Wc.ret (hKR _ _ ?_)
 refine ⟨_,res1 results27 (tV (.bool (decide (x18=1))) rfl),_,rfl,rfl,hC.sE []⟩
 replace hb:=tf hq12 hb
 refine Wc.seq fun _ hK24=>rg<|lp (.bool (decide ((Int.tmod c 4)=2))) (qbl (k:=.i64) (a:=(Int.tmod c 4)) (b:=2) rfl rfl)<|lp (.bool (decide ((Int.tmod c 4)=2))) (qab rfl)<|ln (hK24 _ _ ?_)
 refine Wc.cond (t:=(decide ((Int.tmod c 4)=2))) (rfl) (fun hq25=>?_) (fun hq25=>?_)
 replace hb:=tt hq25 hb
 refine Wc.seq fun _ hK26=>rg<|lp (.bool true) (qab rfl)<|ln (hK26 _ _ ?_)
 obtain rfl:=os hb
 refine Wc.ret (hKR _ _ ?_)
 refine ⟨_,res1 results27 (tV (.bool true) rfl),_,rfl,rfl,hC.sE []⟩
 replace hb:=tf hq25 hb
 refine Wc.seq fun _ hK27=>rg<|lp (.bool (decide ((Int.tmod c 4)=3))) (qbl (k:=.i64) (a:=(Int.tmod c 4)) (b:=3) rfl rfl)<|lp (.bool (decide ((Int.tmod c 4)=3))) (qab rfl)<|ln (hK27 _ _ ?_)
 refine Wc.fresh fun E28 hE=>?_
 have e1:E28 1=iv c:=cg hE 1 rfl
 have e2:E28 2=pg g4:=cg hE 2 rfl
 have e4:E28 4=.bool false:=cg hE 4 rfl
 have e18:E28 18=.bool (decide ((Int.tmod c 4)=3)):=cg hE 18 rfl
 clear hE
 refine Wc.cond (t:=(decide ((Int.tmod c 4)=3))) (e18) (fun hq29=>?_) (fun hq29=>?_)
 replace hb:=tt hq29 hb
 refine Wc.seq fun _ hK30=>rg<|lp (.pointer (some ((⟨g4,0,none⟩:Addr).add 0))) (qaf (sz:=1) underlying32 rfl sizeOf22 (by decide) rfl e2)<|lv (.slice d g.length f) (qal (hC.bx (i:=0) rfl) isAgg22 rfl rfl)<|lp _ (qaa e1) ?_
 obtain ⟨u31,h32,hb⟩:=bd hb
 obtain ⟨z33,h34,hb⟩:=bd hb
 refine lp (iv z33) (qfu (a:=c) (b:=4) rfl rfl h32 h34) ?_
 obtain ⟨x35,h36,hb⟩:=bd hb
 obtain ⟨ad37,cs38,hA,hc39,hr40⟩:=hC.elr (i:=2) rfl (qad h36).2
 subst hA
 refine lp (.pointer (some (ad37.add (z33.toNat*1)))) (qar (a:=z33) underlying22 sizeOf3 rfl rfl (qad h36).1) ?_
 obtain ⟨rfl,hr40'⟩:=hr40
 refine lv (iv x35) (qaw isAgg3 rfl (hc39 0 _ rfl))<|lp (.bool (decide (x35=(-1)))) (qbl (k:=.i64) (a:=x35) (b:=(-1)) rfl rfl)<|lp (.bool (decide (x35=(-1)))) (qab rfl)<|ln (hK30 _ _ ?_)
 obtain rfl:=os hb
 refine Wc.ret (hKR _ _ ?_)
 refine ⟨_,res1 results27 (tV (.bool (decide (x35=(-1)))) rfl),_,rfl,rfl,hC.sE []⟩
 replace hb:=tf hq29 hb
 refine Wc.skip (hK7 _ _ ?_)
 refine Wc.seq fun _ hK41=>rg<|lp (.bool false) (qab rfl)<|ln (hK41 _ _ ?_)
 obtain rfl:=os hb
 refine Wc.ret (hKR _ _ ?_)
 refine ⟨_,res1 results27 (tV (.bool false) rfl),_,rfl,rfl,hC.sE []⟩

theorem diagram_label_ok (n:Nat) {w:World} {O0:List Nat} (hO: ∀k∈O0,k<w.heap.size) {g:Option Addr} {S h:Nat} {c:List Int} (T:Rep O0 w (.sl si) [.slice g S h] c) {j:Option Addr} {U l:Nat} {f:List Int} (V:Rep O0 w (.sl si) [.slice j U l] f) {D:Int} (a5:I64 D) {r:(List Int)×Int} (hb:F.qhe n c f D=some r):
    Calls prog 43 #[.agg #[.slice g S h,.slice j U l,iv D]] w fun e w'=> ∃v,e=.returned v∧∃(A0:Option Addr) (m0 c0:Nat),v=.tuple #[.slice A0 m0 c0,iv r.2]∧I64 r.2∧Cx (fun _=>False) O0 w w' [.own 3 si (.slice A0 m0 c0) r.1]:=by
 unfold F.qhe at hb
 have hC:=Cx.start hO
 replace hC:=hC.arg rfl T
 replace hC:=hC.arg rfl V
 clear hO
 obtain ⟨rfl,a1,a2⟩:=T.qae
 obtain ⟨rfl,a3,a4⟩:=V.qae
 refine qao func43 rfl (by rw [ntmps43]; exact nb rfl) fun KR hKR=>?_
 refine Wc.seq fun _ hK3=>rg<|lex.op (hC.box (cs:=[.slice g c.length h,.slice j f.length l,iv D]) rfl rfl) ?_
 rintro _ w5 ⟨g4,rfl,hC,hF,-⟩
 refine lp (.slice none 0 0) (qab rfl)<|lp (iv 0) (qab rfl)<|ln (hK3 _ _ ?_)
 refine Wc.seq fun _ hK7=>rg<|lp (.pointer (some ((⟨g4,0,none⟩:Addr).add 0))) (qaf (sz:=1) underlying32 rfl sizeOf22 (by decide) rfl rfl)<|lv (.slice g c.length h) (qal (hC.bx (i:=0) rfl) isAgg22 rfl rfl)<|lp (iv (c.length:Int)) (qay (A:=g) (n:=c.length) (m:=h) underlying22 rfl) ?_
 obtain ⟨u8,h9,hb⟩:=bd hb
 refine lex.op (hC.make (s:=si) (n:=(c.length:Int)) underlying22 type3 rfl rfl rfl rfl rfl (qaj h9).1 (qaj h9).2 (by decide)) ?_
 rintro _ w14 ⟨A10,c11,rfl,hl12,hc13,hC,-,-⟩
 refine lp (.slice A10 (((rZ c.length)).length) c11) (qab rfl)<|ln (hK7 _ _ ?_)
 refine Wc.seq fun _ hK16=>?_
 refine Wc.seq fun _ hK17=>rg<|lp (.slice A10 (((rZ c.length)).length) c11) (qaa rfl)<|lp (iv (((rZ c.length)).length:Int)) (qay (A:=A10) (n:=((rZ c.length)).length) (m:=c11) underlying22 rfl)<|lp (iv 0) (qaa rfl)<|ln (hK17 _ _ ?_)
 refine Wc.fresh fun E18 hE=>?_
 have e1:E18 1=pg g4:=cg hE 1 rfl
 have e2:E18 2=.slice none 0 0:=cg hE 2 rfl
 have e3:E18 3=iv 0:=cg hE 3 rfl
 have e4:E18 4=.slice A10 (((rZ c.length)).length) c11:=cg hE 4 rfl
 have e17:E18 17=iv (((rZ c.length)).length:Int):=cg hE 17 rfl
 have e18:E18 18=iv 0:=cg hE 18 rfl
 clear hE
 obtain ⟨o19,hl0,f19,hf19,hb⟩:=bn hb
 refine Wc.cut (fun E wv=> ∃(q:Int) (z:List Int),E 1=pg g4∧E 2=.slice none 0 0∧E 3=iv 0∧E 4=.slice A10 (((rZ c.length)).length) c11∧I64 q∧Cx (fun _=>False) O0 w wv [.box g4 32 [.slice g c.length h,.slice j f.length l,iv D],.ro (.sl si) [.slice g c.length h] c,.ro (.sl si) [.slice j f.length l] f,.own 3 si (.slice A10 (((rZ c.length)).length) c11) z]∧f19 (q,z)=some r) (fun _ hK20=>?_) ?_
 refine Wc.block ?_
 refine Wc.loop (fun m E wv=> ∃(q:Int) (z:List Int),E 1=pg g4∧E 2=.slice none 0 0∧E 3=iv 0∧E 4=.slice A10 (((rZ c.length)).length) c11∧E 17=iv (((rZ c.length)).length:Int)∧E 18=iv q∧I64 q∧Cx (fun _=>False) O0 w wv [.box g4 32 [.slice g c.length h,.slice j f.length l,iv D],.ro (.sl si) [.slice g c.length h] c,.ro (.sl si) [.slice j f.length l] f,.own 3 si (.slice A10 (((rZ c.length)).length) c11) z]∧loopN m (F.qfe n c) (q,z)=some o19) n ⟨0,(rZ c.length),e1,e2,e3,e4,e17,e18,(show I64 0 from by unfold I64; omega),hC.sE [1,3,2,0],hl0⟩ ?_
 have hbK0:=hb
 clear hb hC hl0
 rintro m22 E24 w23 ⟨q,z,e1,e2,e3,e4,e17,e18,Q,hC,hl0⟩ K21 hK21
 obtain ⟨m22',o25,rfl,hb,hl0⟩:=qax hl0
 unfold F.qfe at hb
 refine Wc.seq fun _ hK26=>rg<|lp _ (qbj e18 e17)<|ln (hK26 _ _ ?_)
 refine Wc.seq fun _ hK27=>?_
 refine Wc.cond (t:=(decide (q<(((rZ c.length)).length:Int)))) (rfl) (fun hq28=>?_) (fun hq28=>?_)
 replace hb:=tt hq28 hb
 refine Wc.skip (hK27 _ _ ?_)
 refine Wc.seq fun _ hK29=>?_
 refine Wc.block<|Wc.seq fun _ hK30=>rg<|lp _ (qaa e18)<|lp (iv q) (qab rfl)<|ln (hK30 _ _ ?_)
 refine rg<|lp _ (qaa e4)<|lp (iv q) (qaa rfl) ?_
 obtain ⟨x31,h32,hb⟩:=bd hb
 obtain ⟨ad33,cs34,hA,hc35,hr36⟩:=hC.elo (i:=3) rfl (qad h32).2
 subst hA
 refine lp (.pointer (some (ad33.add (q.toNat*1)))) (qar (a:=q) underlying22 sizeOf3 rfl rfl (by rw [(hC.ow (i:=3) rfl).qae.1]; exact (qad h32).1))<|lex.sk (hC.put (i:=3) rfl rfl sizeOf3 (k:=q.toNat) (a:=(-1)) (by have:=(qad h32).1; simp at this⊢; omega) (⟨rfl,I64.wr (show I64 (-1) from by unfold I64; omega)⟩) rfl rfl rfl) ?_
 rintro w37 ⟨hC,hF⟩
 refine ln (hK29 _ _ ?_)
 refine rg ?_
 obtain ⟨z38,h39,hb⟩:=bd hb
 refine lp (iv z38) (qau (a:=q) (b:=1) e18 rfl h39)<|lp (iv z38) (qaa rfl)<|ln ?_
 obtain rfl:=os hb
 exact hK21 m22' _ _ (Nat.lt_succ_self _) ⟨z38,(z.set q.toNat (-1)),e1,e2,e3,e4,e17,rfl,(qah h39),hC.sE [0,1,2,3],lN hl0⟩
 replace hb:=tf hq28 hb
 refine Wc.exit rfl ?_
 obtain rfl:=os hb
 obtain rfl:=(lX hl0).symm
 exact hK20 _ _ ⟨q,z,e1,e2,e3,e4,Q,hC.sE [0,1,2,3],hbK0⟩
 clear hb hC hl0
 rintro E41 w40 ⟨q,z,e1,e2,e3,e4,Q,hC,hb⟩
 subst hf19
 refine hK16 _ _<|Wc.seq fun _ hK42=>rg<|lp (iv 0) (qab rfl)<|ln (hK42 _ _ ?_)
 refine Wc.seq fun _ hK43=>?_
 refine Wc.seq fun _ hK44=>rg<|lp _ (qaa e4)<|lp (iv (((rZ c.length)).length:Int)) (qay (A:=A10) (n:=((rZ c.length)).length) (m:=c11) underlying22 rfl)<|lp (iv 0) (qaa rfl)<|ln (hK44 _ _ ?_)
 obtain ⟨o45,hl1,f45,hf45,hb⟩:=bn hb
 refine Wc.cut (fun E wv=> ∃(o:Int) (d:Int) (B:List Int),E 2=.slice none 0 0∧E 3=iv 0∧E 4=.slice A10 (((rZ c.length)).length) c11∧E 6=iv o∧I64 o∧I64 d∧Cx (fun _=>False) O0 w wv [.own 3 si (.slice A10 (((rZ c.length)).length) c11) B]∧f45 (o,d,B)=some r) (fun _ hK46=>?_) ?_
 refine Wc.block ?_
 refine Wc.loop (fun m E wv=> ∃(o:Int) (d:Int) (B:List Int),E 1=pg g4∧E 2=.slice none 0 0∧E 3=iv 0∧E 4=.slice A10 (((rZ c.length)).length) c11∧E 6=iv o∧E 26=iv (((rZ c.length)).length:Int)∧E 27=iv d∧I64 o∧I64 d∧Cx (fun _=>False) O0 w wv [.box g4 32 [.slice g c.length h,.slice j f.length l,iv D],.ro (.sl si) [.slice g c.length h] c,.ro (.sl si) [.slice j f.length l] f,.own 3 si (.slice A10 (((rZ c.length)).length) c11) B]∧loopN m (F.qfm n c f) (o,d,B)=some o45) n ⟨0,0,z,e1,e2,e3,e4,rfl,rfl,rfl,(show I64 0 from by unfold I64; omega),(show I64 0 from by unfold I64; omega),hC.sE [0,1,2,3],hl1⟩ ?_
 have hbK1:=hb
 clear hb hC hl1
 rintro m48 E50 w49 ⟨o,d,B,e1,e2,e3,e4,e6,e26,e27,L,P,hC,hl1⟩ K47 hK47
 obtain ⟨m48',o51,rfl,hb,hl1⟩:=qax hl1
 unfold F.qfm at hb
 refine Wc.seq fun _ hK52=>rg<|lp _ (qbj e27 e26)<|ln (hK52 _ _ ?_)
 refine Wc.seq fun _ hK53=>?_
 refine Wc.cond (t:=(decide (d<(((rZ c.length)).length:Int)))) (rfl) (fun hq54=>?_) (fun hq54=>?_)
 replace hb:=tt hq54 hb
 refine Wc.skip (hK53 _ _ ?_)
 refine Wc.seq fun _ hK55=>?_
 refine Wc.block<|Wc.seq fun _ hK56=>rg<|lp _ (qaa e27)<|lp (iv d) (qab rfl)<|ln (hK56 _ _ ?_)
 refine Wc.seq fun _ hK57=>?_
 refine Wc.seq fun _ hK58=>rg<|lp _ (qaa e4)<|lp (iv d) (qaa rfl) ?_
 obtain ⟨x59,h60,hb⟩:=bd hb
 obtain ⟨ad61,cs62,hA,hc63,hr64⟩:=hC.elo (i:=3) rfl (qad h60).2
 subst hA
 refine lp (.pointer (some (ad61.add (d.toNat*1)))) (qar (a:=d) underlying22 sizeOf3 rfl rfl (by rw [(hC.ow (i:=3) rfl).qae.1]; exact (qad h60).1)) ?_
 obtain ⟨rfl,hr64'⟩:=hr64
 refine lv (iv x59) (qaw isAgg3 rfl (hc63 0 _ rfl))<|lp (.bool (decide (0≤x59))) (pu_geq (k:=.i64) (a:=x59) (b:=0) rfl rfl)<|ln (hK58 _ _ ?_)
 refine Wc.cond (t:=(decide (0≤x59))) (rfl) (fun hq65=>?_) (fun hq65=>?_)
 replace hb:=tt hq65 hb
 refine Wc.exit rfl ?_
 refine hK55 _ _<|rg ?_
 obtain ⟨z66,h67,hb⟩:=bd hb
 refine lp (iv z66) (qau (a:=d) (b:=1) e27 rfl h67)<|lp (iv z66) (qaa rfl)<|ln ?_
 obtain rfl:=os hb
 exact hK47 m48' _ _ (Nat.lt_succ_self _) ⟨o,z66,B,e1,e2,e3,e4,e6,e26,rfl,L,(qah h67),hC.sE [0,1,2,3],lN hl1⟩
 replace hb:=tf hq65 hb
 refine Wc.skip (hK57 _ _ ?_)
 refine Wc.seq fun _ hK68=>rg<|lp _ (qaa e4)<|lp (iv d) (qaa rfl)<|lp _ (qaa e6) ?_
 obtain ⟨x69,h70,hb⟩:=bd hb
 obtain ⟨ad71,cs72,hA,hc73,hr74⟩:=hC.elo (i:=3) rfl (qad h70).2
 obtain rfl:=Option.some.inj hA
 refine lp (.pointer (some (ad61.add (d.toNat*1)))) (qar (a:=d) underlying22 sizeOf3 rfl rfl (by rw [(hC.ow (i:=3) rfl).qae.1]; exact (qad h70).1))<|lex.sk (hC.put (i:=3) rfl rfl sizeOf3 (k:=d.toNat) (a:=o) (by have:=(qad h70).1; simp at this⊢; omega) (⟨rfl,I64.wr L⟩) rfl rfl rfl) ?_
 rintro w75 ⟨hC,hF⟩
 refine ln (hK68 _ _ ?_)
 refine Wc.fresh fun E76 hE=>?_
 have e1:=cg hE 1 e1
 have e2:=cg hE 2 e2
 have e3:=cg hE 3 e3
 have e4:=cg hE 4 e4
 have e6:=cg hE 6 e6
 have e7:E76 7=iv d:=cg hE 7 rfl
 have e26:=cg hE 26 e26
 have e27:=cg hE 27 e27
 have e28:E76 28=.bool (decide (d<(((rZ c.length)).length:Int))):=cg hE 28 rfl
 have e34:E76 34=.bool (decide (0≤x59)):=cg hE 34 rfl
 clear hE
 refine Wc.seq fun _ hK77=>rg<|lp _ (qaa e7)<|lex.op (hC.lit (s:=si) (vs:=[iv d]) (xs:=[d]) underlying22 type3 rfl rfl (nb rfl) rfl rfl (by simp [Value.cells,Sh.n]) rfl (show Elems _ _ si ([iv d]++([])) ([d]:List Int) from Elems.cons (⟨rfl,I64.wr P⟩) (Elems.nil _ _ _))) ?_
 rintro _ w82 ⟨A78,c79,rfl,hl80,hc81,hC,-,-⟩
 refine lp (.slice A78 ((([d]:List Int)).length) c79) (qab rfl)<|ln (hK77 _ _ ?_)
 refine Wc.seq fun _ hK84=>?_
 obtain ⟨o85,hl2,hb⟩:=bd hb
 refine Wc.cut (fun E wv=> ∃(u:List Int) (C:List Int) (J:Option Addr) (M K:Nat),E 1=pg g4∧E 2=.slice none 0 0∧E 3=iv 0∧E 4=.slice (some ad61) (((rZ c.length)).length) c11∧E 6=iv o∧E 7=iv d∧E 8=.slice J M K∧E 26=iv (((rZ c.length)).length:Int)∧E 27=iv d∧E 28=.bool (decide (d<(((rZ c.length)).length:Int)))∧E 34=.bool (decide (0≤x59))∧Cx (fun _=>False) O0 w wv [.box g4 32 [.slice g c.length h,.slice j f.length l,iv D],.ro (.sl si) [.slice g c.length h] c,.ro (.sl si) [.slice j f.length l] f,.own 3 si (.slice (some ad61) (((rZ c.length)).length) c11) C,.own 3 si (.slice J M K) u]∧((chk (o+1)).bind fun z177=>(chk (d+1)).bind fun z179=>some (.inl (z177,z179,C)):Option ((Int×Int×(List Int))⊕((Int×Int×(List Int)))))=some o51) (fun _ hK86=>?_) ?_
 refine Wc.block ?_
 refine Wc.loop (fun m E wv=> ∃(u:List Int) (C:List Int) (J:Option Addr) (M K:Nat),E 1=pg g4∧E 2=.slice none 0 0∧E 3=iv 0∧E 4=.slice (some ad61) (((rZ c.length)).length) c11∧E 6=iv o∧E 7=iv d∧E 8=.slice J M K∧E 26=iv (((rZ c.length)).length:Int)∧E 27=iv d∧E 28=.bool (decide (d<(((rZ c.length)).length:Int)))∧E 34=.bool (decide (0≤x59))∧Cx (fun _=>False) O0 w wv [.box g4 32 [.slice g c.length h,.slice j f.length l,iv D],.ro (.sl si) [.slice g c.length h] c,.ro (.sl si) [.slice j f.length l] f,.own 3 si (.slice (some ad61) (((rZ c.length)).length) c11) C,.own 3 si (.slice J M K) u]∧loopN m (F.qed n f o) (u,C)=some o85) n ⟨([d]:List Int),(B.set d.toNat o),A78,(([d]:List Int)).length,c79,e1,e2,e3,e4,e6,e7,rfl,e26,e27,e28,e34,hC.sE [1,2,3,4,0],hl2⟩ ?_
 have hbK2:=hb
 clear hb hC hl2
 rintro m88 E90 w89 ⟨u,C,J,M,K,e1,e2,e3,e4,e6,e7,e8,e26,e27,e28,e34,hC,hl2⟩ K87 hK87
 obtain ⟨m88',o91,rfl,hb,hl2⟩:=qax hl2
 unfold F.qed at hb
 obtain ⟨rfl,X,Y⟩:=(hC.ow (i:=4) rfl).qae
 refine Wc.seq fun _ hK92=>?_
 refine Wc.seq fun _ hK93=>rg<|lp _ (qaa e8)<|lp (iv (u.length:Int)) (qay (A:=J) (n:=u.length) (m:=K) underlying22 rfl)<|lp (.bool (decide (0<(u.length:Int)))) (qfq (k:=.i64) (a:=(u.length:Int)) (b:=0) rfl rfl)<|ln (hK93 _ _ ?_)
 refine Wc.cond (t:=(decide (0<(u.length:Int)))) (rfl) (fun hq94=>?_) (fun hq94=>?_)
 replace hb:=tt hq94 hb
 refine Wc.skip (hK92 _ _ ?_)
 refine Wc.block<|Wc.seq fun _ hK95=>rg<|lp _ (qaa e8) ?_
 obtain ⟨x96,h97,hb⟩:=bd hb
 obtain ⟨ad98,cs99,hA,hc100,hr101⟩:=hC.elo (i:=4) rfl (qad h97).2
 subst hA
 refine lp (.pointer (some (ad98.add ((0:Int).toNat*1)))) (qar (a:=0) underlying22 sizeOf3 rfl rfl (qad h97).1) ?_
 obtain ⟨rfl,hr101'⟩:=hr101
 refine lv (iv x96) (qaw isAgg3 rfl (hc100 0 _ rfl))<|lp (iv x96) (qab rfl)<|ln (hK95 _ _ ?_)
 refine Wc.seq fun _ hK102=>rg<|lp _ (qaa e8) ?_
 obtain ⟨u103,h104,hb⟩:=bd hb
 obtain ⟨A105,c106,hp107,hl108,hc109,hC2⟩:=hC.cutl (i:=4) rfl underlying22 sizeOf3 (cut_some h104)
 refine lp (.slice A105 ((u.drop (1:Int).toNat).length) c106) (hp107 rfl rfl) ?_
 replace hC:=hC2
 clear hC2
 refine lp (.slice A105 ((u.drop (1:Int).toNat).length) c106) (qab rfl)<|ln (hK102 _ _ ?_)
 refine Wc.fresh fun E110 hE=>?_
 have e1:=cg hE 1 e1
 have e2:=cg hE 2 e2
 have e3:=cg hE 3 e3
 have e4:=cg hE 4 e4
 have e6:=cg hE 6 e6
 have e7:=cg hE 7 e7
 have e8:E110 8=.slice A105 ((u.drop (1:Int).toNat).length) c106:=cg hE 8 rfl
 have e9:E110 9=iv x96:=cg hE 9 rfl
 have e26:=cg hE 26 e26
 have e27:=cg hE 27 e27
 have e28:=cg hE 28 e28
 have e34:=cg hE 34 e34
 have e43:E110 43=.bool (decide (0<(u.length:Int))):=cg hE 43 rfl
 clear hE
 refine Wc.seq fun _ hK111=>rg<|lp (iv 0) (qaa rfl)<|ln (hK111 _ _ ?_)
 obtain ⟨o112,hl3,hb⟩:=bd hb
 refine Wc.cut (fun E wv=> ∃(x:List Int) (p:Int) (y:List Int) (G:Option Addr) (N H:Nat),E 1=pg g4∧E 2=.slice none 0 0∧E 3=iv 0∧E 4=.slice (some ad61) (((rZ c.length)).length) c11∧E 6=iv o∧E 7=iv d∧E 8=.slice G N H∧E 9=iv x96∧E 26=iv (((rZ c.length)).length:Int)∧E 27=iv d∧E 28=.bool (decide (d<(((rZ c.length)).length:Int)))∧E 34=.bool (decide (0≤x59))∧E 43=.bool (decide (0<(u.length:Int)))∧E 49=iv p∧I64 p∧Cx (fun _=>False) O0 w wv [.box g4 32 [.slice g c.length h,.slice j f.length l,iv D],.ro (.sl si) [.slice g c.length h] c,.ro (.sl si) [.slice j f.length l] f,.own 3 si (.slice (some ad61) (((rZ c.length)).length) c11) y,.own 3 si (.slice G N H) x]∧(some (.inl (x,y)):Option (((List Int)×(List Int))⊕(((List Int)×(List Int)))))=some o91) (fun _ hK113=>?_) ?_
 refine Wc.block ?_
 refine Wc.loop (fun m E wv=> ∃(x:List Int) (p:Int) (y:List Int) (G:Option Addr) (N H:Nat),E 1=pg g4∧E 2=.slice none 0 0∧E 3=iv 0∧E 4=.slice (some ad61) (((rZ c.length)).length) c11∧E 6=iv o∧E 7=iv d∧E 8=.slice G N H∧E 9=iv x96∧E 26=iv (((rZ c.length)).length:Int)∧E 27=iv d∧E 28=.bool (decide (d<(((rZ c.length)).length:Int)))∧E 34=.bool (decide (0≤x59))∧E 43=.bool (decide (0<(u.length:Int)))∧E 49=iv p∧I64 p∧Cx (fun _=>False) O0 w wv [.box g4 32 [.slice g c.length h,.slice j f.length l,iv D],.ro (.sl si) [.slice g c.length h] c,.ro (.sl si) [.slice j f.length l] f,.own 3 si (.slice (some ad61) (((rZ c.length)).length) c11) y,.own 3 si (.slice G N H) x]∧loopN m (F.qfg n f o x96) (x,p,y)=some o112) n ⟨(u.drop (1:Int).toNat),0,C,A105,(u.drop (1:Int).toNat).length,c106,e1,e2,e3,e4,e6,e7,e8,e9,e26,e27,e28,e34,e43,rfl,(show I64 0 from by unfold I64; omega),hC.sE [0,1,2,3,4],hl3⟩ ?_
 have hbK3:=hb
 clear hb hC hl3
 rintro m115 E117 w116 ⟨x,p,y,G,N,H,e1,e2,e3,e4,e6,e7,e8,e9,e26,e27,e28,e34,e43,e49,R,hC,hl3⟩ K114 hK114
 obtain ⟨m115',o118,rfl,hb,hl3⟩:=qax hl3
 unfold F.qfg at hb
 obtain ⟨rfl,Z,a0⟩:=(hC.ow (i:=4) rfl).qae
 refine Wc.seq fun _ hK119=>rg<|lp (.bool (decide (p<4))) (qbj (k:=.i64) (a:=p) (b:=4) e49 rfl)<|ln (hK119 _ _ ?_)
 refine Wc.seq fun _ hK120=>?_
 refine Wc.cond (t:=(decide (p<4))) (rfl) (fun hq121=>?_) (fun hq121=>?_)
 replace hb:=tt hq121 hb
 refine Wc.skip (hK120 _ _ ?_)
 refine Wc.seq fun _ hK122=>?_
 refine Wc.block<|Wc.seq fun _ hK123=>rg<|lp _ (qaa e49)<|lp (iv p) (qab rfl)<|ln (hK123 _ _ ?_)
 refine Wc.seq fun _ hK124=>rg<|lp (.pointer (some ((⟨g4,0,none⟩:Addr).add 1))) (qaf (sz:=1) underlying32 rfl sizeOf22 (by decide) rfl e1)<|lv (.slice j f.length l) (qal (hC.bx (i:=0) rfl) isAgg22 rfl rfl)<|lp _ (qaa e9) ?_
 obtain ⟨z125,h126,hb⟩:=bd hb
 refine lp (iv z125) (qfx (a:=4) (b:=x96) rfl rfl h126)<|lp (iv p) (qaa rfl) ?_
 obtain ⟨z127,h128,hb⟩:=bd hb
 refine lp (iv z127) (qau (a:=z125) (b:=p) rfl rfl h128) ?_
 obtain ⟨x129,h130,hb⟩:=bd hb
 obtain ⟨ad131,cs132,hA,hc133,hr134⟩:=hC.elr (i:=2) rfl (qad h130).2
 subst hA
 refine lp (.pointer (some (ad131.add (z127.toNat*1)))) (qar (a:=z127) underlying22 sizeOf3 rfl rfl (qad h130).1) ?_
 obtain ⟨rfl,hr134'⟩:=hr134
 refine lv (iv x129) (qaw isAgg3 rfl (hc133 0 _ rfl)) ?_
 obtain ⟨u135,h136,hb⟩:=bd hb
 obtain ⟨z137,h138,hb⟩:=bd hb
 refine lp (iv z137) (qfu (a:=x129) (b:=4) rfl rfl h136 h138)<|lp (iv z137) (qab rfl)<|ln (hK124 _ _ ?_)
 refine Wc.fresh fun E139 hE=>?_
 have e1:=cg hE 1 e1
 have e2:=cg hE 2 e2
 have e3:=cg hE 3 e3
 have e4:=cg hE 4 e4
 have e6:=cg hE 6 e6
 have e7:=cg hE 7 e7
 have e8:=cg hE 8 e8
 have e9:=cg hE 9 e9
 have e10:E139 10=iv p:=cg hE 10 rfl
 have e11:E139 11=iv z137:=cg hE 11 rfl
 have e26:=cg hE 26 e26
 have e27:=cg hE 27 e27
 have e28:=cg hE 28 e28
 have e34:=cg hE 34 e34
 have e43:=cg hE 43 e43
 have e49:=cg hE 49 e49
 have e50:E139 50=.bool (decide (p<4)):=cg hE 50 rfl
 clear hE
 refine Wc.seq fun _ hK140=>rg<|lp _ (qaa e4)<|lp _ (qaa e11) ?_
 obtain ⟨x141,h142,hb⟩:=bd hb
 obtain ⟨ad143,cs144,hA,hc145,hr146⟩:=hC.elo (i:=3) rfl (qad h142).2
 obtain rfl:=Option.some.inj hA
 refine lp (.pointer (some (ad61.add (z137.toNat*1)))) (qar (a:=z137) underlying22 sizeOf3 rfl rfl (by rw [(hC.ow (i:=3) rfl).qae.1]; exact (qad h142).1)) ?_
 obtain ⟨rfl,hr146'⟩:=hr146
 refine lv (iv x141) (qaw isAgg3 rfl (hc145 0 _ rfl))<|lp (.bool (decide (x141<0))) (qbj (k:=.i64) (a:=x141) (b:=0) rfl rfl)<|ln (hK140 _ _ ?_)
 refine Wc.cond (t:=(decide (x141<0))) (rfl) (fun hq147=>?_) (fun hq147=>?_)
 replace hb:=tt hq147 hb
 refine Wc.seq fun _ hK148=>rg<|lp _ (qaa e4)<|lp _ (qaa e11)<|lp _ (qaa e6) ?_
 obtain ⟨x149,h150,hb⟩:=bd hb
 obtain ⟨ad151,cs152,hA,hc153,hr154⟩:=hC.elo (i:=3) rfl (qad h150).2
 obtain rfl:=Option.some.inj hA
 refine lp (.pointer (some (ad61.add (z137.toNat*1)))) (qar (a:=z137) underlying22 sizeOf3 rfl rfl (by rw [(hC.ow (i:=3) rfl).qae.1]; exact (qad h150).1))<|lex.sk (hC.put (i:=3) rfl rfl sizeOf3 (k:=z137.toNat) (a:=o) (by have:=(qad h150).1; simp at this⊢; omega) (⟨rfl,I64.wr L⟩) rfl rfl rfl) ?_
 rintro w155 ⟨hC,hF⟩
 refine ln (hK148 _ _ ?_)
 refine rg<|lp _ (qaa e8)<|lp _ (qaa e11)<|lex.op (hC.lit (s:=si) (vs:=[iv z137]) (xs:=[z137]) underlying22 type3 rfl rfl (nb rfl) rfl rfl (by simp [Value.cells,Sh.n]) rfl (show Elems _ _ si ([iv z137]++([])) ([z137]:List Int) from Elems.cons (⟨rfl,I64.wr (qah h138)⟩) (Elems.nil _ _ _))) ?_
 rintro _ w160 ⟨A156,c157,rfl,hl158,hc159,hC,-,-⟩
 obtain ⟨u162,h163,hb⟩:=bd hb
 refine lex.op (hC.app (i:=5) (s:=si) (xs:=x) (ys:=([z137]:List Int)) (m:=((([z137]:List Int)).length)) rfl underlying22 underlying22 type3 rfl rfl rfl (hC.srco (i:=0) rfl) rfl rfl (by have:=qew h163; simp at this⊢ <;>omega) (by decide)) ?_
 rintro _ w168 ⟨A164,c165,rfl,hl166,hc167,hC,-,-⟩
 refine lp (.slice A164 ((x++([z137]:List Int)).length) c165) (qab rfl)<|ln (hK122 _ _ ?_)
 refine rg ?_
 obtain ⟨z169,h170,hb⟩:=bd hb
 refine lp (iv z169) (qau (a:=p) (b:=1) e49 rfl h170)<|lp (iv z169) (qaa rfl)<|ln ?_
 obtain rfl:=os hb
 exact hK114 m115' _ _ (Nat.lt_succ_self _) ⟨(x++([z137]:List Int)),z169,(y.set z137.toNat o),A164,(x++([z137]:List Int)).length,c165,e1,e2,e3,e4,e6,e7,rfl,e9,e26,e27,e28,e34,e43,rfl,(qah h170),hC.sE [1,2,3,4,5],lN hl3⟩
 replace hb:=tf hq147 hb
 refine Wc.skip (hK122 _ _ ?_)
 refine rg ?_
 obtain ⟨z171,h172,hb⟩:=bd hb
 refine lp (iv z171) (qau (a:=p) (b:=1) e49 rfl h172)<|lp (iv z171) (qaa rfl)<|ln ?_
 obtain rfl:=os hb
 exact hK114 m115' _ _ (Nat.lt_succ_self _) ⟨x,z171,y,G,x.length,H,e1,e2,e3,e4,e6,e7,e8,e9,e26,e27,e28,e34,e43,rfl,(qah h172),hC.sE [0,1,2,3,4],lN hl3⟩
 replace hb:=tf hq121 hb
 refine Wc.exit rfl ?_
 obtain rfl:=os hb
 obtain rfl:=(lX hl3).symm
 exact hK113 _ _ ⟨x,p,y,G,x.length,H,e1,e2,e3,e4,e6,e7,e8,e9,e26,e27,e28,e34,e43,e49,R,hC.sE [0,1,2,3,4],hbK3⟩
 clear hb hC hl3
 rintro E174 w173 ⟨x,p,y,G,N,H,e1,e2,e3,e4,e6,e7,e8,e9,e26,e27,e28,e34,e43,e49,R,hC,hb⟩
 obtain ⟨rfl,Z,a0⟩:=(hC.ow (i:=4) rfl).qae
 obtain rfl:=os hb
 exact hK87 m88' _ _ (Nat.lt_succ_self _) ⟨x,y,G,x.length,H,e1,e2,e3,e4,e6,e7,e8,e26,e27,e28,e34,hC.sE [0,1,2,3,4],lN hl2⟩
 replace hb:=tf hq94 hb
 refine Wc.exit rfl ?_
 obtain rfl:=os hb
 obtain rfl:=(lX hl2).symm
 exact hK86 _ _ ⟨u,C,J,u.length,K,e1,e2,e3,e4,e6,e7,e8,e26,e27,e28,e34,hC.sE [0,1,2,3,4],hbK2⟩
 clear hb hC hl2
 rintro E176 w175 ⟨u,C,J,M,K,e1,e2,e3,e4,e6,e7,e8,e26,e27,e28,e34,hC,hb⟩
 obtain ⟨rfl,X,Y⟩:=(hC.ow (i:=4) rfl).qae
 refine hK84 _ _<|rg<|lp _ (qaa e6) ?_
 obtain ⟨z177,h178,hb⟩:=bd hb
 refine lp (iv z177) (qau (a:=o) (b:=1) rfl rfl h178)<|lp (iv z177) (qab rfl)<|ln (hK55 _ _ ?_)
 refine rg ?_
 obtain ⟨z179,h180,hb⟩:=bd hb
 refine lp (iv z179) (qau (a:=d) (b:=1) e27 rfl h180)<|lp (iv z179) (qaa rfl)<|ln ?_
 obtain rfl:=os hb
 exact hK47 m48' _ _ (Nat.lt_succ_self _) ⟨z177,z179,C,e1,e2,e3,e4,rfl,e26,rfl,(qah h178),(qah h180),hC.sE [0,1,2,3],lN hl1⟩
 replace hb:=tf hq54 hb
 refine Wc.exit rfl ?_
 obtain rfl:=os hb
 obtain rfl:=(lX hl1).symm
 exact hK46 _ _ ⟨o,d,B,e2,e3,e4,e6,L,P,hC.sE [3],hbK1⟩
 clear hb hC hl1
 rintro E182 w181 ⟨o,d,B,e2,e3,e4,e6,L,P,hC,hb⟩
 subst hf45
 refine hK43 _ _<|Wc.seq fun _ hK183=>rg<|lp _ (qaa e4)<|lp _ (qaa e6)<|lp (.slice A10 (((rZ c.length)).length) c11) (qab rfl)<|lp (iv o) (qab rfl)<|ln (hK183 _ _ ?_)
 obtain rfl:=os hb
 refine Wc.ret (hKR _ _ ?_)
 refine ⟨_,res2 results43 (tV (.slice A10 (((rZ c.length)).length) c11) rfl) (tV (iv o) rfl),_,rfl,A10,((rZ c.length)).length,c11,rfl,L,hC.sE [0]⟩

theorem qhj (n:Nat) {w:World} {O0:List Nat} (hO: ∀k∈O0,k<w.heap.size) {c:Int} (g:I64 c) {d:Int} (f:I64 d) {r:Int} (hb:F.qdc n c d=some r):
    Calls prog 33 #[iv c,iv d] w fun e w'=> ∃v,e=.returned v∧v=iv r∧I64 r∧Cx (fun _=>False) O0 w w' []:=by
 unfold F.qdc at hb
 have hC:=Cx.start hO
 clear hO
 refine qao func33 rfl (by rw [ntmps33]; exact nb rfl) fun KR hKR=>?_
 refine Wc.seq fun _ hK1=>rg<|lp (iv 0) (qab rfl)<|ln (hK1 _ _ ?_)
 refine Wc.seq fun _ hK2=>?_
 refine Wc.seq fun _ hK3=>rg<|lp (iv c) (qaa rfl)<|lp (.bool (decide (c<0))) (qbj (k:=.i64) (a:=c) (b:=0) rfl rfl)<|ln (hK3 _ _ ?_)
 refine Wc.cond (t:=(decide (c<0))) (rfl) (fun hq4=>?_) (fun hq4=>?_)
 replace hb:=tt hq4 hb
 refine Wc.seq fun _ hK5=>rg<|lp (iv (-1)) (qab rfl)<|ln (hK5 _ _ ?_)
 obtain rfl:=os hb
 refine Wc.ret (hKR _ _ ?_)
 refine ⟨_,res1 results33 (tV (iv (-1)) rfl),_,rfl,rfl,(show I64 (-1) from by unfold I64; omega),hC.sE []⟩
 replace hb:=tf hq4 hb
 refine Wc.skip (hK2 _ _ ?_)
 refine Wc.seq fun _ hK6=>rg<|lp (iv c) (qaa rfl)<|lp (iv c) (qaa rfl) ?_
 obtain ⟨u7,h8,hb⟩:=bd hb
 refine lp (iv (Int.tmod c 4)) (pu_remc (a:=c) (b:=4) rfl rfl h8) ?_
 obtain ⟨z9,h10,hb⟩:=bd hb
 refine lp (iv z9) (pu_subc (a:=c) (b:=(Int.tmod c 4)) rfl rfl h10)<|lp (iv c) (qaa rfl) ?_
 obtain ⟨u11,h12,hb⟩:=bd hb
 refine lp (iv (Int.tmod c 4)) (pu_remc (a:=c) (b:=4) rfl rfl h12)<|lp (iv d) (qaa rfl) ?_
 obtain ⟨u13,h14,hb⟩:=bd hb
 refine lp (iv (Int.tmod d 4)) (pu_remc (a:=d) (b:=4) rfl rfl h14) ?_
 obtain ⟨z15,h16,hb⟩:=bd hb
 refine lp (iv z15) (qau (a:=(Int.tmod c 4)) (b:=(Int.tmod d 4)) rfl rfl h16) ?_
 obtain ⟨z17,h18,hb⟩:=bd hb
 refine lp (iv z17) (qau (a:=z15) (b:=4) rfl rfl h18) ?_
 obtain ⟨u19,h20,hb⟩:=bd hb
 refine lp (iv (Int.tmod z17 4)) (pu_remc (a:=z17) (b:=4) rfl rfl h20) ?_
 obtain ⟨z21,h22,hb⟩:=bd hb
 refine lp (iv z21) (qau (a:=z9) (b:=(Int.tmod z17 4)) rfl rfl h22)<|lp (iv z21) (qab rfl)<|ln (hK6 _ _ ?_)
 obtain rfl:=os hb
 refine Wc.ret (hKR _ _ ?_)
 refine ⟨_,res1 results33 (tV (iv z21) rfl),_,rfl,rfl,(qah h22),hC.sE []⟩

theorem diagram_spherical_ok (n:Nat) {w:World} {O0:List Nat} (hO: ∀k∈O0,k<w.heap.size) {j:Option Addr} {K l:Nat} {h:List Int} (L:Rep O0 w (.sl si) [.slice j K l] h) {f:Option Addr} {M g:Nat} {c:List Int} (N:Rep O0 w (.sl si) [.slice f M g] c) {B:Int} (P:I64 B) {r:Bool} (hb:F.qdv n h c B=some r):
    Calls prog 28 #[.agg #[.slice j K l,.slice f M g,iv B]] w fun e w'=> ∃v,e=.returned v∧v=.bool r∧Cx (fun _=>False) O0 w w' []:=by
 unfold F.qdv at hb
 have hC:=Cx.start hO
 replace hC:=hC.arg rfl L
 replace hC:=hC.arg rfl N
 clear hO
 obtain ⟨rfl,Q,R⟩:=L.qae
 obtain ⟨rfl,S,T⟩:=N.qae
 refine qao func28 rfl (by rw [ntmps28]; exact nb rfl) fun KR hKR=>?_
 refine Wc.seq fun _ hK3=>rg<|lex.op (hC.box (cs:=[.slice j h.length l,.slice f c.length g,iv B]) rfl rfl) ?_
 rintro _ w5 ⟨g4,rfl,hC,hF,-⟩
 refine lp (.bool false) (qab rfl)<|ln (hK3 _ _ ?_)
 refine Wc.seq fun _ hK7=>rg<|lv (.agg #[.slice j h.length l,.slice f c.length g,iv B]) (qaq (hC.bx (i:=0) rfl) isAgg32 sizeOf32 rfl) ?_
 obtain ⟨y8,h9,hb⟩:=bd hb
 refine lex.cl (⟨_,_,qam (vs:=[.agg #[.slice j h.length l,.slice f c.length g,iv B]]) call43 rfl rfl rfl,diagram_label_ok n hC.lt (hC.rd (i:=2) rfl) (hC.rd (i:=1) rfl) P h9⟩) ?_
 rintro _ w15 ⟨A10,m11,c12,rfl,hr14,hK⟩
 replace hC:=hC.merge hK
 clear hK
 obtain ⟨rfl,hl16,hc17⟩:=(hC.ow (i:=0) rfl).qae
 refine lp (.tuple #[.slice A10 y8.1.length c12,iv y8.2]) (qaa rfl)<|lp (.slice A10 y8.1.length c12) (qav rfl rfl)<|lp (iv y8.2) (qav rfl rfl)<|lp (.slice A10 y8.1.length c12) (qab rfl)<|lp (iv y8.2) (qab rfl)<|ln (hK7 _ _ ?_)
 refine Wc.seq fun _ hK18=>rg<|lp (iv y8.2) (qaa rfl) ?_
 obtain ⟨u19,h20,hb⟩:=bd hb
 refine lex.op (hC.make (s:=si) (n:=y8.2) underlying22 type3 rfl rfl rfl rfl rfl (qaj h20).1 (qaj h20).2 (by decide)) ?_
 rintro _ w25 ⟨A21,c22,rfl,hl23,hc24,hC,-,-⟩
 refine lp (.slice A21 (((List.replicate y8.2.toNat (0:Int))).length) c22) (qab rfl)<|ln (hK18 _ _ ?_)
 refine Wc.fresh fun E27 hE=>?_
 have e1:E27 1=pg g4:=cg hE 1 rfl
 have e2:E27 2=.bool false:=cg hE 2 rfl
 have e3:E27 3=.slice A10 y8.1.length c12:=cg hE 3 rfl
 have e5:E27 5=.slice A21 (((List.replicate y8.2.toNat (0:Int))).length) c22:=cg hE 5 rfl
 clear hE
 refine Wc.seq fun _ hK28=>?_
 refine Wc.seq fun _ hK29=>rg<|lp _ (qaa e3)<|lp (iv (y8.1.length:Int)) (qay (A:=A10) (n:=y8.1.length) (m:=c12) underlying22 rfl)<|lp (iv 0) (qaa rfl)<|ln (hK29 _ _ ?_)
 obtain ⟨o30,hl0,f30,hf30,hb⟩:=bn hb
 refine Wc.cut (fun E wv=> ∃(u:Int) (x:List Int),E 1=pg g4∧E 2=.bool false∧E 3=.slice A10 y8.1.length c12∧E 5=.slice A21 (((List.replicate y8.2.toNat (0:Int))).length) c22∧I64 u∧Cx (fun _=>False) O0 w wv [.box g4 32 [.slice j h.length l,.slice f c.length g,iv B],.ro (.sl si) [.slice j h.length l] h,.ro (.sl si) [.slice f c.length g] c,.own 3 si (.slice A10 y8.1.length c12) y8.1,.own 3 si (.slice A21 (((List.replicate y8.2.toNat (0:Int))).length) c22) x]∧f30 (u,x)=some r) (fun _ hK31=>?_) ?_
 refine Wc.block ?_
 refine Wc.loop (fun m E wv=> ∃(u:Int) (x:List Int),E 1=pg g4∧E 2=.bool false∧E 3=.slice A10 y8.1.length c12∧E 5=.slice A21 (((List.replicate y8.2.toNat (0:Int))).length) c22∧E 20=.slice A10 y8.1.length c12∧E 21=iv (y8.1.length:Int)∧E 22=iv u∧I64 u∧Cx (fun _=>False) O0 w wv [.box g4 32 [.slice j h.length l,.slice f c.length g,iv B],.ro (.sl si) [.slice j h.length l] h,.ro (.sl si) [.slice f c.length g] c,.own 3 si (.slice A10 y8.1.length c12) y8.1,.own 3 si (.slice A21 (((List.replicate y8.2.toNat (0:Int))).length) c22) x]∧loopN m (F.qds n y8) (u,x)=some o30) n ⟨0,(List.replicate y8.2.toNat (0:Int)),e1,e2,e3,e5,rfl,rfl,rfl,(show I64 0 from by unfold I64; omega),hC.sE [2,4,3,1,0],hl0⟩ ?_
 have hbK0:=hb
 clear hb hC hl0
 rintro m33 E35 w34 ⟨u,x,e1,e2,e3,e5,e20,e21,e22,G,hC,hl0⟩ K32 hK32
 obtain ⟨m33',o36,rfl,hb,hl0⟩:=qax hl0
 unfold F.qds at hb
 refine Wc.seq fun _ hK37=>rg<|lp _ (qbj e22 e21)<|ln (hK37 _ _ ?_)
 refine Wc.seq fun _ hK38=>?_
 refine Wc.cond (t:=(decide (u<(y8.1.length:Int)))) (rfl) (fun hq39=>?_) (fun hq39=>?_)
 replace hb:=tt hq39 hb
 refine Wc.skip (hK38 _ _ ?_)
 refine Wc.seq fun _ hK40=>?_
 refine Wc.block<|Wc.seq fun _ hK41=>rg ?_
 obtain ⟨x42,h43,hb⟩:=bd hb
 obtain ⟨ad44,cs45,hA,hc46,hr47⟩:=hC.elo (i:=3) rfl (qad h43).2
 subst hA
 refine lp (.pointer (some (ad44.add (u.toNat*1)))) (qar (a:=u) underlying22 sizeOf3 e20 e22 (qad h43).1) ?_
 obtain ⟨rfl,hr47'⟩:=hr47
 refine lv (iv x42) (qaw isAgg3 rfl (hc46 0 _ rfl))<|lp (iv x42) (qab rfl)<|ln (hK41 _ _ ?_)
 refine rg<|lp _ (qaa e5)<|lp (iv x42) (qaa rfl) ?_
 obtain ⟨x48,h49,hb⟩:=bd hb
 obtain ⟨ad50,cs51,hA,hc52,hr53⟩:=hC.elo (i:=4) rfl (qad h49).2
 subst hA
 refine lp (.pointer (some (ad50.add (x42.toNat*1)))) (qar (a:=x42) underlying22 sizeOf3 rfl rfl (by rw [(hC.ow (i:=4) rfl).qae.1]; exact (qad h49).1)) ?_
 obtain ⟨rfl,hr53'⟩:=hr53
 refine lv (iv x48) (qaw isAgg3 rfl (hc52 0 _ rfl)) ?_
 obtain ⟨z54,h55,hb⟩:=bd hb
 refine lp (iv z54) (pu_subc (a:=x48) (b:=1) rfl rfl h55) ?_
 obtain ⟨x56,h57,hb⟩:=bd hb
 obtain ⟨ad58,cs59,hA,hc60,hr61⟩:=hC.elo (i:=4) rfl (qad h57).2
 obtain rfl:=Option.some.inj hA
 refine lp (.pointer (some (ad50.add (x42.toNat*1)))) (qar (a:=x42) underlying22 sizeOf3 rfl rfl (by rw [(hC.ow (i:=4) rfl).qae.1]; exact (qad h57).1))<|lex.sk (hC.put (i:=4) rfl rfl sizeOf3 (k:=x42.toNat) (a:=z54) (by have:=(qad h57).1; simp at this⊢; omega) (⟨rfl,I64.wr (qah h55)⟩) rfl rfl rfl) ?_
 rintro w62 ⟨hC,hF⟩
 refine ln (hK40 _ _ ?_)
 refine rg ?_
 obtain ⟨z63,h64,hb⟩:=bd hb
 refine lp (iv z63) (qau (a:=u) (b:=1) e22 rfl h64)<|lp (iv z63) (qaa rfl)<|ln ?_
 obtain rfl:=os hb
 exact hK32 m33' _ _ (Nat.lt_succ_self _) ⟨z63,(x.set x42.toNat z54),e1,e2,e3,e5,e20,e21,rfl,(qah h64),hC.sE [0,1,2,3,4],lN hl0⟩
 replace hb:=tf hq39 hb
 refine Wc.exit rfl ?_
 obtain rfl:=os hb
 obtain rfl:=(lX hl0).symm
 exact hK31 _ _ ⟨u,x,e1,e2,e3,e5,G,hC.sE [0,1,2,3,4],hbK0⟩
 clear hb hC hl0
 rintro E66 w65 ⟨u,x,e1,e2,e3,e5,G,hC,hb⟩
 subst hf30
 refine hK28 _ _<|Wc.seq fun _ hK67=>rg<|lp (.pointer (some ((⟨g4,0,none⟩:Addr).add 1))) (qaf (sz:=1) underlying32 rfl sizeOf22 (by decide) rfl e1)<|lv (.slice f c.length g) (qal (hC.bx (i:=0) rfl) isAgg22 rfl rfl)<|lp (iv (c.length:Int)) (qay (A:=f) (n:=c.length) (m:=g) underlying22 rfl) ?_
 obtain ⟨u68,h69,hb⟩:=bd hb
 refine lex.op (hC.make (s:=.bool) (n:=(c.length:Int)) underlying80 type4 rfl rfl rfl rfl rfl (qaj h69).1 (qaj h69).2 (by decide)) ?_
 rintro _ w74 ⟨A70,c71,rfl,hl72,hc73,hC,-,-⟩
 refine lp (.slice A70 (((List.replicate (c.length:Int).toNat false)).length) c71) (qab rfl)<|ln (hK67 _ _ ?_)
 refine Wc.seq fun _ hK76=>?_
 refine Wc.seq fun _ hK77=>rg<|lp (.pointer (some ((⟨g4,0,none⟩:Addr).add 1))) (qaf (sz:=1) underlying32 rfl sizeOf22 (by decide) rfl e1)<|lv (.slice f c.length g) (qal (hC.bx (i:=1) rfl) isAgg22 rfl rfl)<|lp (iv (c.length:Int)) (qay (A:=f) (n:=c.length) (m:=g) underlying22 rfl)<|lp (iv 0) (qaa rfl)<|ln (hK77 _ _ ?_)
 obtain ⟨o78,hl1,f78,hf78,hb⟩:=bn hb
 refine Wc.cut (fun E wv=> ∃(d:Int) (o:List Int) (C:List Bool),E 2=.bool false∧E 5=.slice A21 (((List.replicate y8.2.toNat (0:Int))).length) c22∧I64 d∧Cx (fun _=>False) O0 w wv [.own 3 si (.slice A21 (((List.replicate y8.2.toNat (0:Int))).length) c22) o]∧f78 (d,o,C)=some r) (fun _ hK79=>?_) ?_
 refine Wc.block ?_
 refine Wc.loop (fun m E wv=> ∃(d:Int) (o:List Int) (C:List Bool),E 1=pg g4∧E 2=.bool false∧E 3=.slice A10 y8.1.length c12∧E 5=.slice A21 (((List.replicate y8.2.toNat (0:Int))).length) c22∧E 8=.slice A70 (((List.replicate (c.length:Int).toNat false)).length) c71∧E 39=iv (c.length:Int)∧E 40=iv d∧I64 d∧Cx (fun _=>False) O0 w wv [.box g4 32 [.slice j h.length l,.slice f c.length g,iv B],.ro (.sl si) [.slice j h.length l] h,.ro (.sl si) [.slice f c.length g] c,.own 3 si (.slice A10 y8.1.length c12) y8.1,.own 3 si (.slice A21 (((List.replicate y8.2.toNat (0:Int))).length) c22) o,.own 4 .bool (.slice A70 (((List.replicate (c.length:Int).toNat false)).length) c71) C]∧loopN m (F.qdt n c y8) (d,o,C)=some o78) n ⟨0,x,(List.replicate (c.length:Int).toNat false),e1,e2,e3,e5,rfl,rfl,rfl,(show I64 0 from by unfold I64; omega),hC.sE [1,2,3,4,5,0],hl1⟩ ?_
 have hbK1:=hb
 clear hb hC hl1
 rintro m81 E83 w82 ⟨d,o,C,e1,e2,e3,e5,e8,e39,e40,D,hC,hl1⟩ K80 hK80
 obtain ⟨m81',o84,rfl,hb,hl1⟩:=qax hl1
 unfold F.qdt at hb
 refine Wc.seq fun _ hK85=>rg<|lp _ (qbj e40 e39)<|ln (hK85 _ _ ?_)
 refine Wc.seq fun _ hK86=>?_
 refine Wc.cond (t:=(decide (d<(c.length:Int)))) (rfl) (fun hq87=>?_) (fun hq87=>?_)
 replace hb:=tt hq87 hb
 refine Wc.skip (hK86 _ _ ?_)
 refine Wc.seq fun _ hK88=>?_
 refine Wc.block<|Wc.seq fun _ hK89=>rg<|lp _ (qaa e40)<|lp (iv d) (qab rfl)<|ln (hK89 _ _ ?_)
 refine Wc.seq fun _ hK90=>?_
 refine Wc.seq fun _ hK91=>rg<|lp _ (qaa e8)<|lp (iv d) (qaa rfl) ?_
 obtain ⟨x92,h93,hb⟩:=bd hb
 obtain ⟨ad94,cs95,hA,hc96,hr97⟩:=hC.elo (i:=5) rfl (qad h93).2
 subst hA
 refine lp (.pointer (some (ad94.add (d.toNat*1)))) (qar (a:=d) underlying80 sizeOf4 rfl rfl (by rw [(hC.ow (i:=5) rfl).qae.1]; exact (qad h93).1)) ?_
 obtain rfl:=(show _=_ from hr97)
 refine lv (.bool x92) (qaw isAgg4 rfl (hc96 0 _ rfl))<|ln (hK91 _ _ ?_)
 refine Wc.cond (t:=x92) (rfl) (fun hq98=>?_) (fun hq98=>?_)
 replace hb:=tt hq98 hb
 refine Wc.exit rfl ?_
 refine hK88 _ _<|rg ?_
 obtain ⟨z99,h100,hb⟩:=bd hb
 refine lp (iv z99) (qau (a:=d) (b:=1) e40 rfl h100)<|lp (iv z99) (qaa rfl)<|ln ?_
 obtain rfl:=os hb
 exact hK80 m81' _ _ (Nat.lt_succ_self _) ⟨z99,o,C,e1,e2,e3,e5,e8,e39,rfl,(qah h100),hC.sE [0,1,2,3,4,5],lN hl1⟩
 replace hb:=tf hq98 hb
 refine Wc.skip (hK90 _ _ ?_)
 refine Wc.seq fun _ hK101=>rg<|lp _ (qaa e5)<|lp _ (qaa e3)<|lp (iv d) (qaa rfl) ?_
 obtain ⟨u102,h103,hb⟩:=bd hb
 obtain ⟨z104,h105,hb⟩:=bd hb
 refine lp (iv z104) (qfu (a:=d) (b:=4) rfl rfl h103 h105) ?_
 obtain ⟨x106,h107,hb⟩:=bd hb
 obtain ⟨ad108,cs109,hA,hc110,hr111⟩:=hC.elo (i:=3) rfl (qad h107).2
 subst hA
 refine lp (.pointer (some (ad108.add (z104.toNat*1)))) (qar (a:=z104) underlying22 sizeOf3 rfl rfl (qad h107).1) ?_
 obtain ⟨rfl,hr111'⟩:=hr111
 refine lv (iv x106) (qaw isAgg3 rfl (hc110 0 _ rfl)) ?_
 obtain ⟨x112,h113,hb⟩:=bd hb
 obtain ⟨ad114,cs115,hA,hc116,hr117⟩:=hC.elo (i:=4) rfl (qad h113).2
 subst hA
 refine lp (.pointer (some (ad114.add (x106.toNat*1)))) (qar (a:=x106) underlying22 sizeOf3 rfl rfl (by rw [(hC.ow (i:=4) rfl).qae.1]; exact (qad h113).1)) ?_
 obtain ⟨rfl,hr117'⟩:=hr117
 refine lv (iv x112) (qaw isAgg3 rfl (hc116 0 _ rfl)) ?_
 obtain ⟨z118,h119,hb⟩:=bd hb
 refine lp (iv z118) (qau (a:=x112) (b:=1) rfl rfl h119) ?_
 obtain ⟨x120,h121,hb⟩:=bd hb
 obtain ⟨ad122,cs123,hA,hc124,hr125⟩:=hC.elo (i:=4) rfl (qad h121).2
 obtain rfl:=Option.some.inj hA
 refine lp (.pointer (some (ad114.add (x106.toNat*1)))) (qar (a:=x106) underlying22 sizeOf3 rfl rfl (by rw [(hC.ow (i:=4) rfl).qae.1]; exact (qad h121).1))<|lex.sk (hC.put (i:=4) rfl rfl sizeOf3 (k:=x106.toNat) (a:=z118) (by have:=(qad h121).1; simp at this⊢; omega) (⟨rfl,I64.wr (qah h119)⟩) rfl rfl rfl) ?_
 rintro w126 ⟨hC,hF⟩
 refine ln (hK101 _ _ ?_)
 refine Wc.fresh fun E127 hE=>?_
 have e1:=cg hE 1 e1
 have e2:=cg hE 2 e2
 have e3:=cg hE 3 e3
 have e5:=cg hE 5 e5
 have e8:=cg hE 8 e8
 have e9:E127 9=iv d:=cg hE 9 rfl
 have e39:=cg hE 39 e39
 have e40:=cg hE 40 e40
 have e41:E127 41=.bool (decide (d<(c.length:Int))):=cg hE 41 rfl
 have e46:E127 46=.bool x92:=cg hE 46 rfl
 clear hE
 refine Wc.seq fun _ hK128=>rg<|lp _ (qaa e9)<|lp (iv d) (qab rfl)<|ln (hK128 _ _ ?_)
 obtain ⟨o129,hl2,hb⟩:=bd hb
 refine Wc.cut (fun E wv=> ∃(p:Int) (y:List Bool),E 1=pg g4∧E 2=.bool false∧E 3=.slice (some ad108) y8.1.length c12∧E 5=.slice (some ad114) (((List.replicate y8.2.toNat (0:Int))).length) c22∧E 8=.slice (some ad94) (((List.replicate (c.length:Int).toNat false)).length) c71∧E 9=iv d∧E 10=iv p∧E 39=iv (c.length:Int)∧E 40=iv d∧E 41=.bool (decide (d<(c.length:Int)))∧E 46=.bool x92∧I64 p∧Cx (fun _=>False) O0 w wv [.box g4 32 [.slice j h.length l,.slice f c.length g,iv B],.ro (.sl si) [.slice j h.length l] h,.ro (.sl si) [.slice f c.length g] c,.own 3 si (.slice (some ad108) y8.1.length c12) y8.1,.own 3 si (.slice (some ad114) (((List.replicate y8.2.toNat (0:Int))).length) c22) (o.set x106.toNat z118),.own 4 .bool (.slice (some ad94) (((List.replicate (c.length:Int).toNat false)).length) c71) y]∧((chk (d+1)).bind fun z165=>some (.inl (z165,(o.set x106.toNat z118),y)):Option ((Int×(List Int)×(List Bool))⊕((Int×(List Int)×(List Bool)))))=some o84) (fun _ hK130=>?_) ?_
 refine Wc.block ?_
 refine Wc.loop (fun m E wv=> ∃(p:Int) (y:List Bool),E 1=pg g4∧E 2=.bool false∧E 3=.slice (some ad108) y8.1.length c12∧E 5=.slice (some ad114) (((List.replicate y8.2.toNat (0:Int))).length) c22∧E 8=.slice (some ad94) (((List.replicate (c.length:Int).toNat false)).length) c71∧E 9=iv d∧E 10=iv p∧E 39=iv (c.length:Int)∧E 40=iv d∧E 41=.bool (decide (d<(c.length:Int)))∧E 46=.bool x92∧I64 p∧Cx (fun _=>False) O0 w wv [.box g4 32 [.slice j h.length l,.slice f c.length g,iv B],.ro (.sl si) [.slice j h.length l] h,.ro (.sl si) [.slice f c.length g] c,.own 3 si (.slice (some ad108) y8.1.length c12) y8.1,.own 3 si (.slice (some ad114) (((List.replicate y8.2.toNat (0:Int))).length) c22) (o.set x106.toNat z118),.own 4 .bool (.slice (some ad94) (((List.replicate (c.length:Int).toNat false)).length) c71) y]∧loopN m (F.qdr n c) (p,y)=some o129) n ⟨d,C,e1,e2,e3,e5,e8,e9,rfl,e39,e40,e41,e46,D,hC.sE [0,1,2,3,4,5],hl2⟩ ?_
 have hbK2:=hb
 clear hb hC hl2
 rintro m132 E134 w133 ⟨p,y,e1,e2,e3,e5,e8,e9,e10,e39,e40,e41,e46,H,hC,hl2⟩ K131 hK131
 obtain ⟨m132',o135,rfl,hb,hl2⟩:=qax hl2
 unfold F.qdr at hb
 refine Wc.seq fun _ hK136=>?_
 refine Wc.seq fun _ hK137=>rg<|lp _ (qaa e8)<|lp _ (qaa e10) ?_
 obtain ⟨x138,h139,hb⟩:=bd hb
 obtain ⟨ad140,cs141,hA,hc142,hr143⟩:=hC.elo (i:=5) rfl (qad h139).2
 obtain rfl:=Option.some.inj hA
 refine lp (.pointer (some (ad94.add (p.toNat*1)))) (qar (a:=p) underlying80 sizeOf4 rfl rfl (by rw [(hC.ow (i:=5) rfl).qae.1]; exact (qad h139).1)) ?_
 obtain rfl:=(show _=_ from hr143)
 refine lv (.bool x138) (qaw isAgg4 rfl (hc142 0 _ rfl))<|lp (.bool (!x138)) (qbt (q:=x138) rfl)<|ln (hK137 _ _ ?_)
 refine Wc.cond (t:=(!x138)) (rfl) (fun hq144=>?_) (fun hq144=>?_)
 replace hb:=tt hq144 hb
 refine Wc.skip (hK136 _ _ ?_)
 refine Wc.seq fun _ hK145=>?_
 refine Wc.block<|rg<|lp _ (qaa e8)<|lp _ (qaa e10) ?_
 obtain ⟨x146,h147,hb⟩:=bd hb
 obtain ⟨ad148,cs149,hA,hc150,hr151⟩:=hC.elo (i:=5) rfl (qad h147).2
 obtain rfl:=Option.some.inj hA
 refine lp (.pointer (some (ad94.add (p.toNat*1)))) (qar (a:=p) underlying80 sizeOf4 rfl rfl (by rw [(hC.ow (i:=5) rfl).qae.1]; exact (qad h147).1))<|lex.sk (hC.put (i:=5) rfl rfl sizeOf4 (k:=p.toNat) (a:=true) (by have:=(qad h147).1; simp at this⊢; omega) (show Rep _ _ .bool _ _ from rfl) rfl rfl rfl) ?_
 rintro w152 ⟨hC,hF⟩
 refine ln (hK145 _ _ ?_)
 refine rg<|lp (.pointer (some ((⟨g4,0,none⟩:Addr).add 1))) (qaf (sz:=1) underlying32 rfl sizeOf22 (by decide) rfl e1)<|lv (.slice f c.length g) (qal (hC.bx (i:=0) rfl) isAgg22 rfl rfl)<|lp _ (qaa e10) ?_
 obtain ⟨x153,h154,hb⟩:=bd hb
 obtain ⟨ad155,cs156,hA,hc157,hr158⟩:=hC.elr (i:=2) rfl (qad h154).2
 subst hA
 refine lp (.pointer (some (ad155.add (p.toNat*1)))) (qar (a:=p) underlying22 sizeOf3 rfl rfl (qad h154).1) ?_
 obtain ⟨rfl,hr158'⟩:=hr158
 refine lv (iv x153) (qaw isAgg3 rfl (hc157 0 _ rfl)) ?_
 obtain ⟨y159,h160,hb⟩:=bd hb
 refine lex.cl (⟨_,_,qam (vs:=[iv x153,iv (-1)]) call33 rfl rfl rfl,qhj n hC.lt (qbi hr158') (show I64 (-1) from by unfold I64; omega) h160⟩) ?_
 rintro _ w162 ⟨rfl,hr161,hK⟩
 replace hC:=hC.merge hK
 clear hK
 refine lp (iv y159) (qab rfl)<|ln ?_
 obtain rfl:=os hb
 exact hK131 m132' _ _ (Nat.lt_succ_self _) ⟨y159,(y.set p.toNat true),e1,e2,e3,e5,e8,e9,rfl,e39,e40,e41,e46,hr161,hC.sE [0,1,2,3,4,5],lN hl2⟩
 replace hb:=tf hq144 hb
 refine Wc.exit rfl ?_
 obtain rfl:=os hb
 obtain rfl:=(lX hl2).symm
 exact hK130 _ _ ⟨p,y,e1,e2,e3,e5,e8,e9,e10,e39,e40,e41,e46,H,hC.sE [0,1,2,3,4,5],hbK2⟩
 clear hb hC hl2
 rintro E164 w163 ⟨p,y,e1,e2,e3,e5,e8,e9,e10,e39,e40,e41,e46,H,hC,hb⟩
 refine hK88 _ _<|rg ?_
 obtain ⟨z165,h166,hb⟩:=bd hb
 refine lp (iv z165) (qau (a:=d) (b:=1) e40 rfl h166)<|lp (iv z165) (qaa rfl)<|ln ?_
 obtain rfl:=os hb
 exact hK80 m81' _ _ (Nat.lt_succ_self _) ⟨z165,(o.set x106.toNat z118),y,e1,e2,e3,e5,e8,e39,rfl,(qah h166),hC.sE [0,1,2,3,4,5],lN hl1⟩
 replace hb:=tf hq87 hb
 refine Wc.exit rfl ?_
 obtain rfl:=os hb
 obtain rfl:=(lX hl1).symm
 exact hK79 _ _ ⟨d,o,C,e2,e5,D,hC.sE [4],hbK1⟩
 clear hb hC hl1
 rintro E168 w167 ⟨d,o,C,e2,e5,D,hC,hb⟩
 subst hf78
 refine hK76 _ _ ?_
 refine Wc.seq fun _ hK169=>?_
 refine Wc.seq fun _ hK170=>rg<|lp _ (qaa e5)<|lp (iv (((List.replicate y8.2.toNat (0:Int))).length:Int)) (qay (A:=A21) (n:=((List.replicate y8.2.toNat (0:Int))).length) (m:=c22) underlying22 rfl)<|lp (iv 0) (qaa rfl)<|ln (hK170 _ _ ?_)
 obtain ⟨o171,hl3,hb⟩:=bd hb
 refine Wc.cut (fun E wv=> ∃(z:Int),E 2=.bool false∧I64 z∧Cx (fun _=>False) O0 w wv []∧(some true:Option (Bool))=some r) (fun _ hK172=>?_) ?_
 refine Wc.block ?_
 refine Wc.loop (fun m E wv=> ∃(z:Int),E 2=.bool false∧E 73=.slice A21 (((List.replicate y8.2.toNat (0:Int))).length) c22∧E 74=iv (((List.replicate y8.2.toNat (0:Int))).length:Int)∧E 75=iv z∧I64 z∧Cx (fun _=>False) O0 w wv [.own 3 si (.slice A21 (((List.replicate y8.2.toNat (0:Int))).length) c22) o]∧loopN m (F.qdu n y8 o) z=some o171) n ⟨0,e2,rfl,rfl,rfl,(show I64 0 from by unfold I64; omega),hC.sE [0],hl3⟩ ?_
 have hbK3:=hb
 clear hb hC hl3
 rintro m174 E176 w175 ⟨z,e2,e73,e74,e75,J,hC,hl3⟩ K173 hK173
 obtain ⟨m174',o177,rfl,hb,hl3⟩:=qax hl3
 unfold F.qdu at hb
 refine Wc.seq fun _ hK178=>rg<|lp _ (qbj e75 e74)<|ln (hK178 _ _ ?_)
 refine Wc.seq fun _ hK179=>?_
 refine Wc.cond (t:=(decide (z<(((List.replicate y8.2.toNat (0:Int))).length:Int)))) (rfl) (fun hq180=>?_) (fun hq180=>?_)
 replace hb:=tt hq180 hb
 refine Wc.skip (hK179 _ _ ?_)
 refine Wc.seq fun _ hK181=>?_
 refine Wc.block<|Wc.seq fun _ hK182=>rg ?_
 obtain ⟨x183,h184,hb⟩:=bd hb
 obtain ⟨ad185,cs186,hA,hc187,hr188⟩:=hC.elo (i:=0) rfl (qad h184).2
 subst hA
 refine lp (.pointer (some (ad185.add (z.toNat*1)))) (qar (a:=z) underlying22 sizeOf3 e73 e75 (by rw [(hC.ow (i:=0) rfl).qae.1]; exact (qad h184).1)) ?_
 obtain ⟨rfl,hr188'⟩:=hr188
 refine lv (iv x183) (qaw isAgg3 rfl (hc187 0 _ rfl))<|lp (iv x183) (qab rfl)<|ln (hK182 _ _ ?_)
 refine Wc.seq fun _ hK189=>rg<|lp (iv x183) (qaa rfl)<|lp (.bool (!(decide (x183=2)))) (pu_neq (k:=.i64) (a:=x183) (b:=2) rfl rfl)<|ln (hK189 _ _ ?_)
 refine Wc.cond (t:=(!(decide (x183=2)))) (rfl) (fun hq190=>?_) (fun hq190=>?_)
 replace hb:=tt hq190 hb
 refine Wc.seq fun _ hK191=>rg<|lp (.bool false) (qab rfl)<|ln (hK191 _ _ ?_)
 obtain rfl:=os hb
 obtain rfl:=(lX hl3).symm
 replace hb:=hbK3
 obtain rfl:=os hb
 refine Wc.ret (hKR _ _ ?_)
 refine ⟨_,res1 results28 (tV (.bool false) rfl),_,rfl,rfl,hC.sE []⟩
 replace hb:=tf hq190 hb
 refine Wc.skip (hK181 _ _ ?_)
 refine rg ?_
 obtain ⟨z192,h193,hb⟩:=bd hb
 refine lp (iv z192) (qau (a:=z) (b:=1) e75 rfl h193)<|lp (iv z192) (qaa rfl)<|ln ?_
 obtain rfl:=os hb
 exact hK173 m174' _ _ (Nat.lt_succ_self _) ⟨z192,e2,e73,e74,rfl,(qah h193),hC.sE [0],lN hl3⟩
 replace hb:=tf hq180 hb
 refine Wc.exit rfl ?_
 obtain rfl:=os hb
 obtain rfl:=(lX hl3).symm
 exact hK172 _ _ ⟨z,e2,J,hC.sE [],hbK3⟩
 clear hb hC hl3
 rintro E195 w194 ⟨z,e2,J,hC,hb⟩
 refine hK169 _ _<|Wc.seq fun _ hK196=>rg<|lp (.bool true) (qab rfl)<|ln (hK196 _ _ ?_)
 obtain rfl:=os hb
 refine Wc.ret (hKR _ _ ?_)
 refine ⟨_,res1 results28 (tV (.bool true) rfl),_,rfl,rfl,hC.sE []⟩
