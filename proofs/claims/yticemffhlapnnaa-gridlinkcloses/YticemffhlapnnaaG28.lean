import Derived.Test.YticemffhlapnnaaS
import Derived.Test.YticemffhlapnnaaG20
import Derived.Test.YticemffhlapnnaaG27
set_option linter.all false
namespace Go.Proofs.Yticemffhlapnnaa
open Ev Try
set_option maxRecDepth 100000
set_option maxHeartbeats 4000000
theorem canon_Code_ok (n:Nat) {w:World} {O0:List Nat} (hO: ∀k∈O0,k<w.heap.size) {j:Option Addr} {C l:Nat} {u:List Int} (D:Rep O0 w (.sl si) [.slice j C l] u) {o:Option Addr} {G p:Nat} {x:List Int} (H:Rep O0 w (.sl si) [.slice o G p] x) {c:Int} (z:I64 c) {r:(List Int)} (hb:F.canon_Code n u x c=some r):
    Calls prog 58 #[.agg #[.slice j C l,.slice o G p,iv c]] w fun e w'=> ∃v,e=.returned v∧∃(A0:Option Addr) (m0 c0:Nat),v=.slice A0 m0 c0∧Cx (fun _=>False) O0 w w' [.own 3 si (.slice A0 m0 c0) r]:=by
 unfold F.canon_Code at hb
 have hC:=Cx.start hO
 replace hC:=hC.arg rfl D
 replace hC:=hC.arg rfl H
 clear hO
 obtain ⟨rfl,L,M⟩:=D.qad
 obtain ⟨rfl,N,P⟩:=H.qad
 refine qaq func58 rfl (by rw [ntmps58]; exact nb rfl) fun KR hKR=>?_
 refine Wc.seq fun _ hK3=>rg<|lex.op (hC.box (cs:=[.slice j u.length l,.slice o x.length p,iv c]) rfl rfl) ?_
 rintro _ w5 ⟨g4,rfl,hC,hF,-⟩
 refine lp (.slice none 0 0) (qab rfl)<|ln (hK3 _ _ ?_)
 refine Wc.seq fun _ hK7=>?_
 refine Wc.seq fun _ hK8=>rg<|lv (.agg #[.slice j u.length l,.slice o x.length p,iv c]) (qbs (hC.bx (i:=0) rfl) isAgg28 sizeOf28 rfl) ?_
 obtain ⟨y9,h10,hb⟩:=bd hb
 refine lex.cl (⟨_,_,qas (vs:=[.agg #[.slice j u.length l,.slice o x.length p,iv c]]) call28 rfl rfl rfl,qgd n hC.lt (hC.rd (i:=2) rfl) (hC.rd (i:=1) rfl) z h10⟩) ?_
 rintro _ w11 ⟨rfl,hK⟩
 replace hC:=hC.merge hK
 clear hK
 refine lp (.bool (!y9)) (pu_not (q:=y9) rfl)<|ln (hK8 _ _ ?_)
 refine Wc.cond (t:=(!y9)) (rfl) (fun hq12=>?_) (fun hq12=>?_)
 replace hb:=tt hq12 hb
 refine Wc.seq fun _ hK13=>rg<|lp (.slice none 0 0) (qab rfl)<|ln (hK13 _ _ ?_)
 replace hC:=hC.nil 3 si
 obtain rfl:=os hb
 refine Wc.ret (hKR _ _ ?_)
 refine ⟨_,res1 results58 (tV (.slice none 0 0) rfl),_,rfl,none,0,0,rfl,hC.sE [0]⟩
 replace hb:=tf hq12 hb
 refine Wc.skip (hK7 _ _ ?_)
 refine Wc.seq fun _ hK15=>rg<|lv (.agg #[.slice j u.length l,.slice o x.length p,iv c]) (qbs (hC.bx (i:=0) rfl) isAgg28 sizeOf28 rfl) ?_
 obtain ⟨y16,h17,hb⟩:=bd hb
 refine lex.cl (⟨_,_,qas (vs:=[.agg #[.slice j u.length l,.slice o x.length p,iv c]]) call82 rfl rfl rfl,canon_pieces_ok n hC.lt (hC.rd (i:=2) rfl) (hC.rd (i:=1) rfl) z h17⟩) ?_
 rintro _ w22 ⟨A18,m19,c20,rfl,hK⟩
 replace hC:=hC.merge hK
 clear hK
 obtain ⟨rfl,hl23,hc24⟩:=(hC.ow (i:=0) rfl).qad
 refine lp (.slice A18 y16.length c20) (qab rfl)<|ln (hK15 _ _ ?_)
 refine Wc.seq fun _ hK25=>rg<|lp (.pointer (some ((⟨g4,0,none⟩:Addr).add 2))) (qag (sz:=1) underlying28 rfl sizeOf3 (by decide) rfl rfl)<|lv (iv c) (qam (hC.bx (i:=1) rfl) isAgg3 rfl rfl)<|lp (.slice A18 y16.length c20) (qaa rfl)<|lp (iv (y16.length:Int)) (qao (A:=A18) (n:=y16.length) (m:=c20) underlying93 rfl)<|lex.op (hC.lit (s:=si) (vs:=[iv c,iv (y16.length:Int)]) (xs:=[c,(y16.length:Int)]) underlying22 type3 rfl rfl (nb rfl) rfl rfl (by simp [Value.cells,Sh.n]) rfl (show Elems _ _ si ([iv c]++([iv (y16.length:Int)]++([]))) ([c,(y16.length:Int)]:List Int) from Elems.cons (⟨rfl,I64.wr z⟩) (Elems.cons (⟨rfl,I64.wr (I64.len hl23 hc24)⟩) (Elems.nil _ _ _)))) ?_
 rintro _ w30 ⟨A26,c27,rfl,hl28,hc29,hC,-,-⟩
 refine lp (.slice A26 ((([c,(y16.length:Int)]:List Int)).length) c27) (qab rfl)<|ln (hK25 _ _ ?_)
 refine Wc.fresh fun E32 hE=>?_
 have e2:E32 2=.slice none 0 0:=cg hE 2 rfl
 have e3:E32 3=.slice A18 y16.length c20:=cg hE 3 rfl
 have e4:E32 4=.slice A26 ((([c,(y16.length:Int)]:List Int)).length) c27:=cg hE 4 rfl
 clear hE
 refine Wc.seq fun _ hK33=>?_
 refine Wc.seq fun _ hK34=>rg<|lp _ (qaa e3)<|lp (iv (y16.length:Int)) (qao (A:=A18) (n:=y16.length) (m:=c20) underlying93 rfl)<|lp (iv 0) (qaa rfl)<|ln (hK34 _ _ ?_)
 obtain ⟨o35,hl0,f35,hf35,hb⟩:=bn hb
 refine Wc.cut (fun E wv=> ∃(d:List Int) (f:Int) (g:Option Addr) (y h:Nat),E 2=.slice none 0 0∧E 4=.slice g y h∧I64 f∧Cx (fun _=>False) O0 w wv [.own 3 si (.slice g y h) d]∧f35 (d,f)=some r) (fun _ hK36=>?_) ?_
 refine Wc.block ?_
 refine Wc.loop (fun m E wv=> ∃(d:List Int) (f:Int) (g:Option Addr) (y h:Nat),E 2=.slice none 0 0∧E 4=.slice g y h∧E 17=.slice A18 y16.length c20∧E 18=iv (y16.length:Int)∧E 19=iv f∧I64 f∧Cx (fun _=>False) O0 w wv [.own 3 si (.slice g y h) d,.own 96 (.pr (.sl si) (.pr (.sl si) si)) (.slice A18 y16.length c20) y16]∧loopN m (F.qfk n y16) (d,f)=some o35) n ⟨([c,(y16.length:Int)]:List Int),0,A26,(([c,(y16.length:Int)]:List Int)).length,c27,e2,e4,rfl,rfl,rfl,(show I64 0 from by unfold I64; omega),hC.sE [0,1],hl0⟩ ?_
 have hbK0:=hb
 clear hb hC hl0
 rintro m38 E40 w39 ⟨d,f,g,y,h,e2,e4,e17,e18,e19,B,hC,hl0⟩ K37 hK37
 obtain ⟨m38',o41,rfl,hb,hl0⟩:=qan hl0
 unfold F.qfk at hb
 obtain ⟨rfl,J,K⟩:=(hC.ow (i:=0) rfl).qad
 refine Wc.seq fun _ hK42=>rg<|lp _ (qap e19 e18)<|ln (hK42 _ _ ?_)
 refine Wc.seq fun _ hK43=>?_
 refine Wc.cond (t:=(decide (f<(y16.length:Int)))) (rfl) (fun hq44=>?_) (fun hq44=>?_)
 replace hb:=tt hq44 hb
 refine Wc.skip (hK43 _ _ ?_)
 refine Wc.seq fun _ hK45=>?_
 refine Wc.block<|Wc.seq fun _ hK46=>rg ?_
 obtain ⟨x47,h48,hb⟩:=bd hb
 obtain ⟨ad49,cs50,hA,hc51,hr52⟩:=hC.elo (i:=1) rfl (qac h48).2
 subst hA
 refine lp (.pointer (some (ad49.add (f.toNat*3)))) (qaf (a:=f) underlying93 sizeOf96 e17 e19 (qac h48).1) ?_
 obtain ⟨k53,k54,rfl,hr55,hr56⟩:=hr52
 have hR:=hr55
 obtain ⟨A57,c58,rfl,hl59,hc60,_⟩:=hr55
 replace hC:=hC.ro hR
 clear hR
 obtain ⟨k62,k63,rfl,hr64,hr65⟩:=hr56
 have hR:=hr64
 obtain ⟨A66,c67,rfl,hl68,hc69,_⟩:=hr64
 replace hC:=hC.ro hR
 clear hR
 obtain ⟨rfl,hr65⟩:=hr65
 refine lv (.agg #[.slice A57 x47.1.length c58,.slice A66 x47.2.1.length c67,iv x47.2.2]) (ld_agg isAgg96 sizeOf96 rfl rfl hc51)<|lex.op (hC.alloc (cs:=[.slice none 0 0,.slice none 0 0,iv 0]) zeroValue96 rfl) ?_
 rintro _ w72 ⟨g71,rfl,hC,hF,-⟩
 refine lex.sk (hC.seta (i:=0) (ds:=[.slice A57 x47.1.length c58,.slice A66 x47.2.1.length c67,iv x47.2.2]) rfl type96 rfl rfl rfl rfl rfl) ?_
 rintro w74 ⟨hC,hF⟩
 refine ln (hK46 _ _ ?_)
 refine Wc.seq fun _ hK75=>rg<|lp _ (qaa e4)<|lp (.pointer (some ((⟨g71,0,none⟩:Addr).add 1))) (qag (sz:=1) underlying96 rfl sizeOf22 (by decide) rfl rfl)<|lv (.slice A66 x47.2.1.length c67) (qam (hC.bx (i:=0) rfl) isAgg22 rfl rfl)<|lp (iv (x47.2.1.length:Int)) (qao (A:=A66) (n:=x47.2.1.length) (m:=c67) underlying22 rfl)<|lex.op (hC.lit (s:=si) (vs:=[iv (x47.2.1.length:Int)]) (xs:=[(x47.2.1.length:Int)]) underlying22 type3 rfl rfl (nb rfl) rfl rfl (by simp [Value.cells,Sh.n]) rfl (show Elems _ _ si ([iv (x47.2.1.length:Int)]++([])) ([(x47.2.1.length:Int)]:List Int) from Elems.cons (⟨rfl,I64.wr (I64.len hl68 hc69)⟩) (Elems.nil _ _ _))) ?_
 rintro _ w80 ⟨A76,c77,rfl,hl78,hc79,hC,-,-⟩
 obtain ⟨u82,h83,hb⟩:=bd hb
 refine lex.op (hC.app (i:=4) (s:=si) (xs:=d) (ys:=([(x47.2.1.length:Int)]:List Int)) (m:=((([(x47.2.1.length:Int)]:List Int)).length)) rfl underlying22 underlying22 type3 rfl rfl rfl (hC.srco (i:=0) rfl) rfl rfl (by have:=qaw h83; simp at this⊢ <;>omega) (by decide)) ?_
 rintro _ w88 ⟨A84,c85,rfl,hl86,hc87,hC,-,-⟩
 refine lp (.slice A84 ((d++([(x47.2.1.length:Int)]:List Int)).length) c85) (qab rfl)<|ln (hK75 _ _ ?_)
 refine Wc.fresh fun E89 hE=>?_
 have e2:=cg hE 2 e2
 have e4:E89 4=.slice A84 ((d++([(x47.2.1.length:Int)]:List Int)).length) c85:=cg hE 4 rfl
 have e6:E89 6=pg g71:=cg hE 6 rfl
 have e17:=cg hE 17 e17
 have e18:=cg hE 18 e18
 have e19:=cg hE 19 e19
 have e20:E89 20=.bool (decide (f<(y16.length:Int))):=cg hE 20 rfl
 clear hE
 refine rg<|lp _ (qaa e4)<|lp (.pointer (some ((⟨g71,0,none⟩:Addr).add 0))) (qag (sz:=1) underlying96 rfl sizeOf22 (by decide) rfl e6)<|lv (.slice A57 x47.1.length c58) (qam (hC.bx (i:=1) rfl) isAgg22 rfl rfl) ?_
 obtain ⟨u90,h91,hb⟩:=bd hb
 refine lex.op (hC.app (i:=4) (s:=si) (xs:=(d++([(x47.2.1.length:Int)]:List Int))) (ys:=x47.1) (m:=x47.1.length) rfl underlying22 underlying22 type3 rfl rfl rfl (hC.srcr (i:=3) rfl) rfl rfl (by have:=qaw h91; simp at this⊢ <;>omega) (by decide)) ?_
 rintro _ w96 ⟨A92,c93,rfl,hl94,hc95,hC,-,-⟩
 refine lp (.slice A92 (((d++([(x47.2.1.length:Int)]:List Int))++x47.1).length) c93) (qab rfl)<|ln (hK45 _ _ ?_)
 refine rg ?_
 obtain ⟨z97,h98,hb⟩:=bd hb
 refine lp (iv z97) (qal (a:=f) (b:=1) e19 rfl h98)<|lp (iv z97) (qaa rfl)<|ln ?_
 obtain rfl:=os hb
 exact hK37 m38' _ _ (Nat.lt_succ_self _) ⟨((d++([(x47.2.1.length:Int)]:List Int))++x47.1),z97,A92,((d++([(x47.2.1.length:Int)]:List Int))++x47.1).length,c93,e2,rfl,e17,e18,rfl,(qai h98),hC.sE [4,5],lN hl0⟩
 replace hb:=tf hq44 hb
 refine Wc.exit rfl ?_
 obtain rfl:=os hb
 obtain rfl:=(lX hl0).symm
 exact hK36 _ _ ⟨d,f,g,d.length,h,e2,e4,B,hC.sE [0],hbK0⟩
 clear hb hC hl0
 rintro E100 w99 ⟨d,f,g,y,h,e2,e4,B,hC,hb⟩
 subst hf35
 obtain ⟨rfl,J,K⟩:=(hC.ow (i:=0) rfl).qad
 refine hK33 _ _<|Wc.seq fun _ hK101=>rg<|lp _ (qaa e4)<|lp (.slice g d.length h) (qab rfl)<|ln (hK101 _ _ ?_)
 obtain rfl:=os hb
 refine Wc.ret (hKR _ _ ?_)
 refine ⟨_,res1 results58 (tV (.slice g d.length h) rfl),_,rfl,g,d.length,h,rfl,hC.sE [0]⟩

theorem slices_Equal_Lint_int_ok (n:Nat) {w:World} {O0:List Nat} (hO: ∀k∈O0,k<w.heap.size) {g:Option Addr} {p h:Nat} {d:List Int} (q:Rep O0 w (.sl si) [.slice g p h] d) {j:Option Addr} {s l:Nat} {f:List Int} (u:Rep O0 w (.sl si) [.slice j s l] f) {r:Bool} (hb:F.qeb n d f=some r):
    Calls prog 57 #[.slice g p h,.slice j s l] w fun e w'=> ∃v,e=.returned v∧v=.bool r∧Cx (fun _=>False) O0 w w' []:=by
 unfold F.qeb at hb
 have hC:=Cx.start hO
 replace hC:=hC.arg rfl q
 replace hC:=hC.arg rfl u
 clear hO
 obtain ⟨rfl,x,y⟩:=q.qad
 obtain ⟨rfl,z,B⟩:=u.qad
 refine qaq func57 rfl (by rw [ntmps57]; exact nb rfl) fun KR hKR=>?_
 refine Wc.seq fun _ hK3=>rg<|lp (.bool false) (qab rfl)<|ln (hK3 _ _ ?_)
 refine Wc.seq fun _ hK4=>?_
 refine Wc.seq fun _ hK5=>rg<|lp (.slice g d.length h) (qaa rfl)<|lp (iv (d.length:Int)) (qao (A:=g) (n:=d.length) (m:=h) underlying22 rfl)<|lp (.slice j f.length l) (qaa rfl)<|lp (iv (f.length:Int)) (qao (A:=j) (n:=f.length) (m:=l) underlying22 rfl)<|lp (.bool (!(decide ((d.length:Int)=(f.length:Int))))) (pu_neq (k:=.i64) (a:=(d.length:Int)) (b:=(f.length:Int)) rfl rfl)<|ln (hK5 _ _ ?_)
 refine Wc.cond (t:=(!(decide ((d.length:Int)=(f.length:Int))))) (rfl) (fun hq6=>?_) (fun hq6=>?_)
 replace hb:=tt hq6 hb
 refine Wc.seq fun _ hK7=>rg<|lp (.bool false) (qab rfl)<|ln (hK7 _ _ ?_)
 obtain rfl:=os hb
 refine Wc.ret (hKR _ _ ?_)
 refine ⟨_,res1 results57 (tV (.bool false) rfl),_,rfl,rfl,hC.sE []⟩
 replace hb:=tf hq6 hb
 refine Wc.skip (hK4 _ _ ?_)
 refine Wc.seq fun _ hK8=>?_
 refine Wc.seq fun _ hK9=>rg<|lp (.slice g d.length h) (qaa rfl)<|lp (iv (d.length:Int)) (qao (A:=g) (n:=d.length) (m:=h) underlying22 rfl)<|lp (iv 0) (qaa rfl)<|ln (hK9 _ _ ?_)
 obtain ⟨o10,hl0,hb⟩:=bd hb
 refine Wc.cut (fun E wv=> ∃(c:Int),E 4=.bool false∧I64 c∧Cx (fun _=>False) O0 w wv []∧(some true:Option (Bool))=some r) (fun _ hK11=>?_) ?_
 refine Wc.block ?_
 refine Wc.loop (fun m E wv=> ∃(c:Int),E 0=.slice g d.length h∧E 1=.slice j f.length l∧E 4=.bool false∧E 12=iv (d.length:Int)∧E 13=iv c∧I64 c∧Cx (fun _=>False) O0 w wv [.ro (.sl si) [.slice g d.length h] d,.ro (.sl si) [.slice j f.length l] f]∧loopN m (F.qcp n d f) c=some o10) n ⟨0,rfl,rfl,rfl,rfl,rfl,(show I64 0 from by unfold I64; omega),hC.sE [1,0],hl0⟩ ?_
 have hbK0:=hb
 clear hb hC hl0
 rintro m13 E15 w14 ⟨c,e0,e1,e4,e12,e13,o,hC,hl0⟩ K12 hK12
 obtain ⟨m13',o16,rfl,hb,hl0⟩:=qan hl0
 unfold F.qcp at hb
 refine Wc.seq fun _ hK17=>rg<|lp _ (qap e13 e12)<|ln (hK17 _ _ ?_)
 refine Wc.seq fun _ hK18=>?_
 refine Wc.cond (t:=(decide (c<(d.length:Int)))) (rfl) (fun hq19=>?_) (fun hq19=>?_)
 replace hb:=tt hq19 hb
 refine Wc.skip (hK18 _ _ ?_)
 refine Wc.seq fun _ hK20=>?_
 refine Wc.block<|Wc.seq fun _ hK21=>rg<|lp _ (qaa e13)<|lp (iv c) (qab rfl)<|ln (hK21 _ _ ?_)
 refine Wc.seq fun _ hK22=>?_
 refine Wc.regionMix [] (frm [] ([]:List Fact) ([]:List Fact)) (fun _=>rfl) mixed (by decide+kernel) (by decide+kernel) fun w24 hw23=>?_
 replace hC:=hC.step (Fr.qbb hw23)
 have hM:=Fr.refl (fun k=>k∈blocks ([]:List Fact)) w24
 clear hw23
 have hS:=hC
 refine mp (.slice g d.length h) (qaa e0)<|mp (iv c) (qaa rfl) ?_
 obtain ⟨x25,h26,hb⟩:=bd hb
 obtain ⟨ad27,cs28,hA,ho31,hc29,hr30⟩:=hS.elr2 (i:=0) rfl (qac h26).2 []
 subst hA
 refine mp (.pointer (some (ad27.add (c.toNat*1)))) (qaf (a:=c) underlying22 sizeOf3 rfl rfl (qac h26).1) ?_
 obtain ⟨rfl,hr30'⟩:=hr30
 refine mixE.load hM (v:=iv x25) (fun _ hF=>qaj isAgg3 rfl (hF.cell (hc29 0 _ rfl) (off1 ho31)))<|mp (.slice j f.length l) (qaa e1)<|mp (iv c) (qaa rfl) ?_
 obtain ⟨x32,h33,hb⟩:=bd hb
 obtain ⟨ad34,cs35,hA,ho38,hc36,hr37⟩:=hS.elr2 (i:=1) rfl (qac h33).2 []
 subst hA
 refine mp (.pointer (some (ad34.add (c.toNat*1)))) (qaf (a:=c) underlying22 sizeOf3 rfl rfl (qac h33).1) ?_
 obtain ⟨rfl,hr37'⟩:=hr37
 refine mixE.load hM (v:=iv x32) (fun _ hF=>qaj isAgg3 rfl (hF.cell (hc36 0 _ rfl) (off1 ho38)))<|mp (.bool (!(decide (x25=x32)))) (pu_neq (k:=.i64) (a:=x25) (b:=x32) rfl rfl)<|mixE.nil ?_
 clear hS hM
 refine hK22 _ _<|Wc.cond (t:=(!(decide (x25=x32)))) (rfl) (fun hq39=>?_) (fun hq39=>?_)
 replace hb:=tt hq39 hb
 refine Wc.seq fun _ hK40=>rg<|lp (.bool false) (qab rfl)<|ln (hK40 _ _ ?_)
 obtain rfl:=os hb
 obtain rfl:=(lX hl0).symm
 replace hb:=hbK0
 obtain rfl:=os hb
 refine Wc.ret (hKR _ _ ?_)
 refine ⟨_,res1 results57 (tV (.bool false) rfl),_,rfl,rfl,hC.sE []⟩
 replace hb:=tf hq39 hb
 refine Wc.skip (hK20 _ _ ?_)
 refine rg ?_
 obtain ⟨z41,h42,hb⟩:=bd hb
 refine lp (iv z41) (qal (a:=c) (b:=1) e13 rfl h42)<|lp (iv z41) (qaa rfl)<|ln ?_
 obtain rfl:=os hb
 exact hK12 m13' _ _ (Nat.lt_succ_self _) ⟨z41,e0,e1,e4,e12,rfl,(qai h42),hC.sE [0,1],lN hl0⟩
 replace hb:=tf hq19 hb
 refine Wc.exit rfl ?_
 obtain rfl:=os hb
 obtain rfl:=(lX hl0).symm
 exact hK11 _ _ ⟨c,e4,o,hC.sE [],hbK0⟩
 clear hb hC hl0
 rintro E44 w43 ⟨c,e4,o,hC,hb⟩
 refine hK8 _ _<|Wc.seq fun _ hK45=>rg<|lp (.bool true) (qab rfl)<|ln (hK45 _ _ ?_)
 obtain rfl:=os hb
 refine Wc.ret (hKR _ _ ?_)
 refine ⟨_,res1 results57 (tV (.bool true) rfl),_,rfl,rfl,hC.sE []⟩

theorem canon_Same_ok (n:Nat) {w:World} {O0:List Nat} (hO: ∀k∈O0,k<w.heap.size) {a:Option Addr} {x b:Nat} {o:List Int} (y:Rep O0 w (.sl si) [.slice a x b] o) {c:Option Addr} {z d:Nat} {p:List Int} (A:Rep O0 w (.sl si) [.slice c z d] p) {l:Int} (B:I64 l) {f:Option Addr} {C g:Nat} {s:List Int} (D:Rep O0 w (.sl si) [.slice f C g] s) {h:Option Addr} {G j:Nat} {u:List Int} (H:Rep O0 w (.sl si) [.slice h G j] u) {m:Int} (J:I64 m) {r:Bool} (hb:F.qgf n o p l s u m=some r):
    Calls prog 33 #[.agg #[.slice a x b,.slice c z d,iv l],.agg #[.slice f C g,.slice h G j,iv m]] w fun e w'=> ∃v,e=.returned v∧v=.bool r∧Cx (fun _=>False) O0 w w' []:=by
 unfold F.qgf at hb
 have hC:=Cx.start hO
 replace hC:=hC.arg rfl y
 replace hC:=hC.arg rfl A
 replace hC:=hC.arg rfl D
 replace hC:=hC.arg rfl H
 clear hO
 obtain ⟨rfl,K,L⟩:=y.qad
 obtain ⟨rfl,M,N⟩:=A.qad
 obtain ⟨rfl,P,Q⟩:=D.qad
 obtain ⟨rfl,R,S⟩:=H.qad
 refine qaq func33 rfl (by rw [ntmps33]; exact nb rfl) fun KR hKR=>?_
 refine Wc.seq fun _ hK5=>rg<|lex.op (hC.box (cs:=[.slice a o.length b,.slice c p.length d,iv l]) rfl rfl) ?_
 rintro _ w7 ⟨g6,rfl,hC,hF,-⟩
 refine lex.op (hC.box (cs:=[.slice f s.length g,.slice h u.length j,iv m]) rfl rfl) ?_
 rintro _ w10 ⟨g9,rfl,hC,hF,-⟩
 refine lp (.bool false) (qab rfl)<|ln (hK5 _ _ ?_)
 refine Wc.seq fun _ hK12=>?_
 refine Wc.seq fun _ hK13=>rg<|lv (.agg #[.slice a o.length b,.slice c p.length d,iv l]) (qbs (hC.bx (i:=1) rfl) isAgg28 sizeOf28 rfl) ?_
 obtain ⟨y14,h15,hb⟩:=bd hb
 refine lex.cl (⟨_,_,qas (vs:=[.agg #[.slice a o.length b,.slice c p.length d,iv l]]) call28 rfl rfl rfl,qgd n hC.lt (hC.rd (i:=5) rfl) (hC.rd (i:=4) rfl) B h15⟩) ?_
 rintro _ w16 ⟨rfl,hK⟩
 replace hC:=hC.merge hK
 clear hK
 refine lp (.bool (!y14)) (pu_not (q:=y14) rfl)<|lp (.bool (!y14)) (qaa rfl) ?_
 rcases bS (!y14) with hq17 | hq17
 replace hb:=tt hq17 hb
 refine gs rfl rfl (!y14) rfl hq17<|gs rfl rfl (!y14) rfl hq17<|gs rfl rfl (!y14) rfl hq17<|lp (.bool true) (qbg (q:=(!y14)) rfl hq17 rfl)<|ln (hK13 _ _ ?_)
 refine Wc.cond_true (rfl) ?_
 refine Wc.seq fun _ hK18=>rg<|lp (.bool false) (qab rfl)<|ln (hK18 _ _ ?_)
 obtain rfl:=os hb
 refine Wc.ret (hKR _ _ ?_)
 refine ⟨_,res1 results33 (tV (.bool false) rfl),_,rfl,rfl,hC.sE []⟩
 replace hb:=tf hq17 hb
 refine gv rfl rfl (!y14) rfl hq17 (.agg #[.slice f s.length g,.slice h u.length j,iv m]) (qbs (hC.bx (i:=0) rfl) isAgg28 sizeOf28 rfl) ?_
 obtain ⟨y19,h20,hb⟩:=bd hb
 refine lex.gcl (qdi rfl rfl (show _=Value.bool (!y14) from rfl) hq17) (⟨_,_,qas (vs:=[.agg #[.slice f s.length g,.slice h u.length j,iv m]]) call28 rfl rfl rfl,qgd n hC.lt (hC.rd (i:=3) rfl) (hC.rd (i:=2) rfl) J h20⟩) ?_
 rintro _ w21 ⟨rfl,hK⟩
 replace hC:=hC.merge hK
 clear hK
 refine gp rfl rfl (!y14) rfl hq17 (.bool (!y19)) (pu_not (q:=y19) rfl)<|lp (.bool (!y19)) (qbc (q:=(!y14)) rfl hq17 rfl)<|ln (hK13 _ _ ?_)
 refine Wc.cond (t:=(!y19)) (rfl) (fun hq22=>?_) (fun hq22=>?_)
 replace hb:=tt hq22 hb
 refine Wc.seq fun _ hK23=>rg<|lp (.bool false) (qab rfl)<|ln (hK23 _ _ ?_)
 obtain rfl:=os hb
 refine Wc.ret (hKR _ _ ?_)
 refine ⟨_,res1 results33 (tV (.bool false) rfl),_,rfl,rfl,hC.sE []⟩
 replace hb:=tf hq22 hb
 refine Wc.skip (hK12 _ _ ?_)
 refine Wc.fresh fun E24 hE=>?_
 have e2:E24 2=pg g6:=cg hE 2 rfl
 have e3:E24 3=pg g9:=cg hE 3 rfl
 have e4:E24 4=.bool false:=cg hE 4 rfl
 clear hE
 refine Wc.seq fun _ hK25=>?_
 refine Wc.regionMix [] (frm [] ([]:List Fact) ([]:List Fact)) (fun _=>rfl) mixed (by decide+kernel) (by decide+kernel) fun w27 hw26=>?_
 replace hC:=hC.step (Fr.qbb hw26)
 have hM:=Fr.refl (fun k=>k∈blocks ([]:List Fact)) w27
 clear hw26
 have hS:=hC
 refine mixE.load hM (v:=.agg #[.slice a o.length b,.slice c p.length d,iv l]) (fun _ hF=>qbs (hS.bx2 (i:=1) rfl [] (by decide) hF) isAgg28 sizeOf28 e2) ?_
 obtain ⟨y28,h29,hb⟩:=bd hb
 refine mixE.cl hM (⟨_,_,qas (vs:=[.agg #[.slice a o.length b,.slice c p.length d,iv l]]) call58 rfl rfl rfl,canon_Code_ok n hC.lt (hC.rd (i:=5) rfl) (hC.rd (i:=4) rfl) B h29⟩) ?_
 rintro _ w34 ⟨A30,m31,c32,rfl,hK⟩
 have hBf33:=Beside.cl (i:=0) hM hK rfl
 replace hM:=hM.none hK.fr
 refine ⟨hM,?_⟩
 replace hC:=hC.merge hK
 clear hK
 obtain ⟨rfl,hl35,hc36⟩:=(hC.ow (i:=0) rfl).qad
 refine mixE.load hM (v:=.agg #[.slice f s.length g,.slice h u.length j,iv m]) (fun _ hF=>qbs (hS.bx2 (i:=0) rfl [] (by decide) hF) isAgg28 sizeOf28 e3) ?_
 obtain ⟨y37,h38,hb⟩:=bd hb
 refine mixE.cl hM (⟨_,_,qas (vs:=[.agg #[.slice f s.length g,.slice h u.length j,iv m]]) call58 rfl rfl rfl,canon_Code_ok n hC.lt (hC.rd (i:=4) rfl) (hC.rd (i:=3) rfl) J h38⟩) ?_
 rintro _ w43 ⟨A39,m40,c41,rfl,hK⟩
 have hBf42:=Beside.cl (i:=0) hM hK rfl
 replace hM:=hM.none hK.fr
 refine ⟨hM,?_⟩
 replace hC:=hC.merge hK
 clear hK
 obtain ⟨rfl,hl44,hc45⟩:=(hC.ow (i:=0) rfl).qad
 obtain ⟨y46,h47,hb⟩:=bd hb
 refine mixE.cl hM (⟨_,_,qas (vs:=[.slice A30 y28.length c32,.slice A39 y37.length c41]) call57 rfl rfl rfl,slices_Equal_Lint_int_ok n (hC.lentLt [.slice A30 y28.length c32,.slice A39 y37.length c41]) ((hC.ow (i:=1) rfl).lend (vs:=[.slice A30 y28.length c32,.slice A39 y37.length c41]) (by simp)) ((hC.ow (i:=0) rfl).lend (vs:=[.slice A30 y28.length c32,.slice A39 y37.length c41]) (by simp)) h47⟩) ?_
 rintro _ w48 ⟨rfl,hK⟩
 replace hM:=hM.none hK.fr
 refine ⟨hM,?_⟩
 replace hC:=hC.mergeF hK rfl
 clear hK
 refine mp (.bool y46) (qab rfl)<|mixE.nil ?_
 clear hS hM
 refine hK25 _ _ ?_
 obtain rfl:=os hb
 refine Wc.ret (hKR _ _ ?_)
 refine ⟨_,res1 results33 (tV (.bool y46) rfl),_,rfl,rfl,hC.sE []⟩
