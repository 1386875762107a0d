import Derived.Test.YtpnppjlnfhlmpaaS
import Derived.Test.YtpnppjlnfhlmpaaG0
set_option linter.all false
namespace Go.Proofs.Ytpnppjlnfhlmpaa
open Ev Try
set_option maxRecDepth 100000
set_option maxHeartbeats 4000000
theorem slices_Clone_Lint_int_ok (n:Nat) {w:World} {O0:List Nat} (hO: ∀k∈O0,k<w.heap.size) {a:Option Addr} {d c:Nat} {b:List Int} (f:Rep O0 w (.sl si) [.slice a d c] b) {r:(List Int)} (hb:F.qer n b=some r):
    Calls prog 48 #[.slice a d c] w fun e w'=> ∃v,e=.returned v∧∃(A0:Option Addr) (m0 c0:Nat),v=.slice A0 m0 c0∧Cx (fun _=>False) O0 w w' [.own 3 si (.slice A0 m0 c0) r]:=by
 unfold F.qer at hb
 have hC:=Cx.start hO
 replace hC:=hC.arg rfl f
 clear hO
 obtain ⟨rfl,g,h⟩:=f.qae
 refine qao func48 rfl (by rw [ntmps48]; exact nb rfl) fun KR hKR=>?_
 refine Wc.seq fun _ hK2=>rg<|lp (.slice none 0 0) (qab rfl)<|ln (hK2 _ _ ?_)
 refine Wc.seq fun _ hK3=>?_
 refine Wc.seq fun _ hK4=>rg<|lp (.slice a b.length c) (qaa rfl)<|lp (.bool a.isNone) (pu_eqlnil underlying22 rfl rfl)<|ln (hK4 _ _ ?_)
 refine Wc.cond (t:=a.isNone) (rfl) (fun hq5=>?_) (fun hq5=>?_)
 have hz:a=none:=by simpa using hq5
 have hx:=(hC.rd (i:=0) rfl).none_nil' hz
 replace hb:some ([])=some r:=by have hb2:=hb; rw [hx] at hb2; first | exact hb2 | simpa [lim] using hb2
 refine Wc.seq fun _ hK7=>rg<|lp (.slice none 0 0) (qab rfl)<|ln (hK7 _ _ ?_)
 replace hC:=hC.nil 3 si
 obtain rfl:=os hb
 refine Wc.ret (hKR _ _ ?_)
 refine ⟨_,res1 results48 (tV (.slice none 0 0) rfl),_,rfl,none,0,0,rfl,hC.sE [0]⟩
 refine Wc.skip (hK3 _ _ ?_)
 refine Wc.seq fun _ hK9=>rg<|lex.op (hC.lit (s:=si) (vs:=[]) (xs:=[]) underlying22 type3 rfl rfl (nb rfl) rfl rfl (by simp [Value.cells,Sh.n]) rfl (show Elems _ _ si ([]) ([]:List Int) from Elems.nil _ _ _)) ?_
 rintro _ w14 ⟨A10,c11,rfl,hl12,hc13,hC,-,-⟩
 refine lp (.slice a b.length c) (qaa rfl) ?_
 obtain ⟨u16,h17,hb⟩:=bd hb
 refine lex.op (hC.app (i:=0) (s:=si) (xs:=([]:List Int)) (ys:=b) (m:=b.length) rfl underlying22 underlying22 type3 rfl rfl rfl (hC.srcr (i:=1) rfl) rfl rfl (by have:=qew h17; simp at this⊢ <;>omega) (by decide)) ?_
 rintro _ w22 ⟨A18,c19,rfl,hl20,hc21,hC,-,-⟩
 refine lp (.slice A18 ((([]:List Int)++b).length) c19) (qab rfl)<|ln (hK9 _ _ ?_)
 obtain rfl:=os hb
 refine Wc.ret (hKR _ _ ?_)
 refine ⟨_,res1 results48 (tV (.slice A18 ((([]:List Int)++b).length) c19) rfl),_,rfl,A18,(([]:List Int)++b).length,c19,rfl,hC.sE [0]⟩

theorem mirror_without_ok (n:Nat) {w:World} {O0:List Nat} (hO: ∀k∈O0,k<w.heap.size) {L:Option Addr} {M B:Nat} {h:List Int} (N:Rep O0 w (.sl si) [.slice L M B] h) {J:Option Addr} {P K:Nat} {C:List Int} (Q:Rep O0 w (.sl si) [.slice J P K] C) {d:Int} (a1:I64 d) {z:Int} (a0:I64 z) {r:(List Int)×(List Int)×Int} (hb:F.qgw n h C d z=some r):
    Calls prog 49 #[.slice L M B,.slice J P K,iv d,iv z] w fun e w'=> ∃v,e=.returned v∧∃(A0:Option Addr) (m0 c0:Nat) (A1:Option Addr) (m1 c1:Nat),v=.agg #[.slice A0 m0 c0,.slice A1 m1 c1,iv r.2.2]∧I64 r.2.2∧Cx (fun _=>False) O0 w w' [.own 3 si (.slice A0 m0 c0) r.1,.own 3 si (.slice A1 m1 c1) r.2.1]:=by
 unfold F.qgw at hb
 have hC:=Cx.start hO
 replace hC:=hC.arg rfl N
 replace hC:=hC.arg rfl Q
 clear hO
 obtain ⟨rfl,a2,a3⟩:=N.qae
 obtain ⟨rfl,a4,a5⟩:=Q.qae
 refine qao func49 rfl (by rw [ntmps49]; exact nb rfl) fun KR hKR=>?_
 refine Wc.seq fun _ hK3=>rg<|lex.op (hC.alloc (cs:=[.slice none 0 0,.slice none 0 0,iv 0]) zeroValue32 rfl) ?_
 rintro _ w5 ⟨g4,rfl,hC,hF,-⟩
 refine ln (hK3 _ _ ?_)
 refine Wc.seq fun _ hK7=>rg<|lp (iv z) (qaa rfl)<|lp (.agg #[.slice none 0 0,.slice none 0 0,iv z]) (qat (places:=[(0,1),(1,1),(2,1)]) (pv:=[(2,iv z)]) type32 underlying32 rfl (qag type22 (qag type22 (qag type3 qbb rfl rfl) rfl rfl) rfl rfl) rfl (by simp [Instr.fill,Value.cells]))<|lex.op (hC.alloc (cs:=[.slice none 0 0,.slice none 0 0,iv 0]) zeroValue32 rfl) ?_
 rintro _ w9 ⟨g8,rfl,hC,hF,-⟩
 refine lex.sk (hC.seta (i:=0) (ds:=[.slice none 0 0,.slice none 0 0,iv z]) rfl type32 rfl rfl rfl rfl rfl) ?_
 rintro w11 ⟨hC,hF⟩
 refine ln (hK7 _ _ ?_)
 refine Wc.seq fun _ hK12=>?_
 refine Wc.seq fun _ hK13=>rg<|lp (.slice L h.length B) (qaa rfl)<|lp (iv (h.length:Int)) (qay (A:=L) (n:=h.length) (m:=B) underlying22 rfl)<|lp (iv 0) (qaa rfl)<|ln (hK13 _ _ ?_)
 replace hC:=hC.nil 3 si
 replace hC:=hC.nil 3 si
 obtain ⟨o16,hl0,f16,hf16,hb⟩:=bn hb
 refine Wc.cut (fun E wv=> ∃(g:Int) (c:List Int) (j:List Int) (l:Option Addr) (D o:Nat) (p:Option Addr) (G q:Nat),E 8=pg g4∧E 9=pg g8∧I64 g∧Cx (fun _=>False) O0 w wv [.box g4 32 [.slice none 0 0,.slice none 0 0,iv 0],.box g8 32 [.slice l D o,.slice p G q,iv z],.own 3 si (.slice l D o) c,.own 3 si (.slice p G q) j]∧f16 (g,c,j)=some r) (fun _ hK17=>?_) ?_
 refine Wc.block ?_
 refine Wc.loop (fun m E wv=> ∃(g:Int) (c:List Int) (j:List Int) (l:Option Addr) (D o:Nat) (p:Option Addr) (G q:Nat),E 1=.slice J C.length K∧E 2=iv d∧E 8=pg g4∧E 9=pg g8∧E 16=.slice L h.length B∧E 17=iv (h.length:Int)∧E 18=iv g∧I64 g∧Cx (fun _=>False) O0 w wv [.ro (.sl si) [.slice J C.length K] C,.box g4 32 [.slice none 0 0,.slice none 0 0,iv 0],.box g8 32 [.slice l D o,.slice p G q,iv z],.own 3 si (.slice l D o) c,.own 3 si (.slice p G q) j,.ro (.sl si) [.slice L h.length B] h]∧loopN m (F.qdg n h C d) (g,c,j)=some o16) n ⟨0,([]:List Int),([]:List Int),none,0,0,none,0,0,rfl,rfl,rfl,rfl,rfl,rfl,rfl,(show I64 0 from by unfold I64; omega),hC.sE [4,3,2,1,0,5],hl0⟩ ?_
 have hbK0:=hb
 clear hb hC hl0
 rintro m19 E21 w20 ⟨g,c,j,l,D,o,p,G,q,e1,e2,e8,e9,e16,e17,e18,R,hC,hl0⟩ K18 hK18
 obtain ⟨m19',o22,rfl,hb,hl0⟩:=qax hl0
 unfold F.qdg at hb
 obtain ⟨rfl,T,U⟩:=(hC.ow (i:=3) rfl).qae
 obtain ⟨rfl,V,X⟩:=(hC.ow (i:=4) rfl).qae
 refine Wc.seq fun _ hK23=>rg<|lp _ (qbj e18 e17)<|ln (hK23 _ _ ?_)
 refine Wc.seq fun _ hK24=>?_
 refine Wc.cond (t:=(decide (g<(h.length:Int)))) (rfl) (fun hq25=>?_) (fun hq25=>?_)
 replace hb:=tt hq25 hb
 refine Wc.skip (hK24 _ _ ?_)
 refine Wc.seq fun _ hK26=>?_
 refine Wc.block<|Wc.seq fun _ hK27=>rg<|lp _ (qaa e18) ?_
 obtain ⟨x28,h29,hb⟩:=bd hb
 obtain ⟨ad30,cs31,hA,hc32,hr33⟩:=hC.elr (i:=5) rfl (qad h29).2
 subst hA
 refine lp (.pointer (some (ad30.add (g.toNat*1)))) (qar (a:=g) underlying22 sizeOf3 e16 e18 (qad h29).1) ?_
 obtain ⟨rfl,hr33'⟩:=hr33
 refine lv (iv x28) (qaw isAgg3 rfl (hc32 0 _ rfl))<|lp (iv g) (qab rfl)<|lp (iv x28) (qab rfl)<|ln (hK27 _ _ ?_)
 refine Wc.seq fun _ hK34=>?_
 refine Wc.seq fun _ hK35=>rg<|lp (iv g) (qaa rfl)<|lp _ (qaa e2)<|lp (.bool (decide (g=d))) (qbl (k:=.i64) (a:=g) (b:=d) rfl rfl)<|ln (hK35 _ _ ?_)
 refine Wc.cond (t:=(decide (g=d))) (rfl) (fun hq36=>?_) (fun hq36=>?_)
 replace hb:=tt hq36 hb
 refine Wc.exit rfl ?_
 refine hK26 _ _<|rg ?_
 obtain ⟨z37,h38,hb⟩:=bd hb
 refine lp (iv z37) (qau (a:=g) (b:=1) e18 rfl h38)<|lp (iv z37) (qaa rfl)<|ln ?_
 obtain rfl:=os hb
 exact hK18 m19' _ _ (Nat.lt_succ_self _) ⟨z37,c,j,l,c.length,o,p,j.length,q,e1,e2,e8,e9,e16,e17,rfl,(qah h38),hC.sE [0,1,2,3,4,5],lN hl0⟩
 replace hb:=tf hq36 hb
 refine Wc.skip (hK34 _ _ ?_)
 refine Wc.seq fun _ hK39=>rg<|lp (.pointer (some ((⟨g8,0,none⟩:Addr).add 0))) (qaf (sz:=1) underlying32 rfl sizeOf22 (by decide) rfl e9)<|lv (.slice l c.length o) (qal (hC.bx (i:=2) rfl) isAgg22 rfl rfl)<|lp (iv x28) (qaa rfl)<|lex.op (hC.lit (s:=si) (vs:=[iv x28]) (xs:=[x28]) underlying22 type3 rfl rfl (nb rfl) rfl rfl (by simp [Value.cells,Sh.n]) rfl (show Elems _ _ si ([iv x28]++([])) ([x28]:List Int) from Elems.cons (⟨rfl,I64.wr (qbi hr33')⟩) (Elems.nil _ _ _))) ?_
 rintro _ w44 ⟨A40,c41,rfl,hl42,hc43,hC,-,-⟩
 obtain ⟨u46,h47,hb⟩:=bd hb
 refine lex.op (hC.app (i:=4) (s:=si) (xs:=c) (ys:=([x28]:List Int)) (m:=((([x28]:List Int)).length)) rfl underlying22 underlying22 type3 rfl rfl rfl (hC.srco (i:=0) rfl) rfl rfl (by have:=qew h47; simp at this⊢ <;>omega) (by decide)) ?_
 rintro _ w52 ⟨A48,c49,rfl,hl50,hc51,hC,-,-⟩
 refine lp (.pointer (some ((⟨g8,0,none⟩:Addr).add 0))) (qaf (sz:=1) underlying32 rfl sizeOf22 (by decide) rfl e9)<|lex.sk (hC.setf (i:=3) (k:=0) (v:=.slice A48 ((c++([x28]:List Int)).length) c49) rfl sizeOf22 rfl rfl rfl rfl) ?_
 rintro w53 ⟨hC,hF⟩
 refine ln (hK39 _ _ ?_)
 refine Wc.fresh fun E54 hE=>?_
 have e1:=cg hE 1 e1
 have e2:=cg hE 2 e2
 have e8:=cg hE 8 e8
 have e9:=cg hE 9 e9
 have e10:E54 10=iv g:=cg hE 10 rfl
 have e11:E54 11=iv x28:=cg hE 11 rfl
 have e16:=cg hE 16 e16
 have e17:=cg hE 17 e17
 have e18:=cg hE 18 e18
 have e19:E54 19=.bool (decide (g<(h.length:Int))):=cg hE 19 rfl
 have e25:E54 25=.bool (decide (g=d)):=cg hE 25 rfl
 clear hE
 refine Wc.seq fun _ hK55=>rg<|lp (iv 0) (qaa rfl)<|ln (hK55 _ _ ?_)
 obtain ⟨o56,hl1,hb⟩:=bd hb
 refine Wc.cut (fun E wv=> ∃(y:Int) (f:List Int) (u:Option Addr) (H x:Nat),E 1=.slice J C.length K∧E 2=iv d∧E 8=pg g4∧E 9=pg g8∧E 10=iv g∧E 11=iv x28∧E 16=.slice (some ad30) h.length B∧E 17=iv (h.length:Int)∧E 18=iv g∧E 19=.bool (decide (g<(h.length:Int)))∧E 25=.bool (decide (g=d))∧E 32=iv y∧I64 y∧Cx (fun _=>False) O0 w wv [.ro (.sl si) [.slice J C.length K] C,.box g4 32 [.slice none 0 0,.slice none 0 0,iv 0],.box g8 32 [.slice A48 ((c++([x28]:List Int)).length) c49,.slice u H x,iv z],.own 3 si (.slice A48 ((c++([x28]:List Int)).length) c49) (c++([x28]:List Int)),.own 3 si (.slice u H x) f,.ro (.sl si) [.slice (some ad30) h.length B] h]∧((chk (g+1)).bind fun z123=>some (.inl (z123,(c++([x28]:List Int)),f)):Option ((Int×(List Int)×(List Int))⊕((Int×(List Int)×(List Int)))))=some o22) (fun _ hK57=>?_) ?_
 refine Wc.block ?_
 refine Wc.loop (fun m E wv=> ∃(y:Int) (f:List Int) (u:Option Addr) (H x:Nat),E 1=.slice J C.length K∧E 2=iv d∧E 8=pg g4∧E 9=pg g8∧E 10=iv g∧E 11=iv x28∧E 16=.slice (some ad30) h.length B∧E 17=iv (h.length:Int)∧E 18=iv g∧E 19=.bool (decide (g<(h.length:Int)))∧E 25=.bool (decide (g=d))∧E 32=iv y∧I64 y∧Cx (fun _=>False) O0 w wv [.ro (.sl si) [.slice J C.length K] C,.box g4 32 [.slice none 0 0,.slice none 0 0,iv 0],.box g8 32 [.slice A48 ((c++([x28]:List Int)).length) c49,.slice u H x,iv z],.own 3 si (.slice A48 ((c++([x28]:List Int)).length) c49) (c++([x28]:List Int)),.own 3 si (.slice u H x) f,.ro (.sl si) [.slice (some ad30) h.length B] h]∧loopN m (F.qey n C d g) (y,f)=some o56) n ⟨0,j,p,j.length,q,e1,e2,e8,e9,e10,e11,e16,e17,e18,e19,e25,rfl,(show I64 0 from by unfold I64; omega),hC.sE [1,2,3,4,5,6],hl1⟩ ?_
 have hbK1:=hb
 clear hb hC hl1
 rintro m59 E61 w60 ⟨y,f,u,H,x,e1,e2,e8,e9,e10,e11,e16,e17,e18,e19,e25,e32,S,hC,hl1⟩ K58 hK58
 obtain ⟨m59',o62,rfl,hb,hl1⟩:=qax hl1
 unfold F.qey at hb
 obtain ⟨rfl,Y,Z⟩:=(hC.ow (i:=4) rfl).qae
 refine Wc.seq fun _ hK63=>rg<|lp (.bool (decide (y<4))) (qbj (k:=.i64) (a:=y) (b:=4) e32 rfl)<|ln (hK63 _ _ ?_)
 refine Wc.seq fun _ hK64=>?_
 refine Wc.cond (t:=(decide (y<4))) (rfl) (fun hq65=>?_) (fun hq65=>?_)
 replace hb:=tt hq65 hb
 refine Wc.skip (hK64 _ _ ?_)
 refine Wc.seq fun _ hK66=>?_
 refine Wc.block<|Wc.seq fun _ hK67=>rg<|lp _ (qaa e32)<|lp (iv y) (qab rfl)<|ln (hK67 _ _ ?_)
 refine Wc.seq fun _ hK68=>rg<|lp _ (qaa e1)<|lp _ (qaa e10) ?_
 obtain ⟨z69,h70,hb⟩:=bd hb
 refine lp (iv z69) (qfx (a:=4) (b:=g) rfl rfl h70)<|lp (iv y) (qaa rfl) ?_
 obtain ⟨z71,h72,hb⟩:=bd hb
 refine lp (iv z71) (qau (a:=z69) (b:=y) rfl rfl h72) ?_
 obtain ⟨x73,h74,hb⟩:=bd hb
 obtain ⟨ad75,cs76,hA,hc77,hr78⟩:=hC.elr (i:=0) rfl (qad h74).2
 subst hA
 refine lp (.pointer (some (ad75.add (z71.toNat*1)))) (qar (a:=z71) underlying22 sizeOf3 rfl rfl (qad h74).1) ?_
 obtain ⟨rfl,hr78'⟩:=hr78
 refine lv (iv x73) (qaw isAgg3 rfl (hc77 0 _ rfl))<|lp (iv x73) (qab rfl)<|ln (hK68 _ _ ?_)
 refine Wc.fresh fun E79 hE=>?_
 have e1:=cg hE 1 e1
 have e2:=cg hE 2 e2
 have e8:=cg hE 8 e8
 have e9:=cg hE 9 e9
 have e10:=cg hE 10 e10
 have e11:=cg hE 11 e11
 have e12:E79 12=iv y:=cg hE 12 rfl
 have e13:E79 13=iv x73:=cg hE 13 rfl
 have e16:=cg hE 16 e16
 have e17:=cg hE 17 e17
 have e18:=cg hE 18 e18
 have e19:=cg hE 19 e19
 have e25:=cg hE 25 e25
 have e32:=cg hE 32 e32
 have e33:E79 33=.bool (decide (y<4)):=cg hE 33 rfl
 clear hE
 refine Wc.seq fun _ hK80=>?_
 refine Wc.seq fun _ hK81=>rg<|lp _ (qaa e13) ?_
 obtain ⟨u82,h83,hb⟩:=bd hb
 obtain ⟨z84,h85,hb⟩:=bd hb
 refine lp (iv z84) (qfu (a:=x73) (b:=4) rfl rfl h83 h85)<|lp _ (qaa e2)<|lp (.bool (decide (d<z84))) (qfq (k:=.i64) (a:=z84) (b:=d) rfl rfl)<|ln (hK81 _ _ ?_)
 refine Wc.cond (t:=(decide (d<z84))) (rfl) (fun hq86=>?_) (fun hq86=>?_)
 replace hb:=tt hq86 hb
 refine rg<|lp _ (qaa e13) ?_
 obtain ⟨z87,h88,hb⟩:=bd hb
 refine lp (iv z87) (pu_subc (a:=x73) (b:=4) rfl rfl h88)<|lp (iv z87) (qab rfl)<|ln (hK80 _ _ ?_)
 refine rg<|lp (.pointer (some ((⟨g8,0,none⟩:Addr).add 1))) (qaf (sz:=1) underlying32 rfl sizeOf22 (by decide) rfl e9)<|lv (.slice u f.length x) (qal (hC.bx (i:=2) rfl) isAgg22 rfl rfl)<|lp (iv z87) (qaa rfl)<|lex.op (hC.lit (s:=si) (vs:=[iv z87]) (xs:=[z87]) underlying22 type3 rfl rfl (nb rfl) rfl rfl (by simp [Value.cells,Sh.n]) rfl (show Elems _ _ si ([iv z87]++([])) ([z87]:List Int) from Elems.cons (⟨rfl,I64.wr (qah h88)⟩) (Elems.nil _ _ _))) ?_
 rintro _ w93 ⟨A89,c90,rfl,hl91,hc92,hC,-,-⟩
 obtain ⟨u95,h96,hb⟩:=bd hb
 refine lex.op (hC.app (i:=5) (s:=si) (xs:=f) (ys:=([z87]:List Int)) (m:=((([z87]:List Int)).length)) rfl underlying22 underlying22 type3 rfl rfl rfl (hC.srco (i:=0) rfl) rfl rfl (by have:=qew h96; simp at this⊢ <;>omega) (by decide)) ?_
 rintro _ w101 ⟨A97,c98,rfl,hl99,hc100,hC,-,-⟩
 refine lp (.pointer (some ((⟨g8,0,none⟩:Addr).add 1))) (qaf (sz:=1) underlying32 rfl sizeOf22 (by decide) rfl e9)<|lex.sk (hC.setf (i:=3) (k:=1) (v:=.slice A97 ((f++([z87]:List Int)).length) c98) rfl sizeOf22 rfl rfl rfl rfl) ?_
 rintro w102 ⟨hC,hF⟩
 refine ln (hK66 _ _ ?_)
 refine rg ?_
 obtain ⟨z103,h104,hb⟩:=bd hb
 refine lp (iv z103) (qau (a:=y) (b:=1) e32 rfl h104)<|lp (iv z103) (qaa rfl)<|ln ?_
 obtain rfl:=os hb
 exact hK58 m59' _ _ (Nat.lt_succ_self _) ⟨z103,(f++([z87]:List Int)),A97,(f++([z87]:List Int)).length,c98,e1,e2,e8,e9,e10,e11,e16,e17,e18,e19,e25,rfl,(qah h104),hC.sE [1,2,3,4,5,6],lN hl1⟩
 replace hb:=tf hq86 hb
 refine Wc.skip (hK80 _ _ ?_)
 refine rg<|lp (.pointer (some ((⟨g8,0,none⟩:Addr).add 1))) (qaf (sz:=1) underlying32 rfl sizeOf22 (by decide) rfl e9)<|lv (.slice u f.length x) (qal (hC.bx (i:=2) rfl) isAgg22 rfl rfl)<|lp _ (qaa e13)<|lex.op (hC.lit (s:=si) (vs:=[iv x73]) (xs:=[x73]) underlying22 type3 rfl rfl (nb rfl) rfl rfl (by simp [Value.cells,Sh.n]) rfl (show Elems _ _ si ([iv x73]++([])) ([x73]:List Int) from Elems.cons (⟨rfl,I64.wr (qbi hr78')⟩) (Elems.nil _ _ _))) ?_
 rintro _ w109 ⟨A105,c106,rfl,hl107,hc108,hC,-,-⟩
 obtain ⟨u111,h112,hb⟩:=bd hb
 refine lex.op (hC.app (i:=5) (s:=si) (xs:=f) (ys:=([x73]:List Int)) (m:=((([x73]:List Int)).length)) rfl underlying22 underlying22 type3 rfl rfl rfl (hC.srco (i:=0) rfl) rfl rfl (by have:=qew h112; simp at this⊢ <;>omega) (by decide)) ?_
 rintro _ w117 ⟨A113,c114,rfl,hl115,hc116,hC,-,-⟩
 refine lp (.pointer (some ((⟨g8,0,none⟩:Addr).add 1))) (qaf (sz:=1) underlying32 rfl sizeOf22 (by decide) rfl e9)<|lex.sk (hC.setf (i:=3) (k:=1) (v:=.slice A113 ((f++([x73]:List Int)).length) c114) rfl sizeOf22 rfl rfl rfl rfl) ?_
 rintro w118 ⟨hC,hF⟩
 refine ln (hK66 _ _ ?_)
 refine rg ?_
 obtain ⟨z119,h120,hb⟩:=bd hb
 refine lp (iv z119) (qau (a:=y) (b:=1) e32 rfl h120)<|lp (iv z119) (qaa rfl)<|ln ?_
 obtain rfl:=os hb
 exact hK58 m59' _ _ (Nat.lt_succ_self _) ⟨z119,(f++([x73]:List Int)),A113,(f++([x73]:List Int)).length,c114,e1,e2,e8,e9,e10,e11,e16,e17,e18,e19,e25,rfl,(qah h120),hC.sE [1,2,3,4,5,6],lN hl1⟩
 replace hb:=tf hq65 hb
 refine Wc.exit rfl ?_
 obtain rfl:=os hb
 obtain rfl:=(lX hl1).symm
 exact hK57 _ _ ⟨y,f,u,f.length,x,e1,e2,e8,e9,e10,e11,e16,e17,e18,e19,e25,e32,S,hC.sE [0,1,2,3,4,5],hbK1⟩
 clear hb hC hl1
 rintro E122 w121 ⟨y,f,u,H,x,e1,e2,e8,e9,e10,e11,e16,e17,e18,e19,e25,e32,S,hC,hb⟩
 obtain ⟨rfl,Y,Z⟩:=(hC.ow (i:=4) rfl).qae
 refine hK26 _ _<|rg ?_
 obtain ⟨z123,h124,hb⟩:=bd hb
 refine lp (iv z123) (qau (a:=g) (b:=1) e18 rfl h124)<|lp (iv z123) (qaa rfl)<|ln ?_
 obtain rfl:=os hb
 exact hK18 m19' _ _ (Nat.lt_succ_self _) ⟨z123,(c++([x28]:List Int)),f,A48,(c++([x28]:List Int)).length,c49,u,f.length,x,e1,e2,e8,e9,e16,e17,rfl,(qah h124),hC.sE [0,1,2,3,4,5],lN hl0⟩
 replace hb:=tf hq25 hb
 refine Wc.exit rfl ?_
 obtain rfl:=os hb
 obtain rfl:=(lX hl0).symm
 exact hK17 _ _ ⟨g,c,j,l,c.length,o,p,j.length,q,e8,e9,R,hC.sE [1,2,3,4],hbK0⟩
 clear hb hC hl0
 rintro E126 w125 ⟨g,c,j,l,D,o,p,G,q,e8,e9,R,hC,hb⟩
 subst hf16
 obtain ⟨rfl,T,U⟩:=(hC.ow (i:=2) rfl).qae
 obtain ⟨rfl,V,X⟩:=(hC.ow (i:=3) rfl).qae
 refine hK12 _ _<|Wc.seq fun _ hK127=>rg<|lv (.agg #[.slice l c.length o,.slice p j.length q,iv z]) (qaq (hC.bx (i:=1) rfl) isAgg32 sizeOf32 e9)<|lex.sk (hC.seta (i:=0) (ds:=[.slice l c.length o,.slice p j.length q,iv z]) rfl type32 rfl rfl rfl e8 rfl) ?_
 rintro w128 ⟨hC,hF⟩
 refine ln (hK127 _ _ ?_)
 obtain rfl:=os hb
 refine Wc.ret (hKR _ _ ?_)
 refine ⟨_,res1 results49 ⟨_,e8,qai (hC.bx (i:=0) rfl) isAgg32 sizeOf32⟩,_,rfl,l,c.length,o,p,j.length,q,rfl,a0,hC.sE [2,3]⟩

theorem mirror_Switch_c1_ok (n:Nat) {w:World} {O0:List Nat} (hO: ∀k∈O0,k<w.heap.size) {f:Int} (h:I64 f) {d:Nat} {c:Int} (g:I64 c) (hio:Tk O0 w [.box d 3 [iv c]]) {r:Bool} (hb:F.qfl n f c=some r):
    Calls prog 51 #[iv f,pg d] w fun e w'=> ∃v,e=.returned v∧v=.bool r∧Cx (fun k=>k∈blocks [.box d 3 [iv c]]) O0 w w' [.box d 3 [iv c]]:=by
 unfold F.qfl at hb
 have hC:=Cx.startTk hO hio
 have hsub:=hio.2.2
 clear hO
 clear hio hsub
 obtain ⟨I,hI,hC⟩: ∃I:Nat→Prop,I=(fun k=>k∈blocks [.box d 3 [iv c]])∧Cx I O0 w w ([.box d 3 [iv c]]):=⟨_,rfl,hC⟩
 refine qao func51 rfl (by rw [ntmps51]; exact nb rfl) fun KR hKR=>?_
 refine Wc.seq fun _ hK2=>rg<|lp (.bool false) (qab rfl)<|ln (hK2 _ _ ?_)
 refine Wc.seq fun _ hK3=>rg<|lp (iv f) (qaa rfl)<|lv (iv c) (qaw isAgg3 rfl ((hC.bx (i:=0) rfl).cell (j:=0) rfl))<|lp (.bool (decide (f=c))) (qbl (k:=.i64) (a:=f) (b:=c) rfl rfl)<|lp (.bool (decide (f=c))) (qab rfl)<|ln (hK3 _ _ ?_)
 obtain rfl:=os hb
 subst hI
 refine Wc.ret (hKR _ _ ?_)
 refine ⟨_,res1 results51 (tV (.bool (decide (f=c))) rfl),_,rfl,rfl,hC.sE [0]⟩

theorem mirror_exchange_c2_ok (n:Nat) {w:World} {O0:List Nat} (hO: ∀k∈O0,k<w.heap.size) {f:Int} (g:I64 f) {c:Nat} {a:Nat} {b:Int} (d:I64 b) (hio:Tk O0 w [.box c 68 [.func (.func 51) #[] #[pg a]],.box a 3 [iv b]]) {r:Int} (hb:F.qgt n f b=some r):
    Calls prog 58 #[iv f,pg c] w fun e w'=> ∃v,e=.returned v∧v=iv r∧I64 r∧Cx (fun k=>k∈blocks [.box c 68 [.func (.func 51) #[] #[pg a]],.box a 3 [iv b]]) O0 w w' [.box c 68 [.func (.func 51) #[] #[pg a]],.box a 3 [iv b]]:=by
 unfold F.qgt at hb
 have hC:=Cx.startTk hO hio
 have hsub:=hio.2.2
 clear hO
 clear hio hsub
 obtain ⟨I,hI,hC⟩: ∃I:Nat→Prop,I=(fun k=>k∈blocks [.box c 68 [.func (.func 51) #[] #[pg a]],.box a 3 [iv b]])∧Cx I O0 w w ([.box c 68 [.func (.func 51) #[] #[pg a]],.box a 3 [iv b]]):=⟨_,rfl,hC⟩
 refine qao func58 rfl (by rw [ntmps58]; exact nb rfl) fun KR hKR=>?_
 refine Wc.seq fun _ hK3=>rg<|lp (iv 0) (qab rfl)<|ln (hK3 _ _ ?_)
 refine Wc.seq fun _ hK4=>?_
 refine Wc.seq fun _ hK5=>rg<|lv (.func (.func 51) #[] #[pg a]) (qaw isAgg68 rfl ((hC.bx (i:=0) rfl).cell (j:=0) rfl))<|lp (iv f) (qaa rfl) ?_
 replace hC:Cx I O0 w w ([.box a 3 [iv b]]++[.box c 68 [.func (.func 51) #[] #[pg a]]]):=hC.sE [1,0]
 obtain ⟨y6,h7,hb⟩:=bd hb
 refine lex.cl (⟨_,_,qco (vs:=[iv f,pg a]) (ca:=#[pg a]) call51 rfl rfl rfl,mirror_Switch_c1_ok n hC.lt g d hC.give h7⟩) ?_
 rintro _ w8 ⟨rfl,hK⟩
 replace hC:=hC.back hK
 clear hK
 refine ln (hK5 _ _ ?_)
 refine Wc.cond (t:=y6) (rfl) (fun hq9=>?_) (fun hq9=>?_)
 replace hb:=tt hq9 hb
 refine Wc.seq fun _ hK10=>rg<|lp (iv (-1)) (qab rfl)<|ln (hK10 _ _ ?_)
 obtain rfl:=os hb
 subst hI
 refine Wc.ret (hKR _ _ ?_)
 refine ⟨_,res1 results58 (tV (iv (-1)) rfl),_,rfl,rfl,(show I64 (-1) from by unfold I64; omega),hC.sE [1,0]⟩
 replace hb:=tf hq9 hb
 refine Wc.skip (hK4 _ _ ?_)
 refine Wc.seq fun _ hK11=>rg<|lp (iv 1) (qab rfl)<|ln (hK11 _ _ ?_)
 obtain rfl:=os hb
 subst hI
 refine Wc.ret (hKR _ _ ?_)
 refine ⟨_,res1 results58 (tV (iv 1) rfl),_,rfl,rfl,(show I64 1 from by unfold I64; omega),hC.sE [1,0]⟩

theorem mirror_exchange_c1_ok (n:Nat) {w:World} {O0:List Nat} (hO: ∀k∈O0,k<w.heap.size) {z:Int} (G:I64 z) {D:Int} (N:I64 D) {u:Nat} {c:Nat} {d:Int} (A:I64 d) {s:Nat} {f:Option Addr} {x g:Nat} {m:List Int} (B:Rep O0 w (.sl si) [.slice f x g] m) {h:Option Addr} {y l:Nat} {o:List Int} (C:Rep O0 w (.sl si) [.slice h y l] o) {p:Int} (M:I64 p) (hio:Tk O0 w [.box u 68 [.func (.func 51) #[] #[pg c]],.box c 3 [iv d],.box s 32 [.slice f x g,.slice h y l,iv p]]) {r:Int} (hb:F.qgu n z D d m o p=some r):
    Calls prog 56 #[iv z,iv D,pg u,pg s] w fun e w'=> ∃v,e=.returned v∧v=iv r∧I64 r∧Cx (fun k=>k∈blocks [.box u 68 [.func (.func 51) #[] #[pg c]],.box c 3 [iv d],.box s 32 [.slice f x g,.slice h y l,iv p]]) O0 w w' [.box u 68 [.func (.func 51) #[] #[pg c]],.box c 3 [iv d],.box s 32 [.slice f x g,.slice h y l,iv p]]:=by
 unfold F.qgu at hb
 have hC:=Cx.startTk hO hio
 have hsub:=hio.2.2
 replace hC:=hC.argTk (by first | exact hsub | exact fun k hk=>hsub k (by simpa [blocks,Fact.blk] using hk)) B
 replace hC:=hC.argTk (by first | exact hsub | exact fun k hk=>hsub k (by simpa [blocks,Fact.blk] using hk)) C
 clear hO
 obtain ⟨rfl,H,J⟩:=B.qae
 obtain ⟨rfl,K,L⟩:=C.qae
 clear hio hsub
 obtain ⟨I,hI,hC⟩: ∃I:Nat→Prop,I=(fun k=>k∈blocks [.box u 68 [.func (.func 51) #[] #[pg c]],.box c 3 [iv d],.box s 32 [.slice f m.length g,.slice h o.length l,iv p]])∧Cx I O0 w w ([.ro (.sl si) [.slice h o.length l] o,.ro (.sl si) [.slice f m.length g] m,.box u 68 [.func (.func 51) #[] #[pg c]],.box c 3 [iv d],.box s 32 [.slice f m.length g,.slice h o.length l,iv p]]):=⟨_,rfl,hC⟩
 refine qao func56 rfl (by rw [ntmps56]; exact nb rfl) fun KR hKR=>?_
 refine Wc.seq fun _ hK6=>rg<|lp (iv 0) (qab rfl)<|ln (hK6 _ _ ?_)
 refine Wc.seq fun _ hK7=>?_
 refine Wc.block<|Wc.seq fun _ hK8=>rg<|lv (.func (.func 51) #[] #[pg c]) (qaw isAgg68 rfl ((hC.bx (i:=2) rfl).cell (j:=0) rfl))<|lp (iv z) (qaa rfl) ?_
 replace hC:Cx I O0 w w ([.box c 3 [iv d]]++[.ro (.sl si) [.slice h o.length l] o,.ro (.sl si) [.slice f m.length g] m,.box u 68 [.func (.func 51) #[] #[pg c]],.box s 32 [.slice f m.length g,.slice h o.length l,iv p]]):=hC.sE [3,0,1,2,4]
 obtain ⟨y9,h10,hb⟩:=bd hb
 refine lex.cl (⟨_,_,qco (vs:=[iv z,pg c]) (ca:=#[pg c]) call51 rfl rfl rfl,mirror_Switch_c1_ok n hC.lt G A hC.give h10⟩) ?_
 rintro _ w11 ⟨rfl,hK⟩
 replace hC:=hC.back hK
 clear hK
 refine lp (.bool (!y9)) (qbt (q:=y9) rfl)<|lp (.bool (!y9)) (qab rfl)<|ln (hK8 _ _ ?_)
 refine Wc.cond (t:=(!y9)) (rfl) (fun hq12=>?_) (fun hq12=>?_)
 replace hb:=tt hq12 hb
 refine Wc.seq fun _ hK13=>rg<|lp (iv 0) (qab rfl)<|ln (hK13 _ _ ?_)
 obtain rfl:=os hb
 subst hI
 refine Wc.ret (hKR _ _ ?_)
 refine ⟨_,res1 results56 (tV (iv 0) rfl),_,rfl,rfl,(show I64 0 from by unfold I64; omega),hC.sE [3,0,4]⟩
 replace hb:=tf hq12 hb
 refine Wc.seq fun _ hK14=>rg<|lp (.pointer (some ((⟨s,0,none⟩:Addr).add 0))) (qaf (sz:=1) underlying32 rfl sizeOf22 (by decide) rfl rfl)<|lv (.slice f m.length g) (qal (hC.bx (i:=4) rfl) isAgg22 rfl rfl)<|lp (iv z) (qaa rfl) ?_
 obtain ⟨x15,h16,hb⟩:=bd hb
 obtain ⟨ad17,cs18,hA,hc19,hr20⟩:=hC.elr (i:=2) rfl (qad h16).2
 subst hA
 refine lp (.pointer (some (ad17.add (z.toNat*1)))) (qar (a:=z) underlying22 sizeOf3 rfl rfl (qad h16).1) ?_
 obtain ⟨rfl,hr20'⟩:=hr20
 refine lv (iv x15) (qaw isAgg3 rfl (hc19 0 _ rfl))<|lp (.bool (decide (x15=1))) (qbl (k:=.i64) (a:=x15) (b:=1) rfl rfl)<|lp (.bool (decide (x15=1))) (qab rfl)<|ln (hK14 _ _ ?_)
 refine Wc.cond (t:=(decide (x15=1))) (rfl) (fun hq21=>?_) (fun hq21=>?_)
 replace hb:=tt hq21 hb
 refine Wc.seq fun _ hK22=>rg<|lp (iv (-3)) (qab rfl)<|ln (hK22 _ _ ?_)
 obtain rfl:=os hb
 subst hI
 refine Wc.ret (hKR _ _ ?_)
 refine ⟨_,res1 results56 (tV (iv (-3)) rfl),_,rfl,rfl,(show I64 (-3) from by unfold I64; omega),hC.sE [3,0,4]⟩
 replace hb:=tf hq21 hb
 refine Wc.skip (hK7 _ _ ?_)
 refine Wc.seq fun _ hK23=>rg<|lp (iv (-1)) (qab rfl)<|ln (hK23 _ _ ?_)
 obtain rfl:=os hb
 subst hI
 refine Wc.ret (hKR _ _ ?_)
 refine ⟨_,res1 results56 (tV (iv (-1)) rfl),_,rfl,rfl,(show I64 (-1) from by unfold I64; omega),hC.sE [3,0,4]⟩

theorem mirror_move_c1_ok (n:Nat) {w:World} {O0:List Nat} (hO: ∀k∈O0,k<w.heap.size) {x:Int} (D:I64 x) {y:Nat} {d:Nat} {c:Nat} {g:Int} (B:I64 g) {f:Nat} {h:Option Addr} {t l:Nat} {p:List Int} (z:Rep O0 w (.sl si) [.slice h t l] p) {m:Option Addr} {u o:Nat} {q:List Int} (A:Rep O0 w (.sl si) [.slice m u o] q) {s:Int} (C:I64 s) (hio:Tk O0 w [.box y 70 [.func (.func 56) #[] #[pg d,pg f]],.box d 68 [.func (.func 51) #[] #[pg c]],.box c 3 [iv g],.box f 32 [.slice h t l,.slice m u o,iv s]]) {r:Int} (hb:F.qgi n x g p q s=some r):
    Calls prog 64 #[iv x,pg y] w fun e w'=> ∃v,e=.returned v∧v=iv r∧I64 r∧Cx (fun k=>k∈blocks [.box y 70 [.func (.func 56) #[] #[pg d,pg f]],.box d 68 [.func (.func 51) #[] #[pg c]],.box c 3 [iv g],.box f 32 [.slice h t l,.slice m u o,iv s]]) O0 w w' [.box y 70 [.func (.func 56) #[] #[pg d,pg f]],.box d 68 [.func (.func 51) #[] #[pg c]],.box c 3 [iv g],.box f 32 [.slice h t l,.slice m u o,iv s]]:=by
 unfold F.qgi at hb
 have hC:=Cx.startTk hO hio
 have hsub:=hio.2.2
 replace hC:=hC.argTk (by first | exact hsub | exact fun k hk=>hsub k (by simpa [blocks,Fact.blk] using hk)) z
 replace hC:=hC.argTk (by first | exact hsub | exact fun k hk=>hsub k (by simpa [blocks,Fact.blk] using hk)) A
 clear hO
 obtain ⟨rfl,G,H⟩:=z.qae
 obtain ⟨rfl,J,K⟩:=A.qae
 clear hio hsub
 obtain ⟨I,hI,hC⟩: ∃I:Nat→Prop,I=(fun k=>k∈blocks [.box y 70 [.func (.func 56) #[] #[pg d,pg f]],.box d 68 [.func (.func 51) #[] #[pg c]],.box c 3 [iv g],.box f 32 [.slice h p.length l,.slice m q.length o,iv s]])∧Cx I O0 w w ([.ro (.sl si) [.slice m q.length o] q,.ro (.sl si) [.slice h p.length l] p,.box y 70 [.func (.func 56) #[] #[pg d,pg f]],.box d 68 [.func (.func 51) #[] #[pg c]],.box c 3 [iv g],.box f 32 [.slice h p.length l,.slice m q.length o,iv s]]):=⟨_,rfl,hC⟩
 refine qao func64 rfl (by rw [ntmps64]; exact nb rfl) fun KR hKR=>?_
 refine Wc.seq fun _ hK7=>rg<|lp (iv 0) (qab rfl)<|ln (hK7 _ _ ?_)
 refine Wc.seq fun _ hK8=>rg<|lp (iv x) (qaa rfl)<|lv (.func (.func 56) #[] #[pg d,pg f]) (qaw isAgg70 rfl ((hC.bx (i:=2) rfl).cell (j:=0) rfl))<|lp (iv x) (qaa rfl) ?_
 obtain ⟨u9,h10,hb⟩:=bd hb
 obtain ⟨z11,h12,hb⟩:=bd hb
 refine lp (iv z11) (qfu (a:=x) (b:=4) rfl rfl h10 h12)<|lp (iv x) (qaa rfl) ?_
 obtain ⟨u13,h14,hb⟩:=bd hb
 refine lp (iv (Int.tmod x 4)) (pu_remc (a:=x) (b:=4) rfl rfl h14) ?_
 replace hC:Cx I O0 w w ([.box d 68 [.func (.func 51) #[] #[pg c]],.box c 3 [iv g],.box f 32 [.slice h p.length l,.slice m q.length o,iv s]]++[.ro (.sl si) [.slice m q.length o] q,.ro (.sl si) [.slice h p.length l] p,.box y 70 [.func (.func 56) #[] #[pg d,pg f]]]):=hC.sE [3,4,5,0,1,2]
 obtain ⟨y15,h16,hb⟩:=bd hb
 refine lex.cl (⟨_,_,qco (vs:=[iv z11,iv (Int.tmod x 4),pg d,pg f]) (ca:=#[pg d,pg f]) call56 rfl rfl rfl,mirror_exchange_c1_ok n hC.lt (qah h12) (I64.rem D) B (hC.rd (i:=4) rfl) (hC.rd (i:=3) rfl) C hC.give h16⟩) ?_
 rintro _ w18 ⟨rfl,hr17,hK⟩
 replace hC:=hC.back hK
 clear hK
 obtain ⟨y19,h20,hb⟩:=bd hb
 refine lex.cl (⟨_,_,qam (vs:=[iv x,iv y15]) call33 rfl rfl rfl,qhj n hC.lt D hr17 h20⟩) ?_
 rintro _ w22 ⟨rfl,hr21,hK⟩
 replace hC:=hC.merge hK
 clear hK
 refine lp (iv y19) (qab rfl)<|ln (hK8 _ _ ?_)
 obtain rfl:=os hb
 subst hI
 refine Wc.ret (hKR _ _ ?_)
 refine ⟨_,res1 results64 (tV (iv y19) rfl),_,rfl,rfl,hr21,hC.sE [5,0,1,2]⟩

theorem qhl (n:Nat) {w:World} {O0:List Nat} (hO: ∀k∈O0,k<w.heap.size) {o:Bool} {h:Option Addr} {p j:Nat} {f:List (Int×(Int×Int))} (q:Rep O0 w (.sl (.pr si (.pr si si))) [.slice h p j] f) {r:Int} (hb:F.qdj n o f=some r):
    Calls prog 55 #[.agg #[.bool o,.slice h p j]] w fun e w'=> ∃v,e=.returned v∧v=iv r∧I64 r∧Cx (fun _=>False) O0 w w' []:=by
 unfold F.qdj at hb
 have hC:=Cx.start hO
 replace hC:=hC.arg rfl q
 clear hO
 obtain ⟨rfl,u,x⟩:=q.qae
 refine qao func55 rfl (by rw [ntmps55]; exact nb rfl) fun KR hKR=>?_
 refine Wc.seq fun _ hK2=>rg<|lex.op (hC.box (cs:=[.bool o,.slice h f.length j]) rfl rfl) ?_
 rintro _ w4 ⟨g3,rfl,hC,hF,-⟩
 refine lp (iv 0) (qab rfl)<|ln (hK2 _ _ ?_)
 refine Wc.seq fun _ hK6=>rg<|lp (iv 0) (qab rfl)<|ln (hK6 _ _ ?_)
 refine Wc.seq fun _ hK7=>?_
 refine Wc.seq fun _ hK8=>rg<|lp (.pointer (some ((⟨g3,0,none⟩:Addr).add 1))) (qaf (sz:=1) underlying37 rfl sizeOf35 (by decide) rfl rfl)<|lv (.slice h f.length j) (qal (hC.bx (i:=0) rfl) isAgg35 rfl rfl)<|lp (iv (f.length:Int)) (qay (A:=h) (n:=f.length) (m:=j) underlying35 rfl)<|lp (iv 0) (qaa rfl)<|ln (hK8 _ _ ?_)
 obtain ⟨o9,hl0,f9,hf9,hb⟩:=bn hb
 refine Wc.cut (fun E wv=> ∃(d:Int) (g:Int),E 2=iv 0∧E 3=iv d∧I64 d∧I64 g∧Cx (fun _=>False) O0 w wv []∧f9 (d,g)=some r) (fun _ hK10=>?_) ?_
 refine Wc.block ?_
 refine Wc.loop (fun m E wv=> ∃(d:Int) (g:Int),E 2=iv 0∧E 3=iv d∧E 7=.slice h f.length j∧E 8=iv (f.length:Int)∧E 9=iv g∧I64 d∧I64 g∧Cx (fun _=>False) O0 w wv [.ro (.sl (.pr si (.pr si si))) [.slice h f.length j] f]∧loopN m (F.qct n f) (d,g)=some o9) n ⟨0,0,rfl,rfl,rfl,rfl,rfl,(show I64 0 from by unfold I64; omega),(show I64 0 from by unfold I64; omega),hC.sE [1],hl0⟩ ?_
 have hbK0:=hb
 clear hb hC hl0
 rintro m12 E14 w13 ⟨d,g,e2,e3,e7,e8,e9,l,s,hC,hl0⟩ K11 hK11
 obtain ⟨m12',o15,rfl,hb,hl0⟩:=qax hl0
 unfold F.qct at hb
 refine Wc.seq fun _ hK16=>rg<|lp _ (qbj e9 e8)<|ln (hK16 _ _ ?_)
 refine Wc.seq fun _ hK17=>?_
 refine Wc.cond (t:=(decide (g<(f.length:Int)))) (rfl) (fun hq18=>?_) (fun hq18=>?_)
 replace hb:=tt hq18 hb
 refine Wc.skip (hK17 _ _ ?_)
 refine Wc.seq fun _ hK19=>?_
 refine Wc.block<|Wc.seq fun _ hK20=>rg ?_
 obtain ⟨x21,h22,hb⟩:=bd hb
 obtain ⟨ad23,cs24,hA,hc25,hr26⟩:=hC.elr (i:=0) rfl (qad h22).2
 subst hA
 refine lp (.pointer (some (ad23.add (g.toNat*3)))) (qar (a:=g) underlying35 sizeOf66 e7 e9 (qad h22).1) ?_
 obtain ⟨k27,k28,rfl,hr29,hr30⟩:=hr26
 obtain ⟨rfl,hr29⟩:=hr29
 obtain ⟨k31,k32,rfl,hr33,hr34⟩:=hr30
 obtain ⟨rfl,hr33⟩:=hr33
 obtain ⟨rfl,hr34⟩:=hr34
 refine lv (.agg #[iv x21.1,iv x21.2.1,iv x21.2.2]) (ld_agg isAgg66 sizeOf66 rfl rfl hc25)<|lex.op (hC.alloc (cs:=[iv 0,iv 0,iv 0]) zeroValue66 rfl) ?_
 rintro _ w36 ⟨g35,rfl,hC,hF,-⟩
 refine lex.sk (hC.seta (i:=0) (ds:=[iv x21.1,iv x21.2.1,iv x21.2.2]) rfl type66 rfl rfl rfl rfl rfl) ?_
 rintro w38 ⟨hC,hF⟩
 refine ln (hK20 _ _ ?_)
 refine rg<|lp _ (qaa e3)<|lp (.pointer (some ((⟨g35,0,none⟩:Addr).add 2))) (qaf (sz:=1) underlying66 rfl sizeOf3 (by decide) rfl rfl)<|lv (iv x21.2.2) (qal (hC.bx (i:=0) rfl) isAgg3 rfl rfl)<|lp (.pointer (some ((⟨g35,0,none⟩:Addr).add 2))) (qaf (sz:=1) underlying66 rfl sizeOf3 (by decide) rfl rfl)<|lv (iv x21.2.2) (qal (hC.bx (i:=0) rfl) isAgg3 rfl rfl) ?_
 obtain ⟨z39,h40,hb⟩:=bd hb
 refine lp (iv z39) (pu_negc (a:=x21.2.2) rfl h40)<|lp (iv (max (max d x21.2.2) z39)) (pu_max3 (a:=d) (b:=x21.2.2) (c:=z39) rfl rfl rfl)<|lp (iv (max (max d x21.2.2) z39)) (qab rfl)<|ln (hK19 _ _ ?_)
 refine rg ?_
 obtain ⟨z41,h42,hb⟩:=bd hb
 refine lp (iv z41) (qau (a:=g) (b:=1) e9 rfl h42)<|lp (iv z41) (qaa rfl)<|ln ?_
 obtain rfl:=os hb
 exact hK11 m12' _ _ (Nat.lt_succ_self _) ⟨(max (max d x21.2.2) z39),z41,e2,rfl,e7,e8,rfl,(I64.max (I64.max l (qbi hr34)) (qah h40)),(qah h42),hC.sE [1],lN hl0⟩
 replace hb:=tf hq18 hb
 refine Wc.exit rfl ?_
 obtain rfl:=os hb
 obtain rfl:=(lX hl0).symm
 exact hK10 _ _ ⟨d,g,e2,e3,l,s,hC.sE [],hbK0⟩
 clear hb hC hl0
 rintro E44 w43 ⟨d,g,e2,e3,l,s,hC,hb⟩
 subst hf9
 refine hK7 _ _<|Wc.seq fun _ hK45=>rg<|lp _ (qaa e3)<|lp (iv d) (qab rfl)<|ln (hK45 _ _ ?_)
 obtain rfl:=os hb
 refine Wc.ret (hKR _ _ ?_)
 refine ⟨_,res1 results55 (tV (iv d) rfl),_,rfl,rfl,l,hC.sE []⟩
