import Derived.Test.YtpnppjlnfhlmpaaS
import Derived.Test.YtpnppjlnfhlmpaaG1
import Derived.Test.YtpnppjlnfhlmpaaG2
set_option linter.all false
namespace Go.Proofs.Ytpnppjlnfhlmpaa
open Ev Try
set_option maxRecDepth 100000
set_option maxHeartbeats 4000000
theorem diagram_Faces_ok (n:Nat) {w:World} {O0:List Nat} (hO: ∀k∈O0,k<w.heap.size) {d:Option Addr} {j f:Nat} {g:List Int} (l:Rep O0 w (.sl si) [.slice d j f] g) {b:Option Addr} {o c:Nat} {a:List Int} (p:Rep O0 w (.sl si) [.slice b o c] a) {h:Int} (s:I64 h) {r:(List (List Int))} (hb:F.diagram_Faces n g a h=some r):
    Calls prog 13 #[.agg #[.slice d j f,.slice b o c,iv h]] w fun e w'=> ∃v,e=.returned v∧∃(A0:Option Addr) (m0 c0:Nat),v=.slice A0 m0 c0∧Cx (fun _=>False) O0 w w' [.own 22 (.sl si) (.slice A0 m0 c0) r]:=by
 unfold F.diagram_Faces at hb
 have hC:=Cx.start hO
 replace hC:=hC.arg rfl l
 replace hC:=hC.arg rfl p
 clear hO
 obtain ⟨rfl,y,z⟩:=l.qae
 obtain ⟨rfl,u,x⟩:=p.qae
 refine qao func13 rfl (by rw [ntmps13]; exact nb rfl) fun KR hKR=>?_
 refine Wc.seq fun _ hK3=>rg<|lex.op (hC.box (cs:=[.slice d g.length f,.slice b a.length c,iv h]) rfl rfl) ?_
 rintro _ w5 ⟨g4,rfl,hC,hF,-⟩
 refine lp (.slice none 0 0) (qab rfl)<|ln (hK3 _ _ ?_)
 refine Wc.seq fun _ hK7=>?_
 refine Wc.seq fun _ hK8=>rg<|lv (.agg #[.slice d g.length f,.slice b a.length c,iv h]) (qaq (hC.bx (i:=0) rfl) isAgg32 sizeOf32 rfl) ?_
 obtain ⟨y9,h10,hb⟩:=bd hb
 refine lex.cl (⟨_,_,qam (vs:=[.agg #[.slice d g.length f,.slice b a.length c,iv h]]) call11 rfl rfl rfl,qdm n hC.lt (hC.rd (i:=2) rfl) (hC.rd (i:=1) rfl) s h10⟩) ?_
 rintro _ w11 ⟨rfl,hK⟩
 replace hC:=hC.merge hK
 clear hK
 refine lp (.bool (!y9)) (qbt (q:=y9) rfl)<|ln (hK8 _ _ ?_)
 refine Wc.cond (t:=(!y9)) (rfl) (fun hq12=>?_) (fun hq12=>?_)
 replace hb:=tt hq12 hb
 refine Wc.seq fun _ hK13=>rg<|lp (.slice none 0 0) (qab rfl)<|ln (hK13 _ _ ?_)
 replace hC:=hC.nil 22 (.sl si)
 obtain rfl:=os hb
 refine Wc.ret (hKR _ _ ?_)
 refine ⟨_,res1 results13 (tV (.slice none 0 0) rfl),_,rfl,none,0,0,rfl,hC.sE [0]⟩
 replace hb:=tf hq12 hb
 refine Wc.skip (hK7 _ _ ?_)
 refine Wc.seq fun _ hK15=>rg<|lp (.func (.func 30) #[] #[]) (qab rfl)<|ln (hK15 _ _ ?_)
 refine Wc.seq fun _ hK16=>rg<|lp (.pointer (some ((⟨g4,0,none⟩:Addr).add 1))) (qaf (sz:=1) underlying32 rfl sizeOf22 (by decide) rfl rfl)<|lv (.slice b a.length c) (qal (hC.bx (i:=0) rfl) isAgg22 rfl rfl)<|lp (iv (a.length:Int)) (qay (A:=b) (n:=a.length) (m:=c) underlying22 rfl)<|lp (.func (.func 30) #[] #[]) (qaa rfl)<|lp (.func (.func 32) #[] #[pg g4]) (qga rfl) ?_
 replace hC:Cx (fun _=>False) O0 w w11 ([.box g4 32 [.slice d g.length f,.slice b a.length c,iv h]]++[.ro (.sl si) [.slice b a.length c] a,.ro (.sl si) [.slice d g.length f] g]):=hC.sE [0,1,2]
 obtain ⟨y17,h18,hb⟩:=bd hb
 refine lex.cl (⟨_,_,qam (vs:=[iv (a.length:Int),.func (.func 30) #[] #[],.func (.func 32) #[] #[pg g4]]) call31 rfl rfl rfl,qgb n hC.lt (I64.len u x) (hC.rd (i:=2) rfl) (hC.rd (i:=1) rfl) s hC.give h18⟩) ?_
 rintro _ w23 ⟨A19,m20,c21,rfl,hK⟩
 replace hC:=hC.back hK
 clear hK
 obtain ⟨rfl,hl24,hc25⟩:=(hC.ow (i:=0) rfl).qae
 refine lp (.slice A19 y17.length c21) (qab rfl)<|ln (hK16 _ _ ?_)
 obtain rfl:=os hb
 refine Wc.ret (hKR _ _ ?_)
 refine ⟨_,res1 results13 (tV (.slice A19 y17.length c21) rfl),_,rfl,A19,y17.length,c21,rfl,hC.sE [0]⟩

theorem unraveltop_awake_ok (n:Nat) {w:World} {O0:List Nat} (hO: ∀k∈O0,k<w.heap.size) {r:Bool} (hb:F.qhc n=some r):
    Calls prog 4 #[] w fun e w'=> ∃v,e=.returned v∧v=.bool r∧Cx (fun _=>False) O0 w w' []:=by
 unfold F.qhc at hb
 have hC:=Cx.start hO
 clear hO
 refine qao func4 rfl (by rw [ntmps4]; exact nb rfl) fun KR hKR=>?_
 refine Wc.seq fun _ hK1=>rg<|lp (.bool false) (qab rfl)<|ln (hK1 _ _ ?_)
 refine Wc.seq fun _ hK2=>rg<|lex.op (hC.lit (s:=si) (vs:=[iv 1]) (xs:=[1]) underlying22 type3 rfl rfl (nb rfl) rfl rfl (by simp [Value.cells,Sh.n]) rfl (show Elems _ _ si ([iv 1]++([])) ([1]:List Int) from Elems.cons (⟨rfl,I64.wr (show I64 1 from by unfold I64; omega)⟩) (Elems.nil _ _ _))) ?_
 rintro _ w7 ⟨A3,c4,rfl,hl5,hc6,hC,-,-⟩
 refine lex.op (hC.lit (s:=si) (vs:=[iv 1,iv 0,iv 3,iv 2]) (xs:=[1,0,3,2]) underlying22 type3 rfl rfl (nb rfl) rfl rfl (by simp [Value.cells,Sh.n]) rfl (show Elems _ _ si ([iv 1]++([iv 0]++([iv 3]++([iv 2]++([]))))) ([1,0,3,2]:List Int) from Elems.cons (⟨rfl,I64.wr (show I64 1 from by unfold I64; omega)⟩) (Elems.cons (⟨rfl,I64.wr (show I64 0 from by unfold I64; omega)⟩) (Elems.cons (⟨rfl,I64.wr (show I64 3 from by unfold I64; omega)⟩) (Elems.cons (⟨rfl,I64.wr (show I64 2 from by unfold I64; omega)⟩) (Elems.nil _ _ _)))))) ?_
 rintro _ w13 ⟨A9,c10,rfl,hl11,hc12,hC,-,-⟩
 refine lp (.agg #[.slice A3 ((([1]:List Int)).length) c4,.slice A9 ((([1,0,3,2]:List Int)).length) c10,iv 0]) (qat (places:=[(0,1),(1,1),(2,1)]) (pv:=[(0,.slice A3 ((([1]:List Int)).length) c4),(1,.slice A9 ((([1,0,3,2]:List Int)).length) c10)]) type32 underlying32 rfl (qag type22 (qag type22 (qag type3 qbb rfl rfl) rfl rfl) rfl rfl) rfl (by simp [Instr.fill,Value.cells]))<|lex.op (hC.alloc (cs:=[.slice none 0 0,.slice none 0 0,iv 0]) zeroValue32 rfl) ?_
 rintro _ w16 ⟨g15,rfl,hC,hF,-⟩
 refine lex.sk (hC.seta (i:=0) (ds:=[.slice A3 ((([1]:List Int)).length) c4,.slice A9 ((([1,0,3,2]:List Int)).length) c10,iv 0]) rfl type32 rfl rfl rfl rfl rfl) ?_
 rintro w18 ⟨hC,hF⟩
 refine ln (hK2 _ _ ?_)
 refine Wc.seq fun _ hK19=>rg<|lv (.agg #[.slice A3 ((([1]:List Int)).length) c4,.slice A9 ((([1,0,3,2]:List Int)).length) c10,iv 0]) (qaq (hC.bx (i:=0) rfl) isAgg32 sizeOf32 rfl) ?_
 obtain ⟨y20,h21,hb⟩:=bd hb
 refine lex.cl (⟨_,_,qam (vs:=[.agg #[.slice A3 ((([1]:List Int)).length) c4,.slice A9 ((([1,0,3,2]:List Int)).length) c10,iv 0]]) call11 rfl rfl rfl,qdm n (hC.lentLt [.slice A9 ((([1,0,3,2]:List Int)).length) c10,.slice A3 ((([1]:List Int)).length) c4]) ((hC.ow (i:=2) rfl).lend (vs:=[.slice A9 ((([1,0,3,2]:List Int)).length) c10,.slice A3 ((([1]:List Int)).length) c4]) (by simp)) ((hC.ow (i:=1) rfl).lend (vs:=[.slice A9 ((([1,0,3,2]:List Int)).length) c10,.slice A3 ((([1]:List Int)).length) c4]) (by simp)) (show I64 0 from by unfold I64; omega) h21⟩) ?_
 rintro _ w22 ⟨rfl,hK⟩
 replace hC:=hC.mergeF hK rfl
 clear hK
 refine lp (.bool y20) (qaa rfl) ?_
 rcases bS y20 with hq23 | hq23
 replace hb:=tt hq23 hb
 refine gv rfl rfl y20 rfl hq23 (.agg #[.slice A3 ((([1]:List Int)).length) c4,.slice A9 ((([1,0,3,2]:List Int)).length) c10,iv 0]) (qaq (hC.bx (i:=0) rfl) isAgg32 sizeOf32 rfl) ?_
 obtain ⟨y24,h25,hb⟩:=bd hb
 refine lex.gcl (qdp rfl rfl (show _=Value.bool y20 from rfl) hq23) (⟨_,_,qam (vs:=[.agg #[.slice A3 ((([1]:List Int)).length) c4,.slice A9 ((([1,0,3,2]:List Int)).length) c10,iv 0]]) call12 rfl rfl rfl,qhu n (hC.lentLt [.slice A9 ((([1,0,3,2]:List Int)).length) c10,.slice A3 ((([1]:List Int)).length) c4]) ((hC.ow (i:=2) rfl).lend (vs:=[.slice A9 ((([1,0,3,2]:List Int)).length) c10,.slice A3 ((([1]:List Int)).length) c4]) (by simp)) ((hC.ow (i:=1) rfl).lend (vs:=[.slice A9 ((([1,0,3,2]:List Int)).length) c10,.slice A3 ((([1]:List Int)).length) c4]) (by simp)) (show I64 0 from by unfold I64; omega) h25⟩) ?_
 rintro _ w27 ⟨rfl,hr26,hK⟩
 replace hC:=hC.mergeF hK rfl
 clear hK
 refine gp rfl rfl y20 rfl hq23 (.bool (decide (y24=1))) (qbl (k:=.i64) (a:=y24) (b:=1) rfl rfl)<|lp (.bool (decide (y24=1))) (qap (q:=y20) rfl hq23 rfl)<|lp (.bool (decide (y24=1))) (qaa rfl) ?_
 rcases bS (decide (y24=1)) with hq28 | hq28
 replace hb:=tt hq28 hb
 refine gv rfl rfl (decide (y24=1)) rfl hq28 (.agg #[.slice A3 ((([1]:List Int)).length) c4,.slice A9 ((([1,0,3,2]:List Int)).length) c10,iv 0]) (qaq (hC.bx (i:=0) rfl) isAgg32 sizeOf32 rfl) ?_
 replace hC:=hC.freeze (i:=2) rfl (hC.qfd (i:=2) rfl)
 replace hC:=hC.freeze (i:=1) rfl (hC.qfd (i:=1) rfl)
 obtain ⟨y29,h30,hb⟩:=bd hb
 refine lex.gcl (qdp rfl rfl (show _=Value.bool (decide (y24=1)) from rfl) hq28) (⟨_,_,qam (vs:=[.agg #[.slice A3 ((([1]:List Int)).length) c4,.slice A9 ((([1,0,3,2]:List Int)).length) c10,iv 0]]) call13 rfl rfl rfl,diagram_Faces_ok n hC.lt (hC.rd (i:=2) rfl) (hC.rd (i:=1) rfl) (show I64 0 from by unfold I64; omega) h30⟩) ?_
 rintro _ w35 ⟨A31,m32,c33,rfl,hK⟩
 replace hC:=hC.merge hK
 clear hK
 obtain ⟨rfl,hl36,hc37⟩:=(hC.ow (i:=0) rfl).qae
 refine gp rfl rfl (decide (y24=1)) rfl hq28 (iv (y29.length:Int)) (qay (A:=A31) (n:=y29.length) (m:=c33) underlying44 rfl)<|gp rfl rfl (decide (y24=1)) rfl hq28 (.bool (decide ((y29.length:Int)=3))) (qbl (k:=.i64) (a:=(y29.length:Int)) (b:=3) rfl rfl)<|lp (.bool (decide ((y29.length:Int)=3))) (qap (q:=(decide (y24=1))) rfl hq28 rfl)<|lp (.bool (decide ((y29.length:Int)=3))) (qab rfl)<|ln (hK19 _ _ ?_)
 obtain rfl:=os hb
 refine Wc.ret (hKR _ _ ?_)
 refine ⟨_,res1 results4 (tV (.bool (decide ((y29.length:Int)=3))) rfl),_,rfl,rfl,hC.sE []⟩
 replace hb:=tf hq28 hb
 refine gs rfl rfl (decide (y24=1)) rfl hq28<|gs rfl rfl (decide (y24=1)) rfl hq28<|gs rfl rfl (decide (y24=1)) rfl hq28<|gs rfl rfl (decide (y24=1)) rfl hq28<|lp (.bool false) (qak (q:=(decide (y24=1))) rfl hq28 rfl)<|lp (.bool false) (qab rfl)<|ln (hK19 _ _ ?_)
 obtain rfl:=os hb
 refine Wc.ret (hKR _ _ ?_)
 refine ⟨_,res1 results4 (tV (.bool false) rfl),_,rfl,rfl,hC.sE []⟩
 replace hb:=tf hq23 hb
 refine gs rfl rfl y20 rfl hq23<|gs rfl rfl y20 rfl hq23<|gs rfl rfl y20 rfl hq23<|lp (.bool false) (qak (q:=y20) rfl hq23 rfl)<|lp (.bool false) (qaa rfl)<|gs rfl rfl false rfl rfl<|gs rfl rfl false rfl rfl<|gs rfl rfl false rfl rfl<|gs rfl rfl false rfl rfl<|lp (.bool false) (qak (q:=false) rfl rfl rfl)<|lp (.bool false) (qab rfl)<|ln (hK19 _ _ ?_)
 obtain rfl:=os hb
 refine Wc.ret (hKR _ _ ?_)
 refine ⟨_,res1 results4 (tV (.bool false) rfl),_,rfl,rfl,hC.sE []⟩

theorem qgh (n:Nat) {w:World} {O0:List Nat} (hO: ∀k∈O0,k<w.heap.size) {c:Int} (u:I64 c) {f:Option Addr} {l g:Nat} {d:List Int} (o:Rep O0 w (.sl si) [.slice f l g] d) {r:Bool} (hb:F.qes n c d=some r):
    Calls prog 5 #[.agg #[iv c,.slice f l g]] w fun e w'=> ∃v,e=.returned v∧v=.bool r∧Cx (fun _=>False) O0 w w' []:=by
 unfold F.qes at hb
 have hC:=Cx.start hO
 replace hC:=hC.arg rfl o
 clear hO
 obtain ⟨rfl,p,s⟩:=o.qae
 refine qao func5 rfl (by rw [ntmps5]; exact nb rfl) fun KR hKR=>?_
 refine Wc.seq fun _ hK2=>rg<|lex.op (hC.box (cs:=[iv c,.slice f d.length g]) rfl rfl) ?_
 rintro _ w4 ⟨g3,rfl,hC,hF,-⟩
 refine lp (.bool false) (qab rfl)<|ln (hK2 _ _ ?_)
 refine Wc.seq fun _ hK6=>?_
 refine Wc.seq fun _ hK7=>rg<|lp (.pointer (some ((⟨g3,0,none⟩:Addr).add 0))) (qaf (sz:=1) underlying24 rfl sizeOf3 (by decide) rfl rfl)<|lv (iv c) (qal (hC.bx (i:=0) rfl) isAgg3 rfl rfl)<|lp (.bool (decide (c<1))) (qbj (k:=.i64) (a:=c) (b:=1) rfl rfl)<|lp (.bool (decide (c<1))) (qaa rfl) ?_
 rcases bS (decide (c<1)) with hq8 | hq8
 replace hb:=tt hq8 hb
 refine gs rfl rfl (decide (c<1)) rfl hq8<|gs rfl rfl (decide (c<1)) rfl hq8<|gs rfl rfl (decide (c<1)) rfl hq8<|lp (.bool true) (qap (q:=(decide (c<1))) rfl hq8 rfl)<|lp (.bool true) (qaa rfl)<|gs rfl rfl true rfl rfl<|gs rfl rfl true rfl rfl<|gs rfl rfl true rfl rfl<|gs rfl rfl true rfl rfl<|lp (.bool true) (qap (q:=true) rfl rfl rfl)<|ln (hK7 _ _ ?_)
 refine Wc.cond_true (rfl) ?_
 refine Wc.seq fun _ hK9=>rg<|lp (.bool false) (qab rfl)<|ln (hK9 _ _ ?_)
 obtain rfl:=os hb
 refine Wc.ret (hKR _ _ ?_)
 refine ⟨_,res1 results5 (tV (.bool false) rfl),_,rfl,rfl,hC.sE []⟩
 replace hb:=tf hq8 hb
 refine gp rfl rfl (decide (c<1)) rfl hq8 (.pointer (some ((⟨g3,0,none⟩:Addr).add 0))) (qaf (sz:=1) underlying24 rfl sizeOf3 (by decide) rfl rfl)<|gv rfl rfl (decide (c<1)) rfl hq8 (iv c) (qal (hC.bx (i:=0) rfl) isAgg3 rfl rfl)<|gp rfl rfl (decide (c<1)) rfl hq8 (.bool (decide (10<c))) (qfq (k:=.i64) (a:=c) (b:=10) rfl rfl)<|lp (.bool (decide (10<c))) (qak (q:=(decide (c<1))) rfl hq8 rfl)<|lp (.bool (decide (10<c))) (qaa rfl) ?_
 rcases bS (decide (10<c)) with hq10 | hq10
 replace hb:=tt hq10 hb
 refine gs rfl rfl (decide (10<c)) rfl hq10<|gs rfl rfl (decide (10<c)) rfl hq10<|gs rfl rfl (decide (10<c)) rfl hq10<|gs rfl rfl (decide (10<c)) rfl hq10<|lp (.bool true) (qap (q:=(decide (10<c))) rfl hq10 rfl)<|ln (hK7 _ _ ?_)
 refine Wc.cond_true (rfl) ?_
 refine Wc.seq fun _ hK11=>rg<|lp (.bool false) (qab rfl)<|ln (hK11 _ _ ?_)
 obtain rfl:=os hb
 refine Wc.ret (hKR _ _ ?_)
 refine ⟨_,res1 results5 (tV (.bool false) rfl),_,rfl,rfl,hC.sE []⟩
 replace hb:=tf hq10 hb
 refine gp rfl rfl (decide (10<c)) rfl hq10 (.pointer (some ((⟨g3,0,none⟩:Addr).add 1))) (qaf (sz:=1) underlying24 rfl sizeOf22 (by decide) rfl rfl)<|gv rfl rfl (decide (10<c)) rfl hq10 (.slice f d.length g) (qal (hC.bx (i:=0) rfl) isAgg22 rfl rfl)<|gp rfl rfl (decide (10<c)) rfl hq10 (iv (d.length:Int)) (qay (A:=f) (n:=d.length) (m:=g) underlying22 rfl)<|gp rfl rfl (decide (10<c)) rfl hq10 (.bool (decide (200<(d.length:Int)))) (qfq (k:=.i64) (a:=(d.length:Int)) (b:=200) rfl rfl)<|lp (.bool (decide (200<(d.length:Int)))) (qak (q:=(decide (10<c))) rfl hq10 rfl)<|ln (hK7 _ _ ?_)
 refine Wc.cond (t:=(decide (200<(d.length:Int)))) (rfl) (fun hq12=>?_) (fun hq12=>?_)
 replace hb:=tt hq12 hb
 refine Wc.seq fun _ hK13=>rg<|lp (.bool false) (qab rfl)<|ln (hK13 _ _ ?_)
 obtain rfl:=os hb
 refine Wc.ret (hKR _ _ ?_)
 refine ⟨_,res1 results5 (tV (.bool false) rfl),_,rfl,rfl,hC.sE []⟩
 replace hb:=tf hq12 hb
 refine Wc.skip (hK6 _ _ ?_)
 refine Wc.fresh fun E14 hE=>?_
 have e1:E14 1=pg g3:=cg hE 1 rfl
 have e2:E14 2=.bool false:=cg hE 2 rfl
 clear hE
 refine Wc.seq fun _ hK15=>?_
 refine Wc.seq fun _ hK16=>rg<|lp (.pointer (some ((⟨g3,0,none⟩:Addr).add 1))) (qaf (sz:=1) underlying24 rfl sizeOf22 (by decide) rfl e1)<|lv (.slice f d.length g) (qal (hC.bx (i:=0) rfl) isAgg22 rfl rfl)<|lp (iv (d.length:Int)) (qay (A:=f) (n:=d.length) (m:=g) underlying22 rfl)<|lp (iv 0) (qaa rfl)<|ln (hK16 _ _ ?_)
 obtain ⟨o17,hl0,hb⟩:=bd hb
 refine Wc.cut (fun E wv=> ∃(h:Int),E 2=.bool false∧I64 h∧Cx (fun _=>False) O0 w wv []∧(some true:Option (Bool))=some r) (fun _ hK18=>?_) ?_
 refine Wc.block ?_
 refine Wc.loop (fun m E wv=> ∃(h:Int),E 1=pg g3∧E 2=.bool false∧E 20=.slice f d.length g∧E 21=iv (d.length:Int)∧E 22=iv h∧I64 h∧Cx (fun _=>False) O0 w wv [.box g3 24 [iv c,.slice f d.length g],.ro (.sl si) [.slice f d.length g] d]∧loopN m (F.qgx n c d) h=some o17) n ⟨0,e1,e2,rfl,rfl,rfl,(show I64 0 from by unfold I64; omega),hC.sE [0,1],hl0⟩ ?_
 have hbK0:=hb
 clear hb hC hl0
 rintro m20 E22 w21 ⟨h,e1,e2,e20,e21,e22,j,hC,hl0⟩ K19 hK19
 obtain ⟨m20',o23,rfl,hb,hl0⟩:=qax hl0
 unfold F.qgx at hb
 refine Wc.seq fun _ hK24=>rg<|lp _ (qbj e22 e21)<|ln (hK24 _ _ ?_)
 refine Wc.seq fun _ hK25=>?_
 refine Wc.cond (t:=(decide (h<(d.length:Int)))) (rfl) (fun hq26=>?_) (fun hq26=>?_)
 replace hb:=tt hq26 hb
 refine Wc.skip (hK25 _ _ ?_)
 refine Wc.seq fun _ hK27=>?_
 refine Wc.block<|Wc.seq fun _ hK28=>rg ?_
 obtain ⟨x29,h30,hb⟩:=bd hb
 obtain ⟨ad31,cs32,hA,hc33,hr34⟩:=hC.elr (i:=1) rfl (qad h30).2
 subst hA
 refine lp (.pointer (some (ad31.add (h.toNat*1)))) (qar (a:=h) underlying22 sizeOf3 e20 e22 (qad h30).1) ?_
 obtain ⟨rfl,hr34'⟩:=hr34
 refine lv (iv x29) (qaw isAgg3 rfl (hc33 0 _ rfl))<|lp (iv x29) (qab rfl)<|ln (hK28 _ _ ?_)
 refine Wc.seq fun _ hK35=>rg<|lp (iv x29) (qaa rfl)<|lp (.bool (decide (x29=0))) (qbl (k:=.i64) (a:=x29) (b:=0) rfl rfl)<|lp (.bool (decide (x29=0))) (qaa rfl) ?_
 rcases bS (decide (x29=0)) with hq36 | hq36
 replace hb:=tt hq36 hb
 refine gs rfl rfl (decide (x29=0)) rfl hq36<|gs rfl rfl (decide (x29=0)) rfl hq36<|gs rfl rfl (decide (x29=0)) rfl hq36<|gs rfl rfl (decide (x29=0)) rfl hq36<|gs rfl rfl (decide (x29=0)) rfl hq36<|lp (.bool true) (qap (q:=(decide (x29=0))) rfl hq36 rfl)<|lp (.bool true) (qaa rfl)<|gs rfl rfl true rfl rfl<|gs rfl rfl true rfl rfl<|gs rfl rfl true rfl rfl<|gs rfl rfl true rfl rfl<|lp (.bool true) (qap (q:=true) rfl rfl rfl)<|ln (hK35 _ _ ?_)
 refine Wc.cond_true (rfl) ?_
 refine Wc.seq fun _ hK37=>rg<|lp (.bool false) (qab rfl)<|ln (hK37 _ _ ?_)
 obtain rfl:=os hb
 obtain rfl:=(lX hl0).symm
 replace hb:=hbK0
 obtain rfl:=os hb
 refine Wc.ret (hKR _ _ ?_)
 refine ⟨_,res1 results5 (tV (.bool false) rfl),_,rfl,rfl,hC.sE []⟩
 replace hb:=tf hq36 hb
 refine gp rfl rfl (decide (x29=0)) rfl hq36 (iv x29) (qaa rfl)<|gp rfl rfl (decide (x29=0)) rfl hq36 (.pointer (some ((⟨g3,0,none⟩:Addr).add 0))) (qaf (sz:=1) underlying24 rfl sizeOf3 (by decide) rfl e1)<|gv rfl rfl (decide (x29=0)) rfl hq36 (iv c) (qal (hC.bx (i:=0) rfl) isAgg3 rfl rfl) ?_
 obtain ⟨z38,h39,hb⟩:=bd hb
 refine gp rfl rfl (decide (x29=0)) rfl hq36 (iv z38) (pu_negc (a:=c) rfl h39)<|gp rfl rfl (decide (x29=0)) rfl hq36 (.bool (decide (x29≤z38))) (pu_leq (k:=.i64) (a:=x29) (b:=z38) rfl rfl)<|lp (.bool (decide (x29≤z38))) (qak (q:=(decide (x29=0))) rfl hq36 rfl)<|lp (.bool (decide (x29≤z38))) (qaa rfl) ?_
 rcases bS (decide (x29≤z38)) with hq40 | hq40
 replace hb:=tt hq40 hb
 refine gs rfl rfl (decide (x29≤z38)) rfl hq40<|gs rfl rfl (decide (x29≤z38)) rfl hq40<|gs rfl rfl (decide (x29≤z38)) rfl hq40<|gs rfl rfl (decide (x29≤z38)) rfl hq40<|lp (.bool true) (qap (q:=(decide (x29≤z38))) rfl hq40 rfl)<|ln (hK35 _ _ ?_)
 refine Wc.cond_true (rfl) ?_
 refine Wc.seq fun _ hK41=>rg<|lp (.bool false) (qab rfl)<|ln (hK41 _ _ ?_)
 obtain rfl:=os hb
 obtain rfl:=(lX hl0).symm
 replace hb:=hbK0
 obtain rfl:=os hb
 refine Wc.ret (hKR _ _ ?_)
 refine ⟨_,res1 results5 (tV (.bool false) rfl),_,rfl,rfl,hC.sE []⟩
 replace hb:=tf hq40 hb
 refine gp rfl rfl (decide (x29≤z38)) rfl hq40 (iv x29) (qaa rfl)<|gp rfl rfl (decide (x29≤z38)) rfl hq40 (.pointer (some ((⟨g3,0,none⟩:Addr).add 0))) (qaf (sz:=1) underlying24 rfl sizeOf3 (by decide) rfl e1)<|gv rfl rfl (decide (x29≤z38)) rfl hq40 (iv c) (qal (hC.bx (i:=0) rfl) isAgg3 rfl rfl)<|gp rfl rfl (decide (x29≤z38)) rfl hq40 (.bool (decide (c≤x29))) (pu_geq (k:=.i64) (a:=x29) (b:=c) rfl rfl)<|lp (.bool (decide (c≤x29))) (qak (q:=(decide (x29≤z38))) rfl hq40 rfl)<|ln (hK35 _ _ ?_)
 refine Wc.cond (t:=(decide (c≤x29))) (rfl) (fun hq42=>?_) (fun hq42=>?_)
 replace hb:=tt hq42 hb
 refine Wc.seq fun _ hK43=>rg<|lp (.bool false) (qab rfl)<|ln (hK43 _ _ ?_)
 obtain rfl:=os hb
 obtain rfl:=(lX hl0).symm
 replace hb:=hbK0
 obtain rfl:=os hb
 refine Wc.ret (hKR _ _ ?_)
 refine ⟨_,res1 results5 (tV (.bool false) rfl),_,rfl,rfl,hC.sE []⟩
 replace hb:=tf hq42 hb
 refine Wc.skip (hK27 _ _ ?_)
 refine rg ?_
 obtain ⟨z44,h45,hb⟩:=bd hb
 refine lp (iv z44) (qau (a:=h) (b:=1) e22 rfl h45)<|lp (iv z44) (qaa rfl)<|ln ?_
 obtain rfl:=os hb
 exact hK19 m20' _ _ (Nat.lt_succ_self _) ⟨z44,e1,e2,e20,e21,rfl,(qah h45),hC.sE [0,1],lN hl0⟩
 replace hb:=tf hq26 hb
 refine Wc.exit rfl ?_
 obtain rfl:=os hb
 obtain rfl:=(lX hl0).symm
 exact hK18 _ _ ⟨h,e2,j,hC.sE [],hbK0⟩
 clear hb hC hl0
 rintro E47 w46 ⟨h,e2,j,hC,hb⟩
 refine hK15 _ _<|Wc.seq fun _ hK48=>rg<|lp (.bool true) (qab rfl)<|ln (hK48 _ _ ?_)
 obtain rfl:=os hb
 refine Wc.ret (hKR _ _ ?_)
 refine ⟨_,res1 results5 (tV (.bool true) rfl),_,rfl,rfl,hC.sE []⟩

theorem slices_Grow_Lint_int_nil_ok (n:Nat) {w:World} {O0:List Nat} (hO: ∀k∈O0,k<w.heap.size) {c:Int} (d:I64 c) {r:(List Int)} (hb:F.qcu n c=some r):
    Calls prog 34 #[.slice none 0 0,iv c] w fun e w'=> ∃v,e=.returned v∧∃(A0:Option Addr) (m0 c0:Nat),v=.slice A0 m0 c0∧Cx (fun _=>False) O0 w w' [.own 3 si (.slice A0 m0 c0) r]:=by
 unfold F.qcu at hb
 have hC:=Cx.start hO
 clear hO
 refine qao func34 rfl (by rw [ntmps34]; exact nb rfl) fun KR hKR=>?_
 refine Wc.seq fun _ hK1=>rg<|lp (.slice none 0 0) (qab rfl)<|ln (hK1 _ _ ?_)
 refine Wc.seq fun _ hK2=>?_
 refine Wc.seq fun _ hK3=>rg<|lp (iv c) (qaa rfl)<|lp (.bool (decide (c<0))) (qbj (k:=.i64) (a:=c) (b:=0) rfl rfl)<|ln (hK3 _ _ ?_)
 refine Wc.cond (t:=(decide (c<0))) (rfl) (fun hq4=>?_) (fun hq4=>?_)
 replace hb:=tt hq4 hb
 cases hb
 replace hb:=tf hq4 hb
 refine Wc.skip (hK2 _ _ ?_)
 refine Wc.seq fun _ hK5=>?_
 refine Wc.seq fun _ hK6=>rg<|lp (iv c) (qaa rfl)<|lp (.slice none 0 0) (qaa rfl)<|lp (iv 0) (pu_cap (A:=none) (n:=0) (m:=0) underlying22 rfl)<|lp (.slice none 0 0) (qaa rfl)<|lp (iv 0) (qay (A:=none) (n:=0) (m:=0) underlying22 rfl) ?_
 obtain ⟨z7,h8,hb⟩:=bd hb
 refine lp (iv z7) (pu_subc (a:=0) (b:=0) rfl rfl h8) ?_
 obtain ⟨z9,h10,hb⟩:=bd hb
 refine lp (iv z9) (pu_subc (a:=c) (b:=z7) rfl rfl h10)<|lp (iv z9) (qab rfl)<|ln (hK6 _ _ ?_)
 refine Wc.fresh fun E11 hE=>?_
 have e0:E11 0=.slice none 0 0:=cg hE 0 rfl
 have e1:E11 1=iv z9:=cg hE 1 rfl
 have e4:E11 4=.slice none 0 0:=cg hE 4 rfl
 clear hE
 refine Wc.seq fun _ hK12=>rg<|lp _ (qaa e1)<|lp (.bool (decide (0<z9))) (qfq (k:=.i64) (a:=z9) (b:=0) rfl rfl)<|ln (hK12 _ _ ?_)
 refine Wc.cond (t:=(decide (0<z9))) (rfl) (fun hq13=>?_) (fun hq13=>?_)
 replace hb:=tt hq13 hb
 refine rg<|lp _ (qaa e0)<|lp _ (qaa e0)<|lp (iv 0) (pu_cap (A:=none) (n:=0) (m:=0) underlying22 rfl)<|lp (.slice none 0 0) (pu_nilcut underlying22 sizeOf3 rfl rfl)<|lp _ (qaa e1) ?_
 obtain ⟨u14,h15,hb⟩:=bd hb
 refine lex.op (hC.appz (s:=si) (n:=z9) underlying22 underlying3 type3 rfl rfl rfl rfl rfl (posz_some h15).1 (posz_some h15).2 (by decide)) ?_
 rintro _ w20 ⟨A16,c17,rfl,hl18,hc19,hC,-,-⟩
 refine lp _ (qaa e0)<|lp (iv 0) (qay (A:=none) (n:=0) (m:=0) underlying22 rfl) ?_
 obtain ⟨u22,h23,hb⟩:=bd hb
 refine lp (.slice A16 (((rZ z9).take (0:Int).toNat).length) c17) (pu_cuth (b:=0) underlying22 sizeOf3 rfl rfl (hC.ow (i:=0) rfl).qae (cut_some h23)) ?_
 replace hC:=hC.cuth (i:=0) rfl (k:=(0:Int).toNat) (by have:=cut_some h23; omega)
 obtain ⟨-,hl24,hc25⟩:=(hC.ow (i:=0) rfl).qae
 refine lp (.slice A16 (((rZ z9).take (0:Int).toNat).length) c17) (qab rfl)<|ln (hK5 _ _ ?_)
 refine Wc.seq fun _ hK26=>rg<|lp (.slice A16 (((rZ z9).take (0:Int).toNat).length) c17) (qaa rfl)<|lp (.slice A16 (((rZ z9).take (0:Int).toNat).length) c17) (qab rfl)<|ln (hK26 _ _ ?_)
 obtain rfl:=os hb
 refine Wc.ret (hKR _ _ ?_)
 refine ⟨_,res1 results34 (tV (.slice A16 (((rZ z9).take (0:Int).toNat).length) c17) rfl),_,rfl,A16,((rZ z9).take (0:Int).toNat).length,c17,rfl,hC.sE [0]⟩
 replace hb:=tf hq13 hb
 refine Wc.skip (hK5 _ _ ?_)
 refine Wc.seq fun _ hK27=>rg<|lp _ (qaa e0)<|lp (.slice none 0 0) (qab rfl)<|ln (hK27 _ _ ?_)
 replace hC:=hC.nil 3 si
 obtain rfl:=os hb
 refine Wc.ret (hKR _ _ ?_)
 refine ⟨_,res1 results34 (tV (.slice none 0 0) rfl),_,rfl,none,0,0,rfl,hC.sE [0]⟩

theorem slices_Concat_Lint_int_ok (n:Nat) {w:World} {O0:List Nat} (hO: ∀k∈O0,k<w.heap.size) {d:Option Addr} {u f:Nat} {c:List (List Int)} (x:Rep O0 w (.sl (.sl si)) [.slice d u f] c) {r:(List Int)} (hb:F.qea n c=some r):
    Calls prog 14 #[.slice d u f] w fun e w'=> ∃v,e=.returned v∧∃(A0:Option Addr) (m0 c0:Nat),v=.slice A0 m0 c0∧Cx (fun _=>False) O0 w w' [.own 3 si (.slice A0 m0 c0) r]:=by
 unfold F.qea at hb
 have hC:=Cx.start hO
 replace hC:=hC.arg rfl x
 clear hO
 obtain ⟨rfl,G,H⟩:=x.qae
 refine qao func14 rfl (by rw [ntmps14]; exact nb rfl) fun KR hKR=>?_
 refine Wc.seq fun _ hK2=>rg<|lp (.slice none 0 0) (qab rfl)<|ln (hK2 _ _ ?_)
 refine Wc.seq fun _ hK3=>rg<|lp (iv 0) (qab rfl)<|ln (hK3 _ _ ?_)
 refine Wc.seq fun _ hK4=>?_
 refine Wc.seq fun _ hK5=>rg<|lp (.slice d c.length f) (qaa rfl)<|lp (iv (c.length:Int)) (qay (A:=d) (n:=c.length) (m:=f) underlying44 rfl)<|lp (iv 0) (qaa rfl)<|ln (hK5 _ _ ?_)
 obtain ⟨o6,hl0,hb⟩:=bd hb
 refine Wc.cut (fun E wv=> ∃(p:Int) (j:Int),E 0=.slice d c.length f∧E 2=.slice none 0 0∧E 3=iv p∧I64 p∧I64 j∧Cx (fun _=>False) O0 w wv [.ro (.sl (.sl si)) [.slice d c.length f] c]∧((F.qcu n p).bind fun y40=>((loopN n (F.qca n c) (y40,0)).bind fun o51=>match o51 with | (g,h)=>some g):Option ((List Int)))=some r) (fun _ hK7=>?_) ?_
 refine Wc.block ?_
 refine Wc.loop (fun m E wv=> ∃(p:Int) (j:Int),E 0=.slice d c.length f∧E 2=.slice none 0 0∧E 3=iv p∧E 9=.slice d c.length f∧E 10=iv (c.length:Int)∧E 11=iv j∧I64 p∧I64 j∧Cx (fun _=>False) O0 w wv [.ro (.sl (.sl si)) [.slice d c.length f] c]∧loopN m (F.qcj n c) (p,j)=some o6) n ⟨0,0,rfl,rfl,rfl,rfl,rfl,rfl,(show I64 0 from by unfold I64; omega),(show I64 0 from by unfold I64; omega),hC.sE [0],hl0⟩ ?_
 have hbK0:=hb
 clear hb hC hl0
 rintro m9 E11 w10 ⟨p,j,e0,e2,e3,e9,e10,e11,y,z,hC,hl0⟩ K8 hK8
 obtain ⟨m9',o12,rfl,hb,hl0⟩:=qax hl0
 unfold F.qcj at hb
 refine Wc.seq fun _ hK13=>rg<|lp _ (qbj e11 e10)<|ln (hK13 _ _ ?_)
 refine Wc.seq fun _ hK14=>?_
 refine Wc.cond (t:=(decide (j<(c.length:Int)))) (rfl) (fun hq15=>?_) (fun hq15=>?_)
 replace hb:=tt hq15 hb
 refine Wc.skip (hK14 _ _ ?_)
 refine Wc.seq fun _ hK16=>?_
 refine Wc.block<|Wc.seq fun _ hK17=>rg ?_
 obtain ⟨x18,h19,hb⟩:=bd hb
 obtain ⟨ad20,cs21,hA,hc22,hr23⟩:=hC.elr (i:=0) rfl (qad h19).2
 subst hA
 refine lp (.pointer (some (ad20.add (j.toNat*1)))) (qar (a:=j) underlying44 sizeOf22 e9 e11 (qad h19).1) ?_
 have hR:=hr23
 obtain ⟨A24,c25,rfl,hl26,hc27,_⟩:=hr23
 replace hC:=hC.ro hR
 clear hR
 refine lv (.slice A24 x18.length c25) (qaw isAgg22 rfl (hc22 0 _ rfl))<|lp (.slice A24 x18.length c25) (qab rfl)<|ln (hK17 _ _ ?_)
 refine Wc.seq fun _ hK29=>rg<|lp _ (qaa e3)<|lp (.slice A24 x18.length c25) (qaa rfl)<|lp (iv (x18.length:Int)) (qay (A:=A24) (n:=x18.length) (m:=c25) underlying22 rfl) ?_
 obtain ⟨z30,h31,hb⟩:=bd hb
 refine lp (iv z30) (qau (a:=p) (b:=(x18.length:Int)) rfl rfl h31)<|lp (iv z30) (qab rfl)<|ln (hK29 _ _ ?_)
 refine Wc.seq fun _ hK32=>rg<|lp (iv z30) (qaa rfl)<|lp (.bool (decide (z30<0))) (qbj (k:=.i64) (a:=z30) (b:=0) rfl rfl)<|ln (hK32 _ _ ?_)
 refine Wc.fresh fun E33 hE=>?_
 have e0:=cg hE 0 e0
 have e2:=cg hE 2 e2
 have e3:E33 3=iv z30:=cg hE 3 rfl
 have e5:E33 5=.slice A24 x18.length c25:=cg hE 5 rfl
 have e9:=cg hE 9 e9
 have e10:=cg hE 10 e10
 have e11:=cg hE 11 e11
 have e12:E33 12=.bool (decide (j<(c.length:Int))):=cg hE 12 rfl
 have e20:E33 20=.bool (decide (z30<0)):=cg hE 20 rfl
 clear hE
 refine Wc.cond (t:=(decide (z30<0))) (e20) (fun hq34=>?_) (fun hq34=>?_)
 replace hb:=tt hq34 hb
 cases hb
 replace hb:=tf hq34 hb
 refine Wc.skip (hK16 _ _ ?_)
 refine rg ?_
 obtain ⟨z35,h36,hb⟩:=bd hb
 refine lp (iv z35) (qau (a:=j) (b:=1) e11 rfl h36)<|lp (iv z35) (qaa rfl)<|ln ?_
 obtain rfl:=os hb
 exact hK8 m9' _ _ (Nat.lt_succ_self _) ⟨z30,z35,e0,e2,e3,e9,e10,rfl,(qah h31),(qah h36),hC.sE [1],lN hl0⟩
 replace hb:=tf hq15 hb
 refine Wc.exit rfl ?_
 obtain rfl:=os hb
 obtain rfl:=(lX hl0).symm
 exact hK7 _ _ ⟨p,j,e0,e2,e3,y,z,hC.sE [0],hbK0⟩
 clear hb hC hl0
 rintro E38 w37 ⟨p,j,e0,e2,e3,y,z,hC,hb⟩
 refine hK4 _ _<|Wc.seq fun _ hK39=>rg<|lp _ (qaa e3) ?_
 obtain ⟨y40,h41,hb⟩:=bd hb
 refine lex.cl (⟨_,_,qam (vs:=[.slice none 0 0,iv p]) call34 rfl rfl rfl,slices_Grow_Lint_int_nil_ok n hC.lt y h41⟩) ?_
 rintro _ w46 ⟨A42,m43,c44,rfl,hK⟩
 replace hC:=hC.merge hK
 clear hK
 obtain ⟨rfl,hl47,hc48⟩:=(hC.ow (i:=0) rfl).qae
 refine lp (.slice A42 y40.length c44) (qab rfl)<|ln (hK39 _ _ ?_)
 refine Wc.seq fun _ hK49=>?_
 refine Wc.seq fun _ hK50=>rg<|lp _ (qaa e0)<|lp (iv (c.length:Int)) (qay (A:=d) (n:=c.length) (m:=f) underlying44 rfl)<|lp (iv 0) (qaa rfl)<|ln (hK50 _ _ ?_)
 obtain ⟨o51,hl1,f51,hf51,hb⟩:=bn hb
 refine Wc.cut (fun E wv=> ∃(g:List Int) (h:Int) (l:Option Addr) (q o:Nat),E 2=.slice none 0 0∧E 6=.slice l q o∧I64 h∧Cx (fun _=>False) O0 w wv [.own 3 si (.slice l q o) g]∧f51 (g,h)=some r) (fun _ hK52=>?_) ?_
 refine Wc.block ?_
 refine Wc.loop (fun m E wv=> ∃(g:List Int) (h:Int) (l:Option Addr) (q o:Nat),E 2=.slice none 0 0∧E 6=.slice l q o∧E 25=.slice d c.length f∧E 26=iv (c.length:Int)∧E 27=iv h∧I64 h∧Cx (fun _=>False) O0 w wv [.own 3 si (.slice l q o) g,.ro (.sl (.sl si)) [.slice d c.length f] c]∧loopN m (F.qca n c) (g,h)=some o51) n ⟨y40,0,A42,y40.length,c44,e2,rfl,rfl,rfl,rfl,(show I64 0 from by unfold I64; omega),hC.sE [0,1],hl1⟩ ?_
 have hbK1:=hb
 clear hb hC hl1
 rintro m54 E56 w55 ⟨g,h,l,q,o,e2,e6,e25,e26,e27,B,hC,hl1⟩ K53 hK53
 obtain ⟨m54',o57,rfl,hb,hl1⟩:=qax hl1
 unfold F.qca at hb
 obtain ⟨rfl,C,D⟩:=(hC.ow (i:=0) rfl).qae
 refine Wc.seq fun _ hK58=>rg<|lp _ (qbj e27 e26)<|ln (hK58 _ _ ?_)
 refine Wc.seq fun _ hK59=>?_
 refine Wc.cond (t:=(decide (h<(c.length:Int)))) (rfl) (fun hq60=>?_) (fun hq60=>?_)
 replace hb:=tt hq60 hb
 refine Wc.skip (hK59 _ _ ?_)
 refine Wc.seq fun _ hK61=>?_
 refine Wc.block<|Wc.seq fun _ hK62=>rg ?_
 obtain ⟨x63,h64,hb⟩:=bd hb
 obtain ⟨ad65,cs66,hA,hc67,hr68⟩:=hC.elr (i:=1) rfl (qad h64).2
 subst hA
 refine lp (.pointer (some (ad65.add (h.toNat*1)))) (qar (a:=h) underlying44 sizeOf22 e25 e27 (qad h64).1) ?_
 have hR:=hr68
 obtain ⟨A69,c70,rfl,hl71,hc72,_⟩:=hr68
 replace hC:=hC.ro hR
 clear hR
 refine lv (.slice A69 x63.length c70) (qaw isAgg22 rfl (hc67 0 _ rfl))<|lp (.slice A69 x63.length c70) (qab rfl)<|ln (hK62 _ _ ?_)
 refine rg<|lp _ (qaa e6)<|lp (.slice A69 x63.length c70) (qaa rfl) ?_
 obtain ⟨u74,h75,hb⟩:=bd hb
 refine lex.op (hC.app (i:=1) (s:=si) (xs:=g) (ys:=x63) (m:=x63.length) rfl underlying22 underlying22 type3 rfl rfl rfl (hC.srcr (i:=0) rfl) rfl rfl (by have:=qew h75; simp at this⊢ <;>omega) (by decide)) ?_
 rintro _ w80 ⟨A76,c77,rfl,hl78,hc79,hC,-,-⟩
 refine lp (.slice A76 ((g++x63).length) c77) (qab rfl)<|ln (hK61 _ _ ?_)
 refine rg ?_
 obtain ⟨z81,h82,hb⟩:=bd hb
 refine lp (iv z81) (qau (a:=h) (b:=1) e27 rfl h82)<|lp (iv z81) (qaa rfl)<|ln ?_
 obtain rfl:=os hb
 exact hK53 m54' _ _ (Nat.lt_succ_self _) ⟨(g++x63),z81,A76,(g++x63).length,c77,e2,rfl,e25,e26,rfl,(qah h82),hC.sE [1,2],lN hl1⟩
 replace hb:=tf hq60 hb
 refine Wc.exit rfl ?_
 obtain rfl:=os hb
 obtain rfl:=(lX hl1).symm
 exact hK52 _ _ ⟨g,h,l,g.length,o,e2,e6,B,hC.sE [0],hbK1⟩
 clear hb hC hl1
 rintro E84 w83 ⟨g,h,l,q,o,e2,e6,B,hC,hb⟩
 subst hf51
 obtain ⟨rfl,C,D⟩:=(hC.ow (i:=0) rfl).qae
 refine hK49 _ _<|Wc.seq fun _ hK85=>rg<|lp _ (qaa e6)<|lp (.slice l g.length o) (qab rfl)<|ln (hK85 _ _ ?_)
 obtain rfl:=os hb
 refine Wc.ret (hKR _ _ ?_)
 refine ⟨_,res1 results14 (tV (.slice l g.length o) rfl),_,rfl,l,g.length,o,rfl,hC.sE [0]⟩

theorem braid_Mul_ok (n:Nat) {w:World} {O0:List Nat} (hO: ∀k∈O0,k<w.heap.size) {f:Int} (p:I64 f) {g:Option Addr} {u h:Nat} {c:List Int} (x:Rep O0 w (.sl si) [.slice g u h] c) {o:Int} (B:I64 o) {j:Option Addr} {y l:Nat} {d:List Int} (z:Rep O0 w (.sl si) [.slice j y l] d) {r:Int×(List Int)×Int} (hb:F.braid_Mul n f c o d=some r):
    Calls prog 6 #[.agg #[iv f,.slice g u h],.agg #[iv o,.slice j y l]] w fun e w'=> ∃v,e=.returned v∧∃(A1:Option Addr) (m1 c1:Nat),v=.tuple #[.agg #[iv r.1,.slice A1 m1 c1],iv r.2.2]∧I64 r.1∧I64 r.2.2∧Cx (fun _=>False) O0 w w' [.own 3 si (.slice A1 m1 c1) r.2.1]:=by
 unfold F.braid_Mul at hb
 have hC:=Cx.start hO
 replace hC:=hC.arg rfl x
 replace hC:=hC.arg rfl z
 clear hO
 obtain ⟨rfl,C,D⟩:=x.qae
 obtain ⟨rfl,G,J⟩:=z.qae
 refine qao func6 rfl (by rw [ntmps6]; exact nb rfl) fun KR hKR=>?_
 refine Wc.seq fun _ hK3=>rg<|lex.op (hC.box (cs:=[iv f,.slice g c.length h]) rfl rfl) ?_
 rintro _ w5 ⟨g4,rfl,hC,hF,-⟩
 refine lex.op (hC.box (cs:=[iv o,.slice j d.length l]) rfl rfl) ?_
 rintro _ w8 ⟨g7,rfl,hC,hF,-⟩
 refine lex.op (hC.alloc (cs:=[iv 0,.slice none 0 0]) zeroValue24 rfl) ?_
 rintro _ w11 ⟨g10,rfl,hC,hF,-⟩
 refine lp (iv 0) (qab rfl)<|ln (hK3 _ _ ?_)
 refine Wc.seq fun _ hK13=>?_
 refine Wc.seq fun _ hK14=>rg<|lv (.agg #[iv f,.slice g c.length h]) (qaq (hC.bx (i:=2) rfl) isAgg24 sizeOf24 rfl) ?_
 obtain ⟨y15,h16,hb⟩:=bd hb
 refine lex.cl (⟨_,_,qam (vs:=[.agg #[iv f,.slice g c.length h]]) call5 rfl rfl rfl,qgh n hC.lt p (hC.rd (i:=4) rfl) h16⟩) ?_
 rintro _ w17 ⟨rfl,hK⟩
 replace hC:=hC.merge hK
 clear hK
 refine lp (.bool (!y15)) (qbt (q:=y15) rfl)<|lp (.bool (!y15)) (qaa rfl) ?_
 rcases bS (!y15) with hq18 | hq18
 replace hb:=tt hq18 hb
 refine gs rfl rfl (!y15) rfl hq18<|gs rfl rfl (!y15) rfl hq18<|gs rfl rfl (!y15) rfl hq18<|lp (.bool true) (qap (q:=(!y15)) rfl hq18 rfl)<|ln (hK14 _ _ ?_)
 refine Wc.cond_true (rfl) ?_
 refine Wc.seq fun _ hK19=>rg<|lp (.agg #[iv 0,.slice none 0 0]) (qat (places:=[(0,1),(1,1)]) (pv:=[]) type24 underlying24 rfl (qag type3 (qag type22 qbb rfl rfl) rfl rfl) rfl (by simp [Instr.fill,Value.cells]))<|lex.sk (hC.seta (i:=0) (ds:=[iv 0,.slice none 0 0]) rfl type24 rfl rfl rfl rfl rfl) ?_
 rintro w20 ⟨hC,hF⟩
 refine lp (iv 1) (qab rfl)<|ln (hK19 _ _ ?_)
 replace hC:=hC.nil 3 si
 obtain rfl:=os hb
 refine Wc.ret (hKR _ _ ?_)
 refine ⟨_,res2 results6 ⟨_,rfl,qai (hC.bx (i:=1) rfl) isAgg24 sizeOf24⟩ (tV (iv 1) rfl),_,rfl,none,0,0,rfl,(show I64 0 from by unfold I64; omega),(show I64 1 from by unfold I64; omega),hC.sE [0]⟩
 replace hb:=tf hq18 hb
 refine gv rfl rfl (!y15) rfl hq18 (.agg #[iv o,.slice j d.length l]) (qaq (hC.bx (i:=1) rfl) isAgg24 sizeOf24 rfl) ?_
 obtain ⟨y22,h23,hb⟩:=bd hb
 refine lex.gcl (qdp rfl rfl (show _=Value.bool (!y15) from rfl) hq18) (⟨_,_,qam (vs:=[.agg #[iv o,.slice j d.length l]]) call5 rfl rfl rfl,qgh n hC.lt B (hC.rd (i:=3) rfl) h23⟩) ?_
 rintro _ w24 ⟨rfl,hK⟩
 replace hC:=hC.merge hK
 clear hK
 refine gp rfl rfl (!y15) rfl hq18 (.bool (!y22)) (qbt (q:=y22) rfl)<|lp (.bool (!y22)) (qak (q:=(!y15)) rfl hq18 rfl)<|ln (hK14 _ _ ?_)
 refine Wc.fresh fun E25 hE=>?_
 have e2:E25 2=pg g4:=cg hE 2 rfl
 have e3:E25 3=pg g7:=cg hE 3 rfl
 have e4:E25 4=pg g10:=cg hE 4 rfl
 have e5:E25 5=iv 0:=cg hE 5 rfl
 have e13:E25 13=.bool (!y22):=cg hE 13 rfl
 clear hE
 refine Wc.cond (t:=(!y22)) (e13) (fun hq26=>?_) (fun hq26=>?_)
 replace hb:=tt hq26 hb
 refine Wc.seq fun _ hK27=>rg<|lp (.agg #[iv 0,.slice none 0 0]) (qat (places:=[(0,1),(1,1)]) (pv:=[]) type24 underlying24 rfl (qag type3 (qag type22 qbb rfl rfl) rfl rfl) rfl (by simp [Instr.fill,Value.cells]))<|lex.sk (hC.seta (i:=0) (ds:=[iv 0,.slice none 0 0]) rfl type24 rfl rfl rfl e4 rfl) ?_
 rintro w28 ⟨hC,hF⟩
 refine lp (iv 1) (qab rfl)<|ln (hK27 _ _ ?_)
 replace hC:=hC.nil 3 si
 obtain rfl:=os hb
 refine Wc.ret (hKR _ _ ?_)
 refine ⟨_,res2 results6 ⟨_,e4,qai (hC.bx (i:=1) rfl) isAgg24 sizeOf24⟩ (tV (iv 1) rfl),_,rfl,none,0,0,rfl,(show I64 0 from by unfold I64; omega),(show I64 1 from by unfold I64; omega),hC.sE [0]⟩
 replace hb:=tf hq26 hb
 refine Wc.skip (hK13 _ _ ?_)
 refine Wc.seq fun _ hK30=>?_
 refine Wc.seq fun _ hK31=>rg<|lp (.pointer (some ((⟨g4,0,none⟩:Addr).add 0))) (qaf (sz:=1) underlying24 rfl sizeOf3 (by decide) rfl e2)<|lv (iv f) (qal (hC.bx (i:=2) rfl) isAgg3 rfl rfl)<|lp (.pointer (some ((⟨g7,0,none⟩:Addr).add 0))) (qaf (sz:=1) underlying24 rfl sizeOf3 (by decide) rfl e3)<|lv (iv o) (qal (hC.bx (i:=1) rfl) isAgg3 rfl rfl)<|lp (.bool (!(decide (f=o)))) (pu_neq (k:=.i64) (a:=f) (b:=o) rfl rfl)<|ln (hK31 _ _ ?_)
 refine Wc.cond (t:=(!(decide (f=o)))) (rfl) (fun hq32=>?_) (fun hq32=>?_)
 replace hb:=tt hq32 hb
 refine Wc.seq fun _ hK33=>rg<|lp (.agg #[iv 0,.slice none 0 0]) (qat (places:=[(0,1),(1,1)]) (pv:=[]) type24 underlying24 rfl (qag type3 (qag type22 qbb rfl rfl) rfl rfl) rfl (by simp [Instr.fill,Value.cells]))<|lex.sk (hC.seta (i:=0) (ds:=[iv 0,.slice none 0 0]) rfl type24 rfl rfl rfl e4 rfl) ?_
 rintro w34 ⟨hC,hF⟩
 refine lp (iv 2) (qab rfl)<|ln (hK33 _ _ ?_)
 replace hC:=hC.nil 3 si
 obtain rfl:=os hb
 refine Wc.ret (hKR _ _ ?_)
 refine ⟨_,res2 results6 ⟨_,e4,qai (hC.bx (i:=1) rfl) isAgg24 sizeOf24⟩ (tV (iv 2) rfl),_,rfl,none,0,0,rfl,(show I64 0 from by unfold I64; omega),(show I64 2 from by unfold I64; omega),hC.sE [0]⟩
 replace hb:=tf hq32 hb
 refine Wc.skip (hK30 _ _ ?_)
 refine Wc.seq fun _ hK36=>?_
 refine Wc.seq fun _ hK37=>rg<|lp (.pointer (some ((⟨g4,0,none⟩:Addr).add 1))) (qaf (sz:=1) underlying24 rfl sizeOf22 (by decide) rfl e2)<|lv (.slice g c.length h) (qal (hC.bx (i:=2) rfl) isAgg22 rfl rfl)<|lp (iv (c.length:Int)) (qay (A:=g) (n:=c.length) (m:=h) underlying22 rfl)<|lp (.pointer (some ((⟨g7,0,none⟩:Addr).add 1))) (qaf (sz:=1) underlying24 rfl sizeOf22 (by decide) rfl e3)<|lv (.slice j d.length l) (qal (hC.bx (i:=1) rfl) isAgg22 rfl rfl)<|lp (iv (d.length:Int)) (qay (A:=j) (n:=d.length) (m:=l) underlying22 rfl) ?_
 obtain ⟨z38,h39,hb⟩:=bd hb
 refine lp (iv z38) (qau (a:=(c.length:Int)) (b:=(d.length:Int)) rfl rfl h39)<|lp (.bool (decide (200<z38))) (qfq (k:=.i64) (a:=z38) (b:=200) rfl rfl)<|ln (hK37 _ _ ?_)
 refine Wc.fresh fun E40 hE=>?_
 have e2:=cg hE 2 e2
 have e3:=cg hE 3 e3
 have e4:=cg hE 4 e4
 have e5:=cg hE 5 e5
 have e28:E40 28=.bool (decide (200<z38)):=cg hE 28 rfl
 clear hE
 refine Wc.cond (t:=(decide (200<z38))) (e28) (fun hq41=>?_) (fun hq41=>?_)
 replace hb:=tt hq41 hb
 refine Wc.seq fun _ hK42=>rg<|lp (.agg #[iv 0,.slice none 0 0]) (qat (places:=[(0,1),(1,1)]) (pv:=[]) type24 underlying24 rfl (qag type3 (qag type22 qbb rfl rfl) rfl rfl) rfl (by simp [Instr.fill,Value.cells]))<|lex.sk (hC.seta (i:=0) (ds:=[iv 0,.slice none 0 0]) rfl type24 rfl rfl rfl e4 rfl) ?_
 rintro w43 ⟨hC,hF⟩
 refine lp (iv 5) (qab rfl)<|ln (hK42 _ _ ?_)
 replace hC:=hC.nil 3 si
 obtain rfl:=os hb
 refine Wc.ret (hKR _ _ ?_)
 refine ⟨_,res2 results6 ⟨_,e4,qai (hC.bx (i:=1) rfl) isAgg24 sizeOf24⟩ (tV (iv 5) rfl),_,rfl,none,0,0,rfl,(show I64 0 from by unfold I64; omega),(show I64 5 from by unfold I64; omega),hC.sE [0]⟩
 replace hb:=tf hq41 hb
 refine Wc.skip (hK36 _ _ ?_)
 refine Wc.seq fun _ hK45=>?_
 refine Wc.regionMix [31,33,35] (frm [31,33,35] ([]:List Fact) [.box g10 24 [iv 0,.slice none 0 0]]) (fun _=>rfl) mixed (by decide+kernel) (by decide+kernel) fun w47 hw46=>?_
 replace hC:=hC.step (Fr.qcx hw46)
 have hM:=Fr.refl (fun k=>k∈blocks ([]:List Fact)) w47
 clear hw46
 have hS:=hC
 have hD:Fr (fun k=>k∈blocks (([]:List Fact)++[.box g10 24 [iv 0,.slice none 0 0]])) w47 w47:=hM.wide
 have hUf12:g10<w47.heap.size→g10∈blocks (([]:List Fact)++[.box g10 24 [iv 0,.slice none 0 0]]):=fun _=>qcg (i:=0) rfl
 refine mp (.pointer (some ((⟨g4,0,none⟩:Addr).add 0))) (qaf (sz:=1) underlying24 rfl sizeOf3 (by decide) rfl e2)<|mixE.steady hD (v:=iv f) (fun _ hF=>qal (hS.bx2 (i:=2) rfl [0] (by decide) hF) isAgg3 rfl rfl)<|mp (.pointer (some ((⟨g4,0,none⟩:Addr).add 1))) (qaf (sz:=1) underlying24 rfl sizeOf22 (by decide) rfl e2)<|mixE.steady hD (v:=.slice g c.length h) (fun _ hF=>qal (hS.bx2 (i:=2) rfl [0] (by decide) hF) isAgg22 rfl rfl)<|mp (.pointer (some ((⟨g7,0,none⟩:Addr).add 1))) (qaf (sz:=1) underlying24 rfl sizeOf22 (by decide) rfl e3)<|mixE.steady hD (v:=.slice j d.length l) (fun _ hF=>qal (hS.bx2 (i:=1) rfl [0] (by decide) hF) isAgg22 rfl rfl)<|mixE.op hM (hC.lit (s:=(.sl si)) (vs:=[.slice g c.length h,.slice j d.length l]) (xs:=[c,d]) underlying44 type22 rfl rfl (nb rfl) rfl rfl (by simp [Value.cells,Sh.n]) rfl (show Elems _ _ (.sl si) ([.slice g c.length h]++([.slice j d.length l]++([]))) ([c,d]:List (List Int)) from Elems.cons (hC.rd (i:=4) rfl) (Elems.cons (hC.rd (i:=3) rfl) (Elems.nil _ _ _)))) ?_
 rintro _ w52 ⟨A48,c49,rfl,hl50,hc51,hC,hF,hN⟩
 have hBf53:=Beside.new hM hN
 have hUf53:=Beside.new (hM.wide (H:=[.box g10 24 [iv 0,.slice none 0 0]])) hN
 replace hM:=hM.none hF
 replace hD:=hM.wide (H:=[.box g10 24 [iv 0,.slice none 0 0]])
 refine ⟨hM,?_⟩
 clear hF hN
 obtain ⟨y54,h55,hb⟩:=bd hb
 refine mixE.cl hM (⟨_,_,qam (vs:=[.slice A48 ((([c,d]:List (List Int))).length) c49]) call14 rfl rfl rfl,slices_Concat_Lint_int_ok n (hC.lentLt [.slice A48 ((([c,d]:List (List Int))).length) c49]) ((hC.ow (i:=0) rfl).lend (vs:=[.slice A48 ((([c,d]:List (List Int))).length) c49]) (by simp)) h55⟩) ?_
 rintro _ w60 ⟨A56,m57,c58,rfl,hK⟩
 have hBf59:=Beside.cl (i:=0) hM hK rfl
 have hUf59:=hBf59.wide (H:=[.box g10 24 [iv 0,.slice none 0 0]])
 replace hM:=hM.none hK.fr
 replace hD:=hM.wide (H:=[.box g10 24 [iv 0,.slice none 0 0]])
 refine ⟨hM,?_⟩
 replace hC:=hC.mergeF hK rfl
 clear hK
 obtain ⟨rfl,hl61,hc62⟩:=(hC.ow (i:=0) rfl).qae
 refine mp (.agg #[iv f,.slice A56 y54.length c58]) (qat (places:=[(0,1),(1,1)]) (pv:=[(0,iv f),(1,.slice A56 y54.length c58)]) type24 underlying24 rfl (qag type3 (qag type22 qbb rfl rfl) rfl rfl) rfl (by simp [Instr.fill,Value.cells]))<|mixE.sk hD (hC.seta (i:=2) (ds:=[iv f,.slice A56 y54.length c58]) rfl type24 rfl rfl rfl e4 rfl) ?_
 rintro w63 ⟨hC,hF⟩
 replace hD:=hD.besideG hUf12 hF
 clear hF
 refine ⟨hD,?_⟩
 refine mp (iv 0) (qab rfl)<|mixE.nil ?_
 clear hS hM
 clear hD
 refine hK45 _ _ ?_
 obtain rfl:=os hb
 refine Wc.ret (hKR _ _ ?_)
 refine ⟨_,res2 results6 ⟨_,e4,qai (hC.bx (i:=2) rfl) isAgg24 sizeOf24⟩ (tV (iv 0) rfl),_,rfl,A56,y54.length,c58,rfl,p,(show I64 0 from by unfold I64; omega),hC.sE [0]⟩
