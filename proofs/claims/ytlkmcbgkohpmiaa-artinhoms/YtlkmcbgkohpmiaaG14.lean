import Derived.Test.YtlkmcbgkohpmiaaS
import Derived.Test.YtlkmcbgkohpmiaaG4
import Derived.Test.YtlkmcbgkohpmiaaG5
import Derived.Test.YtlkmcbgkohpmiaaG6
import Derived.Test.YtlkmcbgkohpmiaaG9
import Derived.Test.YtlkmcbgkohpmiaaG13
set_option linter.all false
namespace Go.Proofs.Ytlkmcbgkohpmiaa
open Ev Try
set_option maxRecDepth 100000
set_option maxHeartbeats 4000000
theorem homs_Count_ok (n:Nat) {w:World} {O0:List Nat} (hO: ∀k∈O0,k<w.heap.size) {q:Int} (C:I64 q) {g:Option Addr} {y h:Nat} {o:List Int} (z:Rep O0 w (.sl si) [.slice g y h] o) {l:Option Addr} {A m:Nat} {p:List (List Int)} (B:Rep O0 w (.sl (.sl si)) [.slice l A m] p) {x:Int} (D:I64 x) {d:Option Addr} {s f:Nat} {c:List Int} (u:Rep O0 w (.sl si) [.slice d s f] c) {r:Int×Int} (hb:F.qel n q o p x c=some r):
    Calls prog 31 #[.agg #[iv q,.slice g y h,.slice l A m],iv x,.slice d s f] w fun e w'=> ∃v,e=.returned v∧v=.tuple #[iv r.1,iv r.2]∧I64 r.1∧I64 r.2∧Cx (fun _=>False) O0 w w' []:=by
 unfold F.qel at hb
 have hC:=Cx.start hO
 replace hC:=hC.arg rfl z
 replace hC:=hC.arg rfl B
 replace hC:=hC.arg rfl u
 clear hO
 obtain ⟨rfl,J,K⟩:=z.qaf
 obtain ⟨rfl,L,M⟩:=B.qaf
 obtain ⟨rfl,G,H⟩:=u.qaf
 refine qao func31 rfl (by rw [ntmps31]; exact nb rfl) fun KR hKR=>?_
 refine Wc.seq fun _ hK4=>rg<|lex.op (hC.box (cs:=[iv q,.slice g o.length h,.slice l p.length m]) rfl rfl) ?_
 rintro _ w6 ⟨g5,rfl,hC,hF,-⟩
 refine lp (iv 0) (qab rfl)<|lp (iv 0) (qab rfl)<|ln (hK4 _ _ ?_)
 refine Wc.seq fun _ hK8=>rg<|lex.op (hC.alloc (cs:=[iv 0]) zeroValue3 rfl) ?_
 rintro _ w10 ⟨g9,rfl,hC,hF,-⟩
 refine lex.sk (hC.setf (i:=0) (k:=0) (v:=iv 0) rfl sizeOf3 rfl (by rw [Addr.add_zero']; exact rfl) rfl rfl) ?_
 rintro w12 ⟨hC,hF⟩
 refine ln (hK8 _ _ ?_)
 refine Wc.seq fun _ hK13=>rg<|lv (.agg #[iv q,.slice g o.length h,.slice l p.length m]) (qbm (hC.bx (i:=1) rfl) isAgg48 sizeOf48 rfl)<|lp (iv x) (qaa rfl)<|lp (.slice d c.length f) (qaa rfl)<|lp (.func (.func 55) #[] #[pg g9]) (qga rfl) ?_
 replace hC:Cx (fun _=>False) O0 w w12 ([.box g9 3 [iv 0]]++[.box g5 48 [iv q,.slice g o.length h,.slice l p.length m],.ro (.sl si) [.slice d c.length f] c,.ro (.sl (.sl si)) [.slice l p.length m] p,.ro (.sl si) [.slice g o.length h] o]):=hC.sE [0,1,2,3,4]
 obtain ⟨y14,h15,hb⟩:=bd hb
 refine lex.cl (⟨_,_,qas (vs:=[.agg #[iv q,.slice g o.length h,.slice l p.length m],iv x,.slice d c.length f,.func (.func 55) #[] #[pg g9]]) call54 rfl rfl rfl,homs_find_homs_Count_c1_ok n hC.lt C (hC.rd (i:=4) rfl) (hC.rd (i:=3) rfl) D (hC.rd (i:=2) rfl) (show I64 0 from by unfold I64; omega) hC.give h15⟩) ?_
 rintro _ w18 ⟨rfl,hr16,hr17,hK⟩
 replace hC:=hC.back hK
 clear hK
 refine lp (iv y14.1) (qab rfl)<|ln (hK13 _ _ ?_)
 refine Wc.fresh fun E19 hE=>?_
 have e6:E19 6=iv 0:=cg hE 6 rfl
 have e7:E19 7=iv 0:=cg hE 7 rfl
 have e8:E19 8=pg g9:=cg hE 8 rfl
 have e9:E19 9=iv y14.1:=cg hE 9 rfl
 clear hE
 refine Wc.seq fun _ hK20=>?_
 refine Wc.seq fun _ hK21=>rg<|lp _ (qaa e9)<|lp (.bool (!(decide (y14.1=0)))) (qbv (k:=.i64) (a:=y14.1) (b:=0) rfl rfl)<|ln (hK21 _ _ ?_)
 refine Wc.cond (t:=(!(decide (y14.1=0)))) (rfl) (fun hq22=>?_) (fun hq22=>?_)
 replace hb:=tt hq22 hb
 refine Wc.seq fun _ hK23=>rg<|lp _ (qaa e9)<|lp (iv 0) (qab rfl)<|lp (iv y14.1) (qab rfl)<|ln (hK23 _ _ ?_)
 obtain rfl:=os hb
 refine Wc.ret (hKR _ _ ?_)
 refine ⟨_,res2 results31 (tV (iv 0) rfl) (tV (iv y14.1) rfl),_,rfl,rfl,(show I64 0 from by unfold I64; omega),hr16,hC.sE []⟩
 replace hb:=tf hq22 hb
 refine Wc.skip (hK20 _ _ ?_)
 refine Wc.seq fun _ hK24=>rg<|lv (iv y14.2) (qah isAgg3 e8 ((hC.bx (i:=0) rfl).cell (j:=0) rfl))<|lp (iv y14.2) (qab rfl)<|lp (iv 0) (qab rfl)<|ln (hK24 _ _ ?_)
 obtain rfl:=os hb
 refine Wc.ret (hKR _ _ ?_)
 refine ⟨_,res2 results31 (tV (iv y14.2) rfl) (tV (iv 0) rfl),_,rfl,rfl,hr17,(show I64 0 from by unfold I64; omega),hC.sE []⟩

theorem law35_ArtinHoms_ok (n:Nat) {w:World} {O0:List Nat} (hO: ∀k∈O0,k<w.heap.size) {c:Int} (x:I64 c) {l:Option Addr} {y o:Nat} {g:List Int} (z:Rep O0 w (.sl si) [.slice l y o] g) {f:Int} (B:I64 f) {h:Option Addr} {p j:Nat} {d:List Int} (s:Rep O0 w (.sl si) [.slice h p j] d) {r:Bool} (hb:F.law35_ArtinHoms n c g f d=some r):
    Calls prog 8 #[.agg #[iv c,.slice l y o],iv f,.slice h p j] w fun e w'=> ∃v,e=.returned v∧v=.bool r∧Cx (fun _=>False) O0 w w' []:=by
 unfold F.law35_ArtinHoms at hb
 have hC:=Cx.start hO
 replace hC:=hC.arg rfl z
 replace hC:=hC.arg rfl s
 clear hO
 obtain ⟨rfl,G,H⟩:=z.qaf
 obtain ⟨rfl,C,D⟩:=s.qaf
 refine qao func8 rfl (by rw [ntmps8]; exact nb rfl) fun KR hKR=>?_
 refine Wc.seq fun _ hK3=>rg<|lex.op (hC.box (cs:=[iv c,.slice l g.length o]) rfl rfl) ?_
 rintro _ w5 ⟨g4,rfl,hC,hF,-⟩
 refine lp (.bool false) (qab rfl)<|ln (hK3 _ _ ?_)
 refine Wc.seq fun _ hK7=>?_
 refine Wc.seq fun _ hK8=>rg ?_
 obtain ⟨y9,h10,hb⟩:=bd hb
 refine lex.cl (⟨_,_,qas (vs:=[]) call9 rfl rfl rfl,law35_awake_ok n hC.lt h10⟩) ?_
 rintro _ w11 ⟨rfl,hK⟩
 replace hC:=hC.merge hK
 clear hK
 refine lp (.bool (!y9)) (qcd (q:=y9) rfl)<|ln (hK8 _ _ ?_)
 refine Wc.cond (t:=(!y9)) (rfl) (fun hq12=>?_) (fun hq12=>?_)
 replace hb:=tt hq12 hb
 refine Wc.seq fun _ hK13=>rg<|lp (.bool false) (qab rfl)<|ln (hK13 _ _ ?_)
 obtain rfl:=os hb
 refine Wc.ret (hKR _ _ ?_)
 refine ⟨_,res1 results8 (tV (.bool false) rfl),_,rfl,rfl,hC.sE []⟩
 replace hb:=tf hq12 hb
 refine Wc.skip (hK7 _ _ ?_)
 refine Wc.seqJ (fun E wv=>E 1=iv f∧E 2=.slice h d.length j∧E 3=pg g4∧E 6=.bool false∧Cx (fun _=>False) O0 w wv [.ro (.sl si) [.slice h d.length j] d,.box g4 24 [iv c,.slice l g.length o],.ro (.sl si) [.slice l g.length o] g]∧F.law35_ArtinHoms_j0 n c g f d=some r) (fun _ hK14=>?_) ?_
 refine Wc.seq fun _ hK15=>rg<|lv (.agg #[iv c,.slice l g.length o]) (qbm (hC.bx (i:=0) rfl) isAgg24 sizeOf24 rfl) ?_
 obtain ⟨y16,h17,hb⟩:=bd hb
 refine lex.cl (⟨_,_,qas (vs:=[.agg #[iv c,.slice l g.length o]]) call10 rfl rfl rfl,law35_great_ok n hC.lt x (hC.rd (i:=2) rfl) h17⟩) ?_
 rintro _ w18 ⟨rfl,hK⟩
 replace hC:=hC.merge hK
 clear hK
 refine lp (.bool y16) (qaa rfl) ?_
 rcases bS y16 with hq19 | hq19
 replace hb:=tt hq19 hb
 refine gs rfl rfl y16 rfl hq19<|gs rfl rfl y16 rfl hq19<|gs rfl rfl y16 rfl hq19<|gs rfl rfl y16 rfl hq19<|lp (.bool true) (qap (q:=y16) rfl hq19 rfl)<|lp (.bool true) (qaa rfl)<|gs rfl rfl true rfl rfl<|gs rfl rfl true rfl rfl<|gs rfl rfl true rfl rfl<|lp (.bool true) (qap (q:=true) rfl rfl rfl)<|lp (.bool true) (qaa rfl)<|gs rfl rfl true rfl rfl<|gs rfl rfl true rfl rfl<|lp (.bool true) (qap (q:=true) rfl rfl rfl)<|lp (.bool true) (qaa rfl)<|gs rfl rfl true rfl rfl<|gs rfl rfl true rfl rfl<|gs rfl rfl true rfl rfl ?_
 refine lex.gskip (qbq rfl rfl rfl) ?_
 refine lex.gskip (qbq rfl rfl rfl) ?_
 refine lex.gskip (qbq rfl rfl rfl) ?_
 refine gs rfl rfl true rfl rfl<|lp (.bool true) (qap (q:=true) rfl rfl rfl)<|lp (.bool true) (qaa rfl)<|gs rfl rfl true rfl rfl<|gs rfl rfl true rfl rfl<|gs rfl rfl true rfl rfl<|lp (.bool true) (qap (q:=true) rfl rfl rfl)<|ln (hK15 _ _ ?_)
 refine Wc.cond_true (rfl) ?_
 refine Wc.seq fun _ hK20=>rg<|lp (.bool true) (qab rfl)<|ln (hK20 _ _ ?_)
 obtain rfl:=os hb
 refine Wc.ret (hKR _ _ ?_)
 refine ⟨_,res1 results8 (tV (.bool true) rfl),_,rfl,rfl,hC.sE []⟩
 replace hb:=tf hq19 hb
 refine gp rfl rfl y16 rfl hq19 (.pointer (some ((⟨g4,0,none⟩:Addr).add 1))) (qal (sz:=1) underlying24 rfl sizeOf22 (by decide) rfl rfl)<|gv rfl rfl y16 rfl hq19 (.slice l g.length o) (qar (hC.bx (i:=0) rfl) isAgg22 rfl rfl)<|gp rfl rfl y16 rfl hq19 (iv (g.length:Int)) (qan (A:=l) (n:=g.length) (m:=o) underlying22 rfl)<|gp rfl rfl y16 rfl hq19 (.bool (decide (6<(g.length:Int)))) (qbi (k:=.i64) (a:=(g.length:Int)) (b:=6) rfl rfl)<|lp (.bool (decide (6<(g.length:Int)))) (qat (q:=y16) rfl hq19 rfl)<|lp (.bool (decide (6<(g.length:Int)))) (qaa rfl) ?_
 rcases bS (decide (6<(g.length:Int))) with hq21 | hq21
 replace hb:=tt hq21 hb
 refine gs rfl rfl (decide (6<(g.length:Int))) rfl hq21<|gs rfl rfl (decide (6<(g.length:Int))) rfl hq21<|gs rfl rfl (decide (6<(g.length:Int))) rfl hq21<|lp (.bool true) (qap (q:=(decide (6<(g.length:Int)))) rfl hq21 rfl)<|lp (.bool true) (qaa rfl)<|gs rfl rfl true rfl rfl<|gs rfl rfl true rfl rfl<|lp (.bool true) (qap (q:=true) rfl rfl rfl)<|lp (.bool true) (qaa rfl)<|gs rfl rfl true rfl rfl<|gs rfl rfl true rfl rfl<|gs rfl rfl true rfl rfl ?_
 refine lex.gskip (qbq rfl rfl rfl) ?_
 refine lex.gskip (qbq rfl rfl rfl) ?_
 refine lex.gskip (qbq rfl rfl rfl) ?_
 refine gs rfl rfl true rfl rfl<|lp (.bool true) (qap (q:=true) rfl rfl rfl)<|lp (.bool true) (qaa rfl)<|gs rfl rfl true rfl rfl<|gs rfl rfl true rfl rfl<|gs rfl rfl true rfl rfl<|lp (.bool true) (qap (q:=true) rfl rfl rfl)<|ln (hK15 _ _ ?_)
 refine Wc.cond_true (rfl) ?_
 refine Wc.seq fun _ hK22=>rg<|lp (.bool true) (qab rfl)<|ln (hK22 _ _ ?_)
 obtain rfl:=os hb
 refine Wc.ret (hKR _ _ ?_)
 refine ⟨_,res1 results8 (tV (.bool true) rfl),_,rfl,rfl,hC.sE []⟩
 replace hb:=tf hq21 hb
 refine gp rfl rfl (decide (6<(g.length:Int))) rfl hq21 (.pointer (some ((⟨g4,0,none⟩:Addr).add 0))) (qal (sz:=1) underlying24 rfl sizeOf3 (by decide) rfl rfl)<|gv rfl rfl (decide (6<(g.length:Int))) rfl hq21 (iv c) (qar (hC.bx (i:=0) rfl) isAgg3 rfl rfl)<|gp rfl rfl (decide (6<(g.length:Int))) rfl hq21 (.bool (decide (4<c))) (qbi (k:=.i64) (a:=c) (b:=4) rfl rfl)<|lp (.bool (decide (4<c))) (qat (q:=(decide (6<(g.length:Int)))) rfl hq21 rfl)<|lp (.bool (decide (4<c))) (qaa rfl) ?_
 rcases bS (decide (4<c)) with hq23 | hq23
 replace hb:=tt hq23 hb
 refine gs rfl rfl (decide (4<c)) rfl hq23<|gs rfl rfl (decide (4<c)) rfl hq23<|lp (.bool true) (qap (q:=(decide (4<c))) rfl hq23 rfl)<|lp (.bool true) (qaa rfl)<|gs rfl rfl true rfl rfl<|gs rfl rfl true rfl rfl<|gs rfl rfl true rfl rfl ?_
 refine lex.gskip (qbq rfl rfl rfl) ?_
 refine lex.gskip (qbq rfl rfl rfl) ?_
 refine lex.gskip (qbq rfl rfl rfl) ?_
 refine gs rfl rfl true rfl rfl<|lp (.bool true) (qap (q:=true) rfl rfl rfl)<|lp (.bool true) (qaa rfl)<|gs rfl rfl true rfl rfl<|gs rfl rfl true rfl rfl<|gs rfl rfl true rfl rfl<|lp (.bool true) (qap (q:=true) rfl rfl rfl)<|ln (hK15 _ _ ?_)
 refine Wc.cond_true (rfl) ?_
 refine Wc.seq fun _ hK24=>rg<|lp (.bool true) (qab rfl)<|ln (hK24 _ _ ?_)
 obtain rfl:=os hb
 refine Wc.ret (hKR _ _ ?_)
 refine ⟨_,res1 results8 (tV (.bool true) rfl),_,rfl,rfl,hC.sE []⟩
 replace hb:=tf hq23 hb
 refine gp rfl rfl (decide (4<c)) rfl hq23 (iv f) (qaa rfl)<|gp rfl rfl (decide (4<c)) rfl hq23 (.bool (decide (4<f))) (qbi (k:=.i64) (a:=f) (b:=4) rfl rfl)<|lp (.bool (decide (4<f))) (qat (q:=(decide (4<c))) rfl hq23 rfl)<|lp (.bool (decide (4<f))) (qaa rfl) ?_
 rcases bS (decide (4<f)) with hq25 | hq25
 replace hb:=tt hq25 hb
 refine gs rfl rfl (decide (4<f)) rfl hq25<|gs rfl rfl (decide (4<f)) rfl hq25<|gs rfl rfl (decide (4<f)) rfl hq25 ?_
 refine lex.gskip (qbq rfl rfl rfl) ?_
 refine lex.gskip (qbq rfl rfl rfl) ?_
 refine lex.gskip (qbq rfl rfl rfl) ?_
 refine gs rfl rfl (decide (4<f)) rfl hq25<|lp (.bool true) (qap (q:=(decide (4<f))) rfl hq25 rfl)<|lp (.bool true) (qaa rfl)<|gs rfl rfl true rfl rfl<|gs rfl rfl true rfl rfl<|gs rfl rfl true rfl rfl<|lp (.bool true) (qap (q:=true) rfl rfl rfl)<|ln (hK15 _ _ ?_)
 refine Wc.cond_true (rfl) ?_
 refine Wc.seq fun _ hK26=>rg<|lp (.bool true) (qab rfl)<|ln (hK26 _ _ ?_)
 obtain rfl:=os hb
 refine Wc.ret (hKR _ _ ?_)
 refine ⟨_,res1 results8 (tV (.bool true) rfl),_,rfl,rfl,hC.sE []⟩
 replace hb:=tf hq25 hb
 refine gp rfl rfl (decide (4<f)) rfl hq25 (iv f) (qaa rfl)<|gp rfl rfl (decide (4<f)) rfl hq25 (.bool (decide (f=4))) (qcu (k:=.i64) (a:=f) (b:=4) rfl rfl)<|gp rfl rfl (decide (4<f)) rfl hq25 (.bool (decide (f=4))) (qaa rfl) ?_
 rcases bS (decide (f=4)) with hq27 | hq27
 replace hb:=tt hq27 hb
 refine gp rfl rfl (decide (f=4)) rfl hq27 (.pointer (some ((⟨g4,0,none⟩:Addr).add 0))) (qal (sz:=1) underlying24 rfl sizeOf3 (by decide) rfl rfl)<|gv rfl rfl (decide (f=4)) rfl hq27 (iv c) (qar (hC.bx (i:=0) rfl) isAgg3 rfl rfl)<|gp rfl rfl (decide (f=4)) rfl hq27 (.bool (decide (3<c))) (qbi (k:=.i64) (a:=c) (b:=3) rfl rfl)<|gp rfl rfl (decide (4<f)) rfl hq25 (.bool (decide (3<c))) (qap (q:=(decide (f=4))) rfl hq27 rfl)<|lp (.bool (decide (3<c))) (qat (q:=(decide (4<f))) rfl hq25 rfl)<|lp (.bool (decide (3<c))) (qaa rfl) ?_
 rcases bS (decide (3<c)) with hq28 | hq28
 replace hb:=tt hq28 hb
 refine gs rfl rfl (decide (3<c)) rfl hq28<|gs rfl rfl (decide (3<c)) rfl hq28<|gs rfl rfl (decide (3<c)) rfl hq28<|lp (.bool true) (qap (q:=(decide (3<c))) rfl hq28 rfl)<|ln (hK15 _ _ ?_)
 refine Wc.cond_true (rfl) ?_
 refine Wc.seq fun _ hK29=>rg<|lp (.bool true) (qab rfl)<|ln (hK29 _ _ ?_)
 obtain rfl:=os hb
 refine Wc.ret (hKR _ _ ?_)
 refine ⟨_,res1 results8 (tV (.bool true) rfl),_,rfl,rfl,hC.sE []⟩
 replace hb:=tf hq28 hb
 refine gp rfl rfl (decide (3<c)) rfl hq28 (.slice h d.length j) (qaa rfl)<|gp rfl rfl (decide (3<c)) rfl hq28 (iv (d.length:Int)) (qan (A:=h) (n:=d.length) (m:=j) underlying22 rfl)<|gp rfl rfl (decide (3<c)) rfl hq28 (.bool (decide (10<(d.length:Int)))) (qbi (k:=.i64) (a:=(d.length:Int)) (b:=10) rfl rfl)<|lp (.bool (decide (10<(d.length:Int)))) (qat (q:=(decide (3<c))) rfl hq28 rfl)<|ln (hK15 _ _ ?_)
 refine Wc.cond (t:=(decide (10<(d.length:Int)))) (rfl) (fun hq30=>?_) (fun hq30=>?_)
 replace hb:=tt hq30 hb
 refine Wc.seq fun _ hK31=>rg<|lp (.bool true) (qab rfl)<|ln (hK31 _ _ ?_)
 obtain rfl:=os hb
 refine Wc.ret (hKR _ _ ?_)
 refine ⟨_,res1 results8 (tV (.bool true) rfl),_,rfl,rfl,hC.sE []⟩
 replace hb:=tf hq30 hb
 refine Wc.skip ?_
 exact hK14 _ _ ⟨rfl,rfl,rfl,rfl,hC.sE [1,0,2],hb⟩
 replace hb:=tf hq27 hb
 refine gs rfl rfl (decide (f=4)) rfl hq27<|gs rfl rfl (decide (f=4)) rfl hq27<|gs rfl rfl (decide (f=4)) rfl hq27<|gp rfl rfl (decide (4<f)) rfl hq25 (.bool false) (qat (q:=(decide (f=4))) rfl hq27 rfl)<|lp (.bool false) (qat (q:=(decide (4<f))) rfl hq25 rfl)<|lp (.bool false) (qaa rfl)<|gp rfl rfl false rfl rfl (.slice h d.length j) (qaa rfl)<|gp rfl rfl false rfl rfl (iv (d.length:Int)) (qan (A:=h) (n:=d.length) (m:=j) underlying22 rfl)<|gp rfl rfl false rfl rfl (.bool (decide (10<(d.length:Int)))) (qbi (k:=.i64) (a:=(d.length:Int)) (b:=10) rfl rfl)<|lp (.bool (decide (10<(d.length:Int)))) (qat (q:=false) rfl rfl rfl)<|ln (hK15 _ _ ?_)
 refine Wc.cond (t:=(decide (10<(d.length:Int)))) (rfl) (fun hq32=>?_) (fun hq32=>?_)
 replace hb:=tt hq32 hb
 refine Wc.seq fun _ hK33=>rg<|lp (.bool true) (qab rfl)<|ln (hK33 _ _ ?_)
 obtain rfl:=os hb
 refine Wc.ret (hKR _ _ ?_)
 refine ⟨_,res1 results8 (tV (.bool true) rfl),_,rfl,rfl,hC.sE []⟩
 replace hb:=tf hq32 hb
 refine Wc.skip ?_
 exact hK14 _ _ ⟨rfl,rfl,rfl,rfl,hC.sE [1,0,2],hb⟩
 clear hb hC
 rintro E35 w34 ⟨e1,e2,e3,e6,hC,hb⟩
 unfold F.law35_ArtinHoms_j0 at hb
 refine Wc.seq fun _ hK36=>rg<|lv (.agg #[iv c,.slice l g.length o]) (qbm (hC.bx (i:=1) rfl) isAgg24 sizeOf24 e3) ?_
 obtain ⟨y37,h38,hb⟩:=bd hb
 refine lex.cl (⟨_,_,qas (vs:=[.agg #[iv c,.slice l g.length o]]) call21 rfl rfl rfl,artin_Group_ok n hC.lt x (hC.rd (i:=2) rfl) h38⟩) ?_
 rintro _ w49 ⟨A40,m41,c42,A44,m45,c46,rfl,hr39,hr48,hK⟩
 replace hC:=hC.merge hK
 clear hK
 obtain ⟨rfl,hl50,hc51⟩:=(hC.ow (i:=0) rfl).qaf
 obtain ⟨rfl,hl52,hc53⟩:=(hC.ow (i:=1) rfl).qaf
 refine lp (.tuple #[.agg #[iv y37.1,.slice A40 y37.2.1.length c42,.slice A44 y37.2.2.1.length c46],iv y37.2.2.2]) (qaa rfl)<|lp (.agg #[iv y37.1,.slice A40 y37.2.1.length c42,.slice A44 y37.2.2.1.length c46]) (qaz rfl rfl)<|lp (iv y37.2.2.2) (qaz rfl rfl)<|lex.op (hC.alloc (cs:=[iv 0,.slice none 0 0,.slice none 0 0]) zeroValue48 rfl) ?_
 rintro _ w55 ⟨g54,rfl,hC,hF,-⟩
 refine lex.sk (hC.seta (i:=0) (ds:=[iv y37.1,.slice A40 y37.2.1.length c42,.slice A44 y37.2.2.1.length c46]) rfl type48 rfl rfl rfl rfl rfl) ?_
 rintro w57 ⟨hC,hF⟩
 refine lp (iv y37.2.2.2) (qab rfl)<|ln (hK36 _ _ ?_)
 refine Wc.seq fun _ hK58=>rg<|lv (.agg #[iv c,.slice l g.length o]) (qbm (hC.bx (i:=4) rfl) isAgg24 sizeOf24 e3) ?_
 obtain ⟨y59,h60,hb⟩:=bd hb
 refine lex.cl (⟨_,_,qas (vs:=[.agg #[iv c,.slice l g.length o]]) call29 rfl rfl rfl,braid_Closure_ok n hC.lt x (hC.rd (i:=5) rfl) h60⟩) ?_
 rintro _ w71 ⟨A61,m62,c63,A65,m66,c67,rfl,hr69,hr70,hK⟩
 replace hC:=hC.merge hK
 clear hK
 obtain ⟨rfl,hl72,hc73⟩:=(hC.ow (i:=0) rfl).qaf
 obtain ⟨rfl,hl74,hc75⟩:=(hC.ow (i:=1) rfl).qaf
 refine lp (.tuple #[.agg #[.slice A61 y59.1.length c63,.slice A65 y59.2.1.length c67,iv y59.2.2.1],iv y59.2.2.2]) (qaa rfl)<|lp (.agg #[.slice A61 y59.1.length c63,.slice A65 y59.2.1.length c67,iv y59.2.2.1]) (qaz rfl rfl)<|lp (iv y59.2.2.2) (qaz rfl rfl)<|lex.op (hC.alloc (cs:=[.slice none 0 0,.slice none 0 0,iv 0]) zeroValue60 rfl) ?_
 rintro _ w77 ⟨g76,rfl,hC,hF,-⟩
 refine lex.sk (hC.seta (i:=0) (ds:=[.slice A61 y59.1.length c63,.slice A65 y59.2.1.length c67,iv y59.2.2.1]) rfl type60 rfl rfl rfl rfl rfl) ?_
 rintro w79 ⟨hC,hF⟩
 refine lp (iv y59.2.2.2) (qab rfl)<|ln (hK58 _ _ ?_)
 refine Wc.fresh fun E80 hE=>?_
 have e1:=cg hE 1 e1
 have e2:=cg hE 2 e2
 have e6:=cg hE 6 e6
 have e7:E80 7=pg g54:=cg hE 7 rfl
 have e8:E80 8=iv y37.2.2.2:=cg hE 8 rfl
 have e9:E80 9=pg g76:=cg hE 9 rfl
 have e10:E80 10=iv y59.2.2.2:=cg hE 10 rfl
 clear hE
 refine Wc.seq fun _ hK81=>?_
 refine Wc.seq fun _ hK82=>rg<|lp _ (qaa e8)<|lp (.bool (!(decide (y37.2.2.2=0)))) (qbv (k:=.i64) (a:=y37.2.2.2) (b:=0) rfl rfl)<|lp (.bool (!(decide (y37.2.2.2=0)))) (qaa rfl) ?_
 rcases bS (!(decide (y37.2.2.2=0))) with hq83 | hq83
 replace hb:=tt hq83 hb
 refine gs rfl rfl (!(decide (y37.2.2.2=0))) rfl hq83<|gs rfl rfl (!(decide (y37.2.2.2=0))) rfl hq83<|lp (.bool true) (qap (q:=(!(decide (y37.2.2.2=0)))) rfl hq83 rfl)<|ln (hK82 _ _ ?_)
 refine Wc.cond_true (rfl) ?_
 refine Wc.seq fun _ hK84=>rg<|lp _ (qaa e8)<|lp _ (qaa e10)<|lp (.bool (decide (y37.2.2.2=y59.2.2.2))) (qcu (k:=.i64) (a:=y37.2.2.2) (b:=y59.2.2.2) rfl rfl)<|lp (.bool (decide (y37.2.2.2=y59.2.2.2))) (qab rfl)<|ln (hK84 _ _ ?_)
 obtain rfl:=os hb
 refine Wc.ret (hKR _ _ ?_)
 refine ⟨_,res1 results8 (tV (.bool (decide (y37.2.2.2=y59.2.2.2))) rfl),_,rfl,rfl,hC.sE []⟩
 replace hb:=tf hq83 hb
 refine gp rfl rfl (!(decide (y37.2.2.2=0))) rfl hq83 (iv y59.2.2.2) (qaa e10)<|gp rfl rfl (!(decide (y37.2.2.2=0))) rfl hq83 (.bool (!(decide (y59.2.2.2=0)))) (qbv (k:=.i64) (a:=y59.2.2.2) (b:=0) rfl rfl)<|lp (.bool (!(decide (y59.2.2.2=0)))) (qat (q:=(!(decide (y37.2.2.2=0)))) rfl hq83 rfl)<|ln (hK82 _ _ ?_)
 refine Wc.cond (t:=(!(decide (y59.2.2.2=0)))) (rfl) (fun hq85=>?_) (fun hq85=>?_)
 replace hb:=tt hq85 hb
 refine Wc.seq fun _ hK86=>rg<|lp _ (qaa e8)<|lp _ (qaa e10)<|lp (.bool (decide (y37.2.2.2=y59.2.2.2))) (qcu (k:=.i64) (a:=y37.2.2.2) (b:=y59.2.2.2) rfl rfl)<|lp (.bool (decide (y37.2.2.2=y59.2.2.2))) (qab rfl)<|ln (hK86 _ _ ?_)
 obtain rfl:=os hb
 refine Wc.ret (hKR _ _ ?_)
 refine ⟨_,res1 results8 (tV (.bool (decide (y37.2.2.2=y59.2.2.2))) rfl),_,rfl,rfl,hC.sE []⟩
 replace hb:=tf hq85 hb
 refine Wc.skip (hK81 _ _ ?_)
 refine Wc.seq fun _ hK87=>rg<|lv (.agg #[.slice A61 y59.1.length c63,.slice A65 y59.2.1.length c67,iv y59.2.2.1]) (qbm (hC.bx (i:=0) rfl) isAgg60 sizeOf60 e9) ?_
 replace hC:=hC.freeze (i:=1) rfl (hC.qdh (i:=1) rfl)
 replace hC:=hC.freeze (i:=2) rfl (hC.qdh (i:=2) rfl)
 obtain ⟨y88,h89,hb⟩:=bd hb
 refine lex.cl (⟨_,_,qas (vs:=[.agg #[.slice A61 y59.1.length c63,.slice A65 y59.2.1.length c67,iv y59.2.2.1]]) call30 rfl rfl rfl,wirtinger_Of_ok n hC.lt (hC.rd (i:=1) rfl) (hC.rd (i:=2) rfl) hr69 h89⟩) ?_
 rintro _ w100 ⟨A91,m92,c93,A95,m96,c97,rfl,hr90,hr99,hK⟩
 replace hC:=hC.merge hK
 clear hK
 obtain ⟨rfl,hl101,hc102⟩:=(hC.ow (i:=0) rfl).qaf
 obtain ⟨rfl,hl103,hc104⟩:=(hC.ow (i:=1) rfl).qaf
 refine lp (.tuple #[.agg #[iv y88.1,.slice A91 y88.2.1.length c93,.slice A95 y88.2.2.1.length c97],iv y88.2.2.2]) (qaa rfl)<|lp (.agg #[iv y88.1,.slice A91 y88.2.1.length c93,.slice A95 y88.2.2.1.length c97]) (qaz rfl rfl)<|lp (iv y88.2.2.2) (qaz rfl rfl)<|lex.op (hC.alloc (cs:=[iv 0,.slice none 0 0,.slice none 0 0]) zeroValue48 rfl) ?_
 rintro _ w106 ⟨g105,rfl,hC,hF,-⟩
 refine lex.sk (hC.seta (i:=0) (ds:=[iv y88.1,.slice A91 y88.2.1.length c93,.slice A95 y88.2.2.1.length c97]) rfl type48 rfl rfl rfl rfl rfl) ?_
 rintro w108 ⟨hC,hF⟩
 refine lp (iv y88.2.2.2) (qab rfl)<|ln (hK87 _ _ ?_)
 refine Wc.fresh fun E109 hE=>?_
 have e1:=cg hE 1 e1
 have e2:=cg hE 2 e2
 have e6:=cg hE 6 e6
 have e7:=cg hE 7 e7
 have e11:E109 11=pg g105:=cg hE 11 rfl
 have e12:E109 12=iv y88.2.2.2:=cg hE 12 rfl
 clear hE
 refine Wc.seq fun _ hK110=>rg<|lv (.agg #[iv y37.1,.slice A40 y37.2.1.length c42,.slice A44 y37.2.2.1.length c46]) (qbm (hC.bx (i:=6) rfl) isAgg48 sizeOf48 e7)<|lp _ (qaa e1)<|lp _ (qaa e2) ?_
 obtain ⟨y111,h112,hb⟩:=bd hb
 refine lex.cl (⟨_,_,qas (vs:=[.agg #[iv y37.1,.slice A40 y37.2.1.length c42,.slice A44 y37.2.2.1.length c46],iv f,.slice h d.length j]) call31 rfl rfl rfl,homs_Count_ok n (hC.lentLt [.slice A40 y37.2.1.length c42,.slice A44 y37.2.2.1.length c46]) hr39 ((hC.ow (i:=7) rfl).lend (vs:=[.slice A40 y37.2.1.length c42,.slice A44 y37.2.2.1.length c46]) (by simp)) ((hC.ow (i:=8) rfl).lend (vs:=[.slice A40 y37.2.1.length c42,.slice A44 y37.2.2.1.length c46]) (by simp)) B ((hC.rd (i:=9) rfl).lent [.slice A40 y37.2.1.length c42,.slice A44 y37.2.2.1.length c46]) h112⟩) ?_
 rintro _ w115 ⟨rfl,hr113,hr114,hK⟩
 replace hC:=hC.mergeF hK rfl
 clear hK
 refine lp (.tuple #[iv y111.1,iv y111.2]) (qaa rfl)<|lp (iv y111.1) (qaz rfl rfl)<|lp (iv y111.2) (qaz rfl rfl)<|lp (iv y111.1) (qab rfl)<|lp (iv y111.2) (qab rfl)<|ln (hK110 _ _ ?_)
 refine Wc.seq fun _ hK116=>rg<|lv (.agg #[iv y88.1,.slice A91 y88.2.1.length c93,.slice A95 y88.2.2.1.length c97]) (qbm (hC.bx (i:=0) rfl) isAgg48 sizeOf48 e11)<|lp _ (qaa e1)<|lp _ (qaa e2) ?_
 obtain ⟨y117,h118,hb⟩:=bd hb
 refine lex.cl (⟨_,_,qas (vs:=[.agg #[iv y88.1,.slice A91 y88.2.1.length c93,.slice A95 y88.2.2.1.length c97],iv f,.slice h d.length j]) call31 rfl rfl rfl,homs_Count_ok n (hC.lentLt [.slice A91 y88.2.1.length c93,.slice A95 y88.2.2.1.length c97]) hr90 ((hC.ow (i:=1) rfl).lend (vs:=[.slice A91 y88.2.1.length c93,.slice A95 y88.2.2.1.length c97]) (by simp)) ((hC.ow (i:=2) rfl).lend (vs:=[.slice A91 y88.2.1.length c93,.slice A95 y88.2.2.1.length c97]) (by simp)) B ((hC.rd (i:=9) rfl).lent [.slice A91 y88.2.1.length c93,.slice A95 y88.2.2.1.length c97]) h118⟩) ?_
 rintro _ w121 ⟨rfl,hr119,hr120,hK⟩
 replace hC:=hC.mergeF hK rfl
 clear hK
 refine lp (.tuple #[iv y117.1,iv y117.2]) (qaa rfl)<|lp (iv y117.1) (qaz rfl rfl)<|lp (iv y117.2) (qaz rfl rfl)<|lp (iv y117.1) (qab rfl)<|lp (iv y117.2) (qab rfl)<|ln (hK116 _ _ ?_)
 refine Wc.fresh fun E122 hE=>?_
 have e6:=cg hE 6 e6
 have e12:=cg hE 12 e12
 have e13:E122 13=iv y111.1:=cg hE 13 rfl
 have e14:E122 14=iv y111.2:=cg hE 14 rfl
 have e15:E122 15=iv y117.1:=cg hE 15 rfl
 have e16:E122 16=iv y117.2:=cg hE 16 rfl
 clear hE
 refine Wc.seq fun _ hK123=>?_
 refine Wc.seq fun _ hK124=>rg<|lp _ (qaa e12)<|lp (.bool (!(decide (y88.2.2.2=0)))) (qbv (k:=.i64) (a:=y88.2.2.2) (b:=0) rfl rfl)<|ln (hK124 _ _ ?_)
 refine Wc.cond (t:=(!(decide (y88.2.2.2=0)))) (rfl) (fun hq125=>?_) (fun hq125=>?_)
 replace hb:=tt hq125 hb
 refine Wc.seq fun _ hK126=>rg<|lp (.bool false) (qab rfl)<|ln (hK126 _ _ ?_)
 obtain rfl:=os hb
 refine Wc.ret (hKR _ _ ?_)
 refine ⟨_,res1 results8 (tV (.bool false) rfl),_,rfl,rfl,hC.sE []⟩
 replace hb:=tf hq125 hb
 refine Wc.skip (hK123 _ _ ?_)
 refine Wc.seq fun _ hK127=>?_
 refine Wc.seqJ (fun E wv=> ∃(u:Bool),E 6=.bool false∧E 13=iv y111.1∧E 14=iv y111.2∧E 15=iv y117.1∧E 16=iv y117.2∧E 95=.bool u∧Cx (fun _=>False) O0 w wv []∧F.law35_ArtinHoms_j1 n y111 y117 u=some r) (fun _ hK128=>?_) ?_
 refine rg<|lp _ (qaa e14)<|lp (.bool (!(decide (y111.2=0)))) (qbv (k:=.i64) (a:=y111.2) (b:=0) rfl rfl)<|lp (.bool (!(decide (y111.2=0)))) (qaa rfl) ?_
 rcases bS (!(decide (y111.2=0))) with hq129 | hq129
 replace hb:=tt hq129 hb
 refine gs rfl rfl (!(decide (y111.2=0))) rfl hq129<|gs rfl rfl (!(decide (y111.2=0))) rfl hq129<|lp (.bool true) (qap (q:=(!(decide (y111.2=0)))) rfl hq129 rfl)<|ln ?_
 exact hK128 _ _ ⟨true,e6,e13,e14,e15,e16,rfl,hC.sE [],hb⟩
 replace hb:=tf hq129 hb
 refine gp rfl rfl (!(decide (y111.2=0))) rfl hq129 (iv y117.2) (qaa e16)<|gp rfl rfl (!(decide (y111.2=0))) rfl hq129 (.bool (!(decide (y117.2=0)))) (qbv (k:=.i64) (a:=y117.2) (b:=0) rfl rfl)<|lp (.bool (!(decide (y117.2=0)))) (qat (q:=(!(decide (y111.2=0)))) rfl hq129 rfl)<|ln ?_
 exact hK128 _ _ ⟨(!(decide (y117.2=0))),e6,e13,e14,e15,e16,rfl,hC.sE [],hb⟩
 clear hb hC
 rintro E131 w130 ⟨u,e6,e13,e14,e15,e16,e95,hC,hb⟩
 unfold F.law35_ArtinHoms_j1 at hb
 refine Wc.cond (t:=u) (e95) (fun hq132=>?_) (fun hq132=>?_)
 replace hb:=tt hq132 hb
 refine Wc.seq fun _ hK133=>rg<|lp _ (qaa e14)<|lp _ (qaa e16)<|lp (.bool (decide (y111.2=y117.2))) (qcu (k:=.i64) (a:=y111.2) (b:=y117.2) rfl rfl)<|lp (.bool (decide (y111.2=y117.2))) (qaa rfl) ?_
 rcases bS (decide (y111.2=y117.2)) with hq134 | hq134
 replace hb:=tt hq134 hb
 refine gs rfl rfl (decide (y111.2=y117.2)) rfl hq134<|gs rfl rfl (decide (y111.2=y117.2)) rfl hq134<|lp (.bool true) (qap (q:=(decide (y111.2=y117.2))) rfl hq134 rfl)<|lp (.bool true) (qaa rfl)<|gs rfl rfl true rfl rfl<|gs rfl rfl true rfl rfl<|lp (.bool true) (qap (q:=true) rfl rfl rfl)<|lp (.bool true) (qab rfl)<|ln (hK133 _ _ ?_)
 obtain rfl:=os hb
 refine Wc.ret (hKR _ _ ?_)
 refine ⟨_,res1 results8 (tV (.bool true) rfl),_,rfl,rfl,hC.sE []⟩
 replace hb:=tf hq134 hb
 refine gp rfl rfl (decide (y111.2=y117.2)) rfl hq134 (iv y111.2) (qaa e14)<|gp rfl rfl (decide (y111.2=y117.2)) rfl hq134 (.bool (decide (y111.2=13))) (qcu (k:=.i64) (a:=y111.2) (b:=13) rfl rfl)<|lp (.bool (decide (y111.2=13))) (qat (q:=(decide (y111.2=y117.2))) rfl hq134 rfl)<|lp (.bool (decide (y111.2=13))) (qaa rfl) ?_
 rcases bS (decide (y111.2=13)) with hq135 | hq135
 replace hb:=tt hq135 hb
 refine gs rfl rfl (decide (y111.2=13)) rfl hq135<|gs rfl rfl (decide (y111.2=13)) rfl hq135<|lp (.bool true) (qap (q:=(decide (y111.2=13))) rfl hq135 rfl)<|lp (.bool true) (qab rfl)<|ln (hK133 _ _ ?_)
 obtain rfl:=os hb
 refine Wc.ret (hKR _ _ ?_)
 refine ⟨_,res1 results8 (tV (.bool true) rfl),_,rfl,rfl,hC.sE []⟩
 replace hb:=tf hq135 hb
 refine gp rfl rfl (decide (y111.2=13)) rfl hq135 (iv y117.2) (qaa e16)<|gp rfl rfl (decide (y111.2=13)) rfl hq135 (.bool (decide (y117.2=13))) (qcu (k:=.i64) (a:=y117.2) (b:=13) rfl rfl)<|lp (.bool (decide (y117.2=13))) (qat (q:=(decide (y111.2=13))) rfl hq135 rfl)<|lp (.bool (decide (y117.2=13))) (qab rfl)<|ln (hK133 _ _ ?_)
 obtain rfl:=os hb
 refine Wc.ret (hKR _ _ ?_)
 refine ⟨_,res1 results8 (tV (.bool (decide (y117.2=13))) rfl),_,rfl,rfl,hC.sE []⟩
 replace hb:=tf hq132 hb
 refine Wc.skip (hK127 _ _ ?_)
 refine Wc.seq fun _ hK136=>rg<|lp _ (qaa e13)<|lp _ (qaa e15)<|lp (.bool (decide (y111.1=y117.1))) (qcu (k:=.i64) (a:=y111.1) (b:=y117.1) rfl rfl)<|lp (.bool (decide (y111.1=y117.1))) (qab rfl)<|ln (hK136 _ _ ?_)
 obtain rfl:=os hb
 refine Wc.ret (hKR _ _ ?_)
 refine ⟨_,res1 results8 (tV (.bool (decide (y111.1=y117.1))) rfl),_,rfl,rfl,hC.sE []⟩
