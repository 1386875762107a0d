import Derived.Test.YtlkmcbgkohpmiaaS
import Derived.Test.YtlkmcbgkohpmiaaG10
set_option linter.all false
namespace Go.Proofs.Ytlkmcbgkohpmiaa
open Ev Try
set_option maxRecDepth 100000
set_option maxHeartbeats 4000000
theorem perm_Class_ok (n:Nat) {w:World} {O0:List Nat} (hO: ∀k∈O0,k<w.heap.size) {y:Int} (R:I64 y) {f:Option Addr} {K d:Nat} {c:List Int} (M:Rep O0 w (.sl si) [.slice f K d] c) {r:(List (List Int))×Int} (hb:F.qfa n y c=some r):
    Calls prog 76 #[iv y,.slice f K d] w fun e w'=> ∃v,e=.returned v∧∃(A0:Option Addr) (m0 c0:Nat),v=.tuple #[.slice A0 m0 c0,iv r.2]∧I64 r.2∧Cx (fun _=>False) O0 w w' [.own 52 (.sl si) (.slice A0 m0 c0) r.1]:=by
 unfold F.qfa at hb
 have hC:=Cx.start hO
 replace hC:=hC.arg rfl M
 clear hO
 obtain ⟨rfl,T,U⟩:=M.qaf
 replace hC:Cx (fun _=>False) O0 w w ([.ro (.sl si) [.slice f c.length d] c]++marksF ([]:List Nat)):=hC
 refine calls_of_WcM func76 rfl (by rw [ntmps76]; exact nb rfl) fun KR hKR=>?_
 refine Wc.seq fun _ hK2=>rg ?_
 replace hC:Cx (fun _=>False) O0 w w ([.ro (.sl si) [.slice f c.length d] c]++marksF ([]:List Nat)):=hC
 refine lex.op (hC.box (cs:=[.slice f c.length d]) rfl rfl) ?_
 rintro _ w4 ⟨g3,rfl,hC,hF,-⟩
 replace hC:Cx (fun _=>False) O0 w w4 ([.box g3 22 [.slice f c.length d],.ro (.sl si) [.slice f c.length d] c]++marksF ([]:List Nat)):=hC
 refine lp (.slice none 0 0) (qab rfl)<|lp (iv 0) (qab rfl)<|ln (hK2 _ _ ?_)
 refine Wc.seq fun _ hK6=>?_
 refine Wc.seq fun _ hK7=>rg<|lp (iv y) (qaa rfl)<|lp (.bool (decide (y<1))) (qau (k:=.i64) (a:=y) (b:=1) rfl rfl)<|lp (.bool (decide (y<1))) (qaa rfl) ?_
 rcases bS (decide (y<1)) with hq8 | hq8
 replace hb:=tt hq8 hb
 refine gs rfl rfl (decide (y<1)) rfl hq8<|gs rfl rfl (decide (y<1)) rfl hq8<|lp (.bool true) (qap (q:=(decide (y<1))) rfl hq8 rfl)<|ln (hK7 _ _ ?_)
 refine Wc.cond_true (rfl) ?_
 refine Wc.seq fun _ hK9=>rg<|lp (.slice none 0 0) (qab rfl)<|lp (iv 2) (qab rfl)<|ln (hK9 _ _ ?_)
 replace hC:=hC.nil 52 (.sl si)
 replace hC:Cx (fun _=>False) O0 w w4 ([.own 52 (.sl si) (.slice none 0 0) ([]:List (List Int)),.box g3 22 [.slice f c.length d],.ro (.sl si) [.slice f c.length d] c]++marksF ([]:List Nat)):=hC
 obtain rfl:=os hb
 refine Wc.ret ?_
 replace hC:Cx (fun _=>False) O0 w w4 (marksF ([]:List Nat)++[.own 52 (.sl si) (.slice none 0 0) ([]:List (List Int)),.box g3 22 [.slice f c.length d],.ro (.sl si) [.slice f c.length d] c]):=hC.perm List.perm_append_comm
 refine hKR _ _ _ _ _ _ _ rfl hC fun w11 hC=>?_
 refine ⟨_,res2 results76 (tV (.slice none 0 0) rfl) (tV (iv 2) rfl),_,rfl,none,0,0,rfl,(show I64 2 from by unfold I64; omega),hC.sE [0]⟩
 replace hb:=tf hq8 hb
 refine gp rfl rfl (decide (y<1)) rfl hq8 (iv y) (qaa rfl)<|gp rfl rfl (decide (y<1)) rfl hq8 (.bool (decide (8<y))) (qbi (k:=.i64) (a:=y) (b:=8) rfl rfl)<|lp (.bool (decide (8<y))) (qat (q:=(decide (y<1))) rfl hq8 rfl)<|ln (hK7 _ _ ?_)
 refine Wc.cond (t:=(decide (8<y))) (rfl) (fun hq12=>?_) (fun hq12=>?_)
 replace hb:=tt hq12 hb
 refine Wc.seq fun _ hK13=>rg<|lp (.slice none 0 0) (qab rfl)<|lp (iv 2) (qab rfl)<|ln (hK13 _ _ ?_)
 replace hC:=hC.nil 52 (.sl si)
 replace hC:Cx (fun _=>False) O0 w w4 ([.own 52 (.sl si) (.slice none 0 0) ([]:List (List Int)),.box g3 22 [.slice f c.length d],.ro (.sl si) [.slice f c.length d] c]++marksF ([]:List Nat)):=hC
 obtain rfl:=os hb
 refine Wc.ret ?_
 replace hC:Cx (fun _=>False) O0 w w4 (marksF ([]:List Nat)++[.own 52 (.sl si) (.slice none 0 0) ([]:List (List Int)),.box g3 22 [.slice f c.length d],.ro (.sl si) [.slice f c.length d] c]):=hC.perm List.perm_append_comm
 refine hKR _ _ _ _ _ _ _ rfl hC fun w15 hC=>?_
 refine ⟨_,res2 results76 (tV (.slice none 0 0) rfl) (tV (iv 2) rfl),_,rfl,none,0,0,rfl,(show I64 2 from by unfold I64; omega),hC.sE [0]⟩
 replace hb:=tf hq12 hb
 refine Wc.skip (hK6 _ _ ?_)
 refine Wc.seq fun _ hK16=>rg<|lp (iv y) (qaa rfl)<|lp (iv y) (qab rfl)<|ln (hK16 _ _ ?_)
 refine Wc.fresh fun E17 hE=>?_
 have e0:E17 0=iv y:=cg hE 0 rfl
 have e3:E17 3=pg g3:=cg hE 3 rfl
 have e4:E17 4=.slice none 0 0:=cg hE 4 rfl
 have e5:E17 5=iv 0:=cg hE 5 rfl
 have e6:E17 6=iv y:=cg hE 6 rfl
 clear hE
 refine Wc.seq fun _ hK18=>?_
 refine Wc.seq fun _ hK19=>rg<|lv (.slice f c.length d) (qah isAgg22 e3 ((hC.bx (i:=0) rfl).cell (j:=0) rfl))<|lp (iv (c.length:Int)) (qan (A:=f) (n:=c.length) (m:=d) underlying22 rfl)<|lp (iv 0) (qaa rfl)<|ln (hK19 _ _ ?_)
 obtain ⟨o20,hl0,hb⟩:=bd hb
 refine Wc.cut (fun E wv=> ∃(x:List Nat) (B:Int) (u:Int),E 0=iv y∧E 3=pg g3∧E 4=.slice none 0 0∧E 5=iv 0∧E 6=iv B∧I64 B∧I64 u∧E.ms=x∧Cx (fun _=>False) O0 w wv ([.box g3 22 [.slice f c.length d],.ro (.sl si) [.slice f c.length d] c]++marksF x)∧(cond (!(decide (B=0))) (some ([],1)) (((F.perm_All_c1 ((F.perm_Class_b1 n c):List Int→(List (List Int))→Option (((List (List Int)))⊕((List (List Int))))) n ([]:List (List Int)) y).bind fun o91=>match lr o91 with | g=>some (g,0))):Option ((List (List Int))×Int))=some r) (fun _ hK21=>?_) ?_
 refine Wc.block ?_
 refine Wc.loop (fun m E wv=> ∃(x:List Nat) (B:Int) (u:Int),E 0=iv y∧E 3=pg g3∧E 4=.slice none 0 0∧E 5=iv 0∧E 6=iv B∧E 18=.slice f c.length d∧E 19=iv (c.length:Int)∧E 20=iv u∧I64 B∧I64 u∧E.ms=x∧Cx (fun _=>False) O0 w wv ([.box g3 22 [.slice f c.length d],.ro (.sl si) [.slice f c.length d] c]++marksF x)∧loopN m (F.qgt n c) (B,u)=some o20) n ⟨([]:List Nat),y,0,e0,e3,e4,e5,e6,rfl,rfl,rfl,R,(show I64 0 from by unfold I64; omega),rfl,hC.selT [0,1] (by decide),hl0⟩ ?_
 have hbK0:=hb
 clear hb hC hl0
 rintro m23 E25 w24 ⟨x,B,u,e0,e3,e4,e5,e6,e18,e19,e20,Q,P,hms,hC,hl0⟩ K22 hK22
 obtain ⟨m23',o26,rfl,hb,hl0⟩:=qam hl0
 unfold F.qgt at hb
 refine Wc.seq fun _ hK27=>rg ?_
 replace hC:Cx (fun _=>False) O0 w w24 ([.box g3 22 [.slice f c.length d],.ro (.sl si) [.slice f c.length d] c]++marksF x):=hC
 refine lp _ (qau e20 e19)<|ln (hK27 _ _ ?_)
 refine Wc.seq fun _ hK28=>?_
 refine Wc.cond (t:=(decide (u<(c.length:Int)))) (rfl) (fun hq29=>?_) (fun hq29=>?_)
 replace hb:=tt hq29 hb
 refine Wc.skip (hK28 _ _ ?_)
 refine Wc.seq fun _ hK30=>?_
 refine Wc.block<|Wc.seq fun _ hK31=>rg<|lp _ (qaa e20) ?_
 obtain ⟨x32,h33,hb⟩:=bd hb
 obtain ⟨ad34,cs35,hA,hc36,hr37⟩:=hC.elr (i:=1) rfl (qac h33).2
 subst hA
 refine lp (.pointer (some (ad34.add (u.toNat*1)))) (qag (a:=u) underlying22 sizeOf3 e18 e20 (qac h33).1) ?_
 replace hC:Cx (fun _=>False) O0 w w24 ([.box g3 22 [.slice (some ad34) c.length d],.ro (.sl si) [.slice (some ad34) c.length d] c]++marksF x):=hC
 obtain ⟨rfl,hr37'⟩:=hr37
 refine lv (iv x32) (qah isAgg3 rfl (hc36 0 _ rfl))<|lp (iv u) (qab rfl)<|lp (iv x32) (qab rfl)<|ln (hK31 _ _ ?_)
 refine Wc.seq fun _ hK38=>?_
 refine Wc.seq fun _ hK39=>rg<|lp (iv x32) (qaa rfl)<|lp (.bool (decide (x32<1))) (qau (k:=.i64) (a:=x32) (b:=1) rfl rfl)<|lp (.bool (decide (x32<1))) (qaa rfl) ?_
 rcases bS (decide (x32<1)) with hq40 | hq40
 replace hb:=tt hq40 hb
 refine gs rfl rfl (decide (x32<1)) rfl hq40<|gs rfl rfl (decide (x32<1)) rfl hq40<|gs rfl rfl (decide (x32<1)) rfl hq40<|lp (.bool true) (qap (q:=(decide (x32<1))) rfl hq40 rfl)<|lp (.bool true) (qaa rfl)<|gs rfl rfl true rfl rfl<|gs rfl rfl true rfl rfl<|gs rfl rfl true rfl rfl ?_
 refine lex.gskip (qbq rfl rfl rfl) ?_
 refine lex.gskip (qbq rfl rfl rfl) ?_
 refine lex.gskip (qbq rfl rfl rfl) ?_
 refine lex.gskip (qbq rfl rfl rfl) ?_
 refine lex.gskip (qbq rfl rfl rfl) ?_
 refine lex.gskip (qbq rfl rfl rfl) ?_
 refine lex.gskip (qbq rfl rfl rfl) ?_
 refine gs rfl rfl true rfl rfl<|lp (.bool true) (qap (q:=true) rfl rfl rfl)<|ln (hK39 _ _ ?_)
 refine Wc.fresh fun E41 hE=>?_
 have e0:=cg hE 0 e0
 have e3:=cg hE 3 e3
 have e4:=cg hE 4 e4
 have e5:=cg hE 5 e5
 have e6:=cg hE 6 e6
 have e7:E41 7=iv u:=cg hE 7 rfl
 have e8:E41 8=iv x32:=cg hE 8 rfl
 have e18:=cg hE 18 e18
 have e19:=cg hE 19 e19
 have e20:=cg hE 20 e20
 have e21:E41 21=.bool (decide (u<(c.length:Int))):=cg hE 21 rfl
 have e44:E41 44=.bool true:=cg hE 44 rfl
 clear hE
 refine Wc.cond_true (e44) ?_
 refine Wc.seq fun _ hK42=>rg<|lp (.slice none 0 0) (qab rfl)<|lp (iv 1) (qab rfl)<|ln (hK42 _ _ ?_)
 obtain rfl:=os hb
 obtain rfl:=(lX hl0).symm
 replace hb:=hbK0
 replace hC:=hC.nil 52 (.sl si)
 replace hC:Cx (fun _=>False) O0 w w24 ([.own 52 (.sl si) (.slice none 0 0) ([]:List (List Int)),.box g3 22 [.slice (some ad34) c.length d],.ro (.sl si) [.slice (some ad34) c.length d] c]++marksF x):=hC
 obtain rfl:=os hb
 refine Wc.ret ?_
 replace hC:Cx (fun _=>False) O0 w w24 (marksF x++[.own 52 (.sl si) (.slice none 0 0) ([]:List (List Int)),.box g3 22 [.slice (some ad34) c.length d],.ro (.sl si) [.slice (some ad34) c.length d] c]):=hC.perm List.perm_append_comm
 refine hKR _ _ _ _ _ _ _ hms hC fun w44 hC=>?_
 refine ⟨_,res2 results76 (tV (.slice none 0 0) rfl) (tV (iv 1) rfl),_,rfl,none,0,0,rfl,(show I64 1 from by unfold I64; omega),hC.sE [0]⟩
 replace hb:=tf hq40 hb
 refine gp rfl rfl (decide (x32<1)) rfl hq40 (iv x32) (qaa rfl)<|gp rfl rfl (decide (x32<1)) rfl hq40 (iv B) (qaa e6)<|gp rfl rfl (decide (x32<1)) rfl hq40 (.bool (decide (B<x32))) (qbi (k:=.i64) (a:=x32) (b:=B) rfl rfl)<|lp (.bool (decide (B<x32))) (qat (q:=(decide (x32<1))) rfl hq40 rfl)<|lp (.bool (decide (B<x32))) (qaa rfl) ?_
 rcases bS (decide (B<x32)) with hq45 | hq45
 replace hb:=tt hq45 hb
 refine gs rfl rfl (decide (B<x32)) rfl hq45<|gs rfl rfl (decide (B<x32)) rfl hq45<|gs rfl rfl (decide (B<x32)) rfl hq45 ?_
 refine lex.gskip (qbq rfl rfl rfl) ?_
 refine lex.gskip (qbq rfl rfl rfl) ?_
 refine lex.gskip (qbq rfl rfl rfl) ?_
 refine lex.gskip (qbq rfl rfl rfl) ?_
 refine lex.gskip (qbq rfl rfl rfl) ?_
 refine lex.gskip (qbq rfl rfl rfl) ?_
 refine lex.gskip (qbq rfl rfl rfl) ?_
 refine gs rfl rfl (decide (B<x32)) rfl hq45<|lp (.bool true) (qap (q:=(decide (B<x32))) rfl hq45 rfl)<|ln (hK39 _ _ ?_)
 refine Wc.fresh fun E46 hE=>?_
 have e0:=cg hE 0 e0
 have e3:=cg hE 3 e3
 have e4:=cg hE 4 e4
 have e5:=cg hE 5 e5
 have e6:=cg hE 6 e6
 have e7:E46 7=iv u:=cg hE 7 rfl
 have e8:E46 8=iv x32:=cg hE 8 rfl
 have e18:=cg hE 18 e18
 have e19:=cg hE 19 e19
 have e20:=cg hE 20 e20
 have e21:E46 21=.bool (decide (u<(c.length:Int))):=cg hE 21 rfl
 have e44:E46 44=.bool true:=cg hE 44 rfl
 clear hE
 refine Wc.cond_true (e44) ?_
 refine Wc.seq fun _ hK47=>rg<|lp (.slice none 0 0) (qab rfl)<|lp (iv 1) (qab rfl)<|ln (hK47 _ _ ?_)
 obtain rfl:=os hb
 obtain rfl:=(lX hl0).symm
 replace hb:=hbK0
 replace hC:=hC.nil 52 (.sl si)
 replace hC:Cx (fun _=>False) O0 w w24 ([.own 52 (.sl si) (.slice none 0 0) ([]:List (List Int)),.box g3 22 [.slice (some ad34) c.length d],.ro (.sl si) [.slice (some ad34) c.length d] c]++marksF x):=hC
 obtain rfl:=os hb
 refine Wc.ret ?_
 replace hC:Cx (fun _=>False) O0 w w24 (marksF x++[.own 52 (.sl si) (.slice none 0 0) ([]:List (List Int)),.box g3 22 [.slice (some ad34) c.length d],.ro (.sl si) [.slice (some ad34) c.length d] c]):=hC.perm List.perm_append_comm
 refine hKR _ _ _ _ _ _ _ hms hC fun w49 hC=>?_
 refine ⟨_,res2 results76 (tV (.slice none 0 0) rfl) (tV (iv 1) rfl),_,rfl,none,0,0,rfl,(show I64 1 from by unfold I64; omega),hC.sE [0]⟩
 replace hb:=tf hq45 hb
 refine gp rfl rfl (decide (B<x32)) rfl hq45 (iv u) (qaa rfl)<|gp rfl rfl (decide (B<x32)) rfl hq45 (.bool (decide (0<u))) (qbi (k:=.i64) (a:=u) (b:=0) rfl rfl)<|gp rfl rfl (decide (B<x32)) rfl hq45 (.bool (decide (0<u))) (qaa rfl) ?_
 rcases bS (decide (0<u)) with hq50 | hq50
 replace hb:=tt hq50 hb
 refine gp rfl rfl (decide (0<u)) rfl hq50 (iv x32) (qaa rfl)<|gv rfl rfl (decide (0<u)) rfl hq50 (.slice (some ad34) c.length d) (qah isAgg22 e3 ((hC.bx (i:=0) rfl).cell (j:=0) rfl))<|gp rfl rfl (decide (0<u)) rfl hq50 (iv u) (qaa rfl) ?_
 obtain ⟨z51,h52,hb⟩:=bd hb
 refine gp rfl rfl (decide (0<u)) rfl hq50 (iv z51) (qbu (a:=u) (b:=1) rfl rfl h52) ?_
 obtain ⟨x53,h54,hb⟩:=bd hb
 obtain ⟨ad55,cs56,hA,hc57,hr58⟩:=hC.elr (i:=1) rfl (qac h54).2
 obtain rfl:=Option.some.inj hA
 refine gp rfl rfl (decide (0<u)) rfl hq50 (.pointer (some (ad34.add (z51.toNat*1)))) (qag (a:=z51) underlying22 sizeOf3 rfl rfl (qac h54).1) ?_
 obtain ⟨rfl,hr58'⟩:=hr58
 refine gv rfl rfl (decide (0<u)) rfl hq50 (iv x53) (qah isAgg3 rfl (hc57 0 _ rfl))<|gp rfl rfl (decide (0<u)) rfl hq50 (.bool (decide (x53<x32))) (qbi (k:=.i64) (a:=x32) (b:=x53) rfl rfl)<|gp rfl rfl (decide (B<x32)) rfl hq45 (.bool (decide (x53<x32))) (qap (q:=(decide (0<u))) rfl hq50 rfl)<|lp (.bool (decide (x53<x32))) (qat (q:=(decide (B<x32))) rfl hq45 rfl)<|ln (hK39 _ _ ?_)
 refine Wc.fresh fun E59 hE=>?_
 have e0:=cg hE 0 e0
 have e3:=cg hE 3 e3
 have e4:=cg hE 4 e4
 have e5:=cg hE 5 e5
 have e6:=cg hE 6 e6
 have e7:E59 7=iv u:=cg hE 7 rfl
 have e8:E59 8=iv x32:=cg hE 8 rfl
 have e18:=cg hE 18 e18
 have e19:=cg hE 19 e19
 have e20:=cg hE 20 e20
 have e21:E59 21=.bool (decide (u<(c.length:Int))):=cg hE 21 rfl
 have e44:E59 44=.bool (decide (x53<x32)):=cg hE 44 rfl
 clear hE
 refine Wc.cond (t:=(decide (x53<x32))) (e44) (fun hq60=>?_) (fun hq60=>?_)
 replace hb:=tt hq60 hb
 refine Wc.seq fun _ hK61=>rg<|lp (.slice none 0 0) (qab rfl)<|lp (iv 1) (qab rfl)<|ln (hK61 _ _ ?_)
 obtain rfl:=os hb
 obtain rfl:=(lX hl0).symm
 replace hb:=hbK0
 replace hC:=hC.nil 52 (.sl si)
 replace hC:Cx (fun _=>False) O0 w w24 ([.own 52 (.sl si) (.slice none 0 0) ([]:List (List Int)),.box g3 22 [.slice (some ad34) c.length d],.ro (.sl si) [.slice (some ad34) c.length d] c]++marksF x):=hC
 obtain rfl:=os hb
 refine Wc.ret ?_
 replace hC:Cx (fun _=>False) O0 w w24 (marksF x++[.own 52 (.sl si) (.slice none 0 0) ([]:List (List Int)),.box g3 22 [.slice (some ad34) c.length d],.ro (.sl si) [.slice (some ad34) c.length d] c]):=hC.perm List.perm_append_comm
 refine hKR _ _ _ _ _ _ _ hms hC fun w63 hC=>?_
 refine ⟨_,res2 results76 (tV (.slice none 0 0) rfl) (tV (iv 1) rfl),_,rfl,none,0,0,rfl,(show I64 1 from by unfold I64; omega),hC.sE [0]⟩
 replace hb:=tf hq60 hb
 refine Wc.skip (hK38 _ _ ?_)
 refine rg<|lp _ (qaa e6)<|lp _ (qaa e8) ?_
 obtain ⟨z64,h65,hb⟩:=bd hb
 refine lp (iv z64) (qbu (a:=B) (b:=x32) rfl rfl h65)<|lp (iv z64) (qab rfl)<|ln (hK30 _ _ ?_)
 refine rg ?_
 obtain ⟨z66,h67,hb⟩:=bd hb
 refine lp (iv z66) (qak (a:=u) (b:=1) e20 rfl h67)<|lp (iv z66) (qaa rfl)<|ln ?_
 obtain rfl:=os hb
 exact hK22 m23' _ _ (Nat.lt_succ_self _) ⟨x,z64,z66,e0,e3,e4,e5,rfl,e18,e19,rfl,(qai h65),(qai h67),hms,hC.selT [0,1] (by decide),lN hl0⟩
 replace hb:=tf hq50 hb
 refine gs rfl rfl (decide (0<u)) rfl hq50<|gs rfl rfl (decide (0<u)) rfl hq50<|gs rfl rfl (decide (0<u)) rfl hq50<|gs rfl rfl (decide (0<u)) rfl hq50<|gs rfl rfl (decide (0<u)) rfl hq50<|gs rfl rfl (decide (0<u)) rfl hq50<|gs rfl rfl (decide (0<u)) rfl hq50<|gp rfl rfl (decide (B<x32)) rfl hq45 (.bool false) (qat (q:=(decide (0<u))) rfl hq50 rfl)<|lp (.bool false) (qat (q:=(decide (B<x32))) rfl hq45 rfl)<|ln (hK39 _ _ ?_)
 refine Wc.fresh fun E68 hE=>?_
 have e0:=cg hE 0 e0
 have e3:=cg hE 3 e3
 have e4:=cg hE 4 e4
 have e5:=cg hE 5 e5
 have e6:=cg hE 6 e6
 have e7:E68 7=iv u:=cg hE 7 rfl
 have e8:E68 8=iv x32:=cg hE 8 rfl
 have e18:=cg hE 18 e18
 have e19:=cg hE 19 e19
 have e20:=cg hE 20 e20
 have e21:E68 21=.bool (decide (u<(c.length:Int))):=cg hE 21 rfl
 have e44:E68 44=.bool false:=cg hE 44 rfl
 clear hE
 refine Wc.cond_false (e44) ?_
 refine Wc.skip (hK38 _ _ ?_)
 refine rg<|lp _ (qaa e6)<|lp _ (qaa e8) ?_
 obtain ⟨z69,h70,hb⟩:=bd hb
 refine lp (iv z69) (qbu (a:=B) (b:=x32) rfl rfl h70)<|lp (iv z69) (qab rfl)<|ln (hK30 _ _ ?_)
 refine rg ?_
 obtain ⟨z71,h72,hb⟩:=bd hb
 refine lp (iv z71) (qak (a:=u) (b:=1) e20 rfl h72)<|lp (iv z71) (qaa rfl)<|ln ?_
 obtain rfl:=os hb
 exact hK22 m23' _ _ (Nat.lt_succ_self _) ⟨x,z69,z71,e0,e3,e4,e5,rfl,e18,e19,rfl,(qai h70),(qai h72),hms,hC.selT [0,1] (by decide),lN hl0⟩
 replace hb:=tf hq29 hb
 refine Wc.exit rfl ?_
 obtain rfl:=os hb
 obtain rfl:=(lX hl0).symm
 exact hK21 _ _ ⟨x,B,u,e0,e3,e4,e5,e6,Q,P,hms,hC.selT [0,1] (by decide),hbK0⟩
 clear hb hC hl0
 rintro E74 w73 ⟨x,B,u,e0,e3,e4,e5,e6,Q,P,hms,hC,hb⟩
 refine hK18 _ _ ?_
 refine Wc.seq fun _ hK75=>?_
 refine Wc.seq fun _ hK76=>rg ?_
 replace hC:Cx (fun _=>False) O0 w w73 ([.box g3 22 [.slice f c.length d],.ro (.sl si) [.slice f c.length d] c]++marksF x):=hC
 refine lp _ (qaa e6)<|lp (.bool (!(decide (B=0)))) (qbv (k:=.i64) (a:=B) (b:=0) rfl rfl)<|ln (hK76 _ _ ?_)
 refine Wc.cond (t:=(!(decide (B=0)))) (rfl) (fun hq77=>?_) (fun hq77=>?_)
 replace hb:=tt hq77 hb
 refine Wc.seq fun _ hK78=>rg<|lp (.slice none 0 0) (qab rfl)<|lp (iv 1) (qab rfl)<|ln (hK78 _ _ ?_)
 replace hC:=hC.nil 52 (.sl si)
 replace hC:Cx (fun _=>False) O0 w w73 ([.own 52 (.sl si) (.slice none 0 0) ([]:List (List Int)),.box g3 22 [.slice f c.length d],.ro (.sl si) [.slice f c.length d] c]++marksF x):=hC
 obtain rfl:=os hb
 refine Wc.ret ?_
 replace hC:Cx (fun _=>False) O0 w w73 (marksF x++[.own 52 (.sl si) (.slice none 0 0) ([]:List (List Int)),.box g3 22 [.slice f c.length d],.ro (.sl si) [.slice f c.length d] c]):=hC.perm List.perm_append_comm
 refine hKR _ _ _ _ _ _ _ hms hC fun w80 hC=>?_
 refine ⟨_,res2 results76 (tV (.slice none 0 0) rfl) (tV (iv 1) rfl),_,rfl,none,0,0,rfl,(show I64 1 from by unfold I64; omega),hC.sE [0]⟩
 replace hb:=tf hq77 hb
 refine Wc.skip (hK75 _ _ ?_)
 refine Wc.seq fun _ hK81=>rg<|lex.op (hC.alloc (cs:=[.slice none 0 0]) zeroValue77 rfl) ?_
 rintro _ w83 ⟨g82,rfl,hC,hF,-⟩
 refine ln (hK81 _ _ ?_)
 refine Wc.seq fun _ hK85=>?_
 refine Wc.seq fun _ hK86=>rg ?_
 replace hC:Cx (fun _=>False) O0 w w83 ([.box g82 77 [.slice none 0 0],.box g3 22 [.slice f c.length d],.ro (.sl si) [.slice f c.length d] c]++marksF x):=hC
 refine lp _ (qaa e0)<|lex.cl (⟨_,_,qas (vs:=[iv y]) call89 rfl rfl rfl,perm_All_ok hC.lt⟩) ?_
 rintro _ w89 ⟨g87,rfl,hK⟩
 replace hC:=hC.merge hK
 clear hK
 refine ln (hK86 _ _ ?_)
 replace hC:Cx (fun _=>False) O0 w w89 ([.box g87 3 [iv y],.box g82 77 [.slice none 0 0],.box g3 22 [.slice f c.length d],.ro (.sl si) [.slice f c.length d] c]++marksF x):=hC
 replace hC:=hC.nil 52 (.sl si)
 obtain ⟨o91,hl1,hb⟩:=bd hb
 refine Wc.cut (fun E wv=> ∃(N:List Nat) (g:List (List Int)) (o:Option Addr) (C p:Nat),E 4=.slice none 0 0∧E 5=iv 0∧E 9=pg g82∧E.ms=N∧Cx (fun _=>False) O0 w wv ([.box g82 77 [.slice o C p],.own 52 (.sl si) (.slice o C p) g]++marksF N)∧(some (g,0):Option ((List (List Int))×Int))=some r) (fun _ hK92=>?_) ?_
 refine Wc.block ?_
 replace hC:Cx (fun _=>False) O0 w w89 ([.own 52 (.sl si) (.slice none 0 0) ([]:List (List Int)),.box g87 3 [iv y],.box g82 77 [.slice none 0 0],.box g3 22 [.slice f c.length d],.ro (.sl si) [.slice f c.length d] c]++marksF x):=hC
 replace hC:=hC.selT [1,3,4,2,0] (by decide)
 replace hC:Cx (fun _=>False) O0 w w89 ([.box g87 3 [iv y]]++([.box g3 22 [.slice f c.length d],.ro (.sl si) [.slice f c.length d] c,.box g82 77 [.slice none 0 0],.own 52 (.sl si) (.slice none 0 0) ([]:List (List Int))]++marksF x)):=hC
 refine Wc.rangeF (fun s L=> ∃(g:List (List Int)) (o:Option Addr) (C p:Nat),g=s∧L=([.box g3 22 [.slice f c.length d],.ro (.sl si) [.slice f c.length d] c,.box g82 77 [.slice o C p],.own 52 (.sl si) (.slice o C p) g]++marksF x)) (fun _ _=>False) ([]:List Nat) (fun _=>some 2) rfl call93 (perm_All_c1_it n ((F.perm_Class_b1 n c):List Int→(List (List Int))→Option (((List (List Int)))⊕((List (List Int))))) R) rfl (by decide) (fun v=>[(53,v)]) (fun v=>by simp) hC ⟨([]:List (List Int)),none,0,0,rfl,rfl⟩ hl1 _ (fun l v W=>Wc.region (by decide+kernel) (lex.pure (v:=v) (qab rfl) (lex.nil ⟨rfl,rfl⟩))) ?_ ?_ ?_ ?_
 have hbK1:=hb
 clear hb hC hl1
 rintro s96 o95 z D G l97 D98 oB99 oK100 L Tp w93 ⟨g,o,C,p,rfl,rfl⟩ hb hC Kn Kr Kx hKn hKr hKx
 unfold F.perm_Class_b1 at hb
 replace hC:Cx (fun _=>False) O0 w w93 (([.own 3 si (.slice D z.length G) z,.obj l97 oB99,.obj D98 oK100,.box g3 22 [.slice f c.length d],.ro (.sl si) [.slice f c.length d] c,.box g82 77 [.slice o C p],.own 52 (.sl si) (.slice o C p) g]++marksF x)++Tp):=hC
 replace hC:=hC.assoc
 refine Wc.fresh fun E94 hE=>?_
 have e3:=cg hE 3 e3
 have e4:=cg hE 4 e4
 have e5:=cg hE 5 e5
 have e9:E94 9=pg g82:=cg hE 9 rfl
 have e10:E94 10=.slice D z.length G:=congrFun hE 10
 have e53:E94 53=.slice D z.length G:=congrFun hE 53
 clear hE
 obtain ⟨rfl,H,J⟩:=(hC.ow (i:=6) rfl).qaf
 obtain ⟨-,V,X⟩:=(hC.ow (i:=0) rfl).qaf
 refine Wc.block ?_
 refine Wc.seq fun _ hK103=>?_
 refine Wc.regionMix [] (frm [] ([]:List Fact) ([]:List Fact)) (fun _=>rfl) mixed (by decide+kernel) (by decide+kernel) fun w105 hw104=>?_
 replace hC:=hC.step (Fr.qbh hw104)
 have hM:=Fr.refl (fun k=>k∈blocks ([]:List Fact)) w105
 clear hw104
 have hS:=hC
 replace hC:Cx (fun _=>False) O0 w w105 ([.own 3 si (.slice D z.length G) z,.obj l97 oB99,.obj D98 oK100,.box g3 22 [.slice f c.length d],.ro (.sl si) [.slice f c.length d] c,.box g82 77 [.slice o g.length p],.own 52 (.sl si) (.slice o g.length p) g]++(marksF x++Tp)):=hC
 refine mp (.slice D z.length G) (qaa e10) ?_
 obtain ⟨y106,h107,hb⟩:=bd hb
 refine mixE.cl hM (⟨_,_,qas (vs:=[.slice D z.length G]) call91 rfl rfl rfl,perm_Type_ok n (hC.lentLt [.slice D z.length G]) ((hC.ow (i:=0) rfl).lend (vs:=[.slice D z.length G]) (by simp)) h107⟩) ?_
 rintro _ w112 ⟨A108,m109,c110,rfl,hK⟩
 have hBf111:=Beside.cl (i:=0) hM hK rfl
 replace hM:=hM.none hK.fr
 refine ⟨hM,?_⟩
 replace hC:=hC.mergeF hK rfl
 clear hK
 obtain ⟨rfl,hl113,hc114⟩:=(hC.ow (i:=0) rfl).qaf
 replace hC:Cx (fun _=>False) O0 w w112 ([.own 3 si (.slice A108 y106.length c110) y106,.own 3 si (.slice D z.length G) z,.obj l97 oB99,.obj D98 oK100,.box g3 22 [.slice f c.length d],.ro (.sl si) [.slice f c.length d] c,.box g82 77 [.slice o g.length p],.own 52 (.sl si) (.slice o g.length p) g]++(marksF x++Tp)):=hC
 refine mixE.load hM (v:=.slice f c.length d) (fun _ hF=>qah isAgg22 e3 ((hS.bx2 (i:=3) rfl [] (by decide) hF).cell (j:=0) rfl)) ?_
 obtain ⟨y115,h116,hb⟩:=bd hb
 refine mixE.cl hM (⟨_,_,qas (vs:=[.slice A108 y106.length c110,.slice f c.length d]) call90 rfl rfl rfl,slices_Equal_Lint_int_ok n (hC.lentLt [.slice A108 y106.length c110]) ((hC.ow (i:=0) rfl).lend (vs:=[.slice A108 y106.length c110]) (by simp)) ((hC.rd (i:=5) rfl).lent [.slice A108 y106.length c110]) h116⟩) ?_
 rintro _ w117 ⟨rfl,hK⟩
 replace hM:=hM.none hK.fr
 refine ⟨hM,?_⟩
 replace hC:=hC.mergeF hK rfl
 clear hK
 refine mixE.nil ?_
 clear hS hM
 refine hK103 _ _<|Wc.cond (t:=y115) (rfl) (fun hq118=>?_) (fun hq118=>?_)
 replace hb:=tt hq118 hb
 refine rg ?_
 replace hC:Cx (fun _=>False) O0 w w117 ([.own 3 si (.slice A108 y106.length c110) y106,.own 3 si (.slice D z.length G) z,.obj l97 oB99,.obj D98 oK100,.box g3 22 [.slice f c.length d],.ro (.sl si) [.slice f c.length d] c,.box g82 77 [.slice o g.length p],.own 52 (.sl si) (.slice o g.length p) g]++(marksF x++Tp)):=hC
 refine lv (.slice o g.length p) (qah isAgg77 e9 ((hC.bx (i:=6) rfl).cell (j:=0) rfl))<|lp _ (qaa e10) ?_
 replace hC:=hC.freeze (i:=1) rfl (hC.qdh (i:=1) rfl)
 refine lex.op (hC.lit (s:=(.sl si)) (vs:=[.slice D z.length G]) (xs:=[z]) underlying77 type52 rfl rfl (nb rfl) rfl rfl (by simp [Value.cells,Sh.n]) rfl (show Elems _ _ (.sl si) ([.slice D z.length G]++([])) ([z]:List (List Int)) from Elems.cons (hC.rd (i:=1) rfl) (Elems.nil _ _ _))) ?_
 rintro _ w123 ⟨A119,c120,rfl,hl121,hc122,hC,-,-⟩
 replace hC:Cx (fun _=>False) O0 w w123 ([.own 52 (.sl si) (.slice A119 ((([z]:List (List Int))).length) c120) ([z]:List (List Int)),.own 3 si (.slice A108 y106.length c110) y106,.ro (.sl si) [.slice D z.length G] z,.obj l97 oB99,.obj D98 oK100,.box g3 22 [.slice f c.length d],.ro (.sl si) [.slice f c.length d] c,.box g82 77 [.slice o g.length p],.own 52 (.sl si) (.slice o g.length p) g]++(marksF x++Tp)):=hC
 obtain ⟨u125,h126,hb⟩:=bd hb
 refine lex.op (hC.app (i:=8) (s:=(.sl si)) (xs:=g) (ys:=([z]:List (List Int))) (m:=((([z]:List (List Int))).length)) rfl underlying77 underlying77 type52 rfl rfl rfl (hC.srco (i:=0) rfl) rfl rfl (by have:=qbn h126; simp at this⊢ <;>omega) (by decide)) ?_
 rintro _ w131 ⟨A127,c128,rfl,hl129,hc130,hC,-,-⟩
 replace hC:Cx (fun _=>False) O0 w w131 ([.own 52 (.sl si) (.slice A119 ((([z]:List (List Int))).length) c120) ([z]:List (List Int)),.own 3 si (.slice A108 y106.length c110) y106,.ro (.sl si) [.slice D z.length G] z,.obj l97 oB99,.obj D98 oK100,.box g3 22 [.slice f c.length d],.ro (.sl si) [.slice f c.length d] c,.box g82 77 [.slice o g.length p],.own 52 (.sl si) (.slice A127 ((g++([z]:List (List Int))).length) c128) (g++([z]:List (List Int)))]++(marksF x++Tp)):=hC
 refine lex.sk (hC.setf (i:=7) (k:=0) (v:=.slice A127 ((g++([z]:List (List Int))).length) c128) rfl sizeOf77 rfl (by rw [Addr.add_zero']; exact e9) rfl rfl) ?_
 rintro w132 ⟨hC,hF⟩
 refine ln ?_
 obtain rfl:=os hb
 replace hC:Cx (fun _=>False) O0 w w132 ([.own 52 (.sl si) (.slice A119 ((([z]:List (List Int))).length) c120) ([z]:List (List Int)),.own 3 si (.slice A108 y106.length c110) y106,.ro (.sl si) [.slice D z.length G] z,.obj l97 oB99,.obj D98 oK100,.box g3 22 [.slice f c.length d],.ro (.sl si) [.slice f c.length d] c,.box g82 77 [.slice A127 ((g++([z]:List (List Int))).length) c128],.own 52 (.sl si) (.slice A127 ((g++([z]:List (List Int))).length) c128) (g++([z]:List (List Int)))]++(marksF x++Tp)):=hC
 replace hC:=hC.selT [3,4,5,6,7,8] (by decide)
 replace hC:Cx (fun _=>False) O0 w w132 ([.obj l97 oB99,.obj D98 oK100,.box g3 22 [.slice f c.length d],.ro (.sl si) [.slice f c.length d] c,.box g82 77 [.slice A127 ((g++([z]:List (List Int))).length) c128],.own 52 (.sl si) (.slice A127 ((g++([z]:List (List Int))).length) c128) (g++([z]:List (List Int)))]++(marksF x++Tp)):=hC
 exact hKn _ _ _ _ rfl ⟨(g++([z]:List (List Int))),A127,(g++([z]:List (List Int))).length,c128,rfl,rfl⟩ hC.assoc'
 replace hb:=tf hq118 hb
 refine Wc.skip ?_
 obtain rfl:=os hb
 replace hC:Cx (fun _=>False) O0 w w117 ([.own 3 si (.slice A108 y106.length c110) y106,.own 3 si (.slice D z.length G) z,.obj l97 oB99,.obj D98 oK100,.box g3 22 [.slice f c.length d],.ro (.sl si) [.slice f c.length d] c,.box g82 77 [.slice o g.length p],.own 52 (.sl si) (.slice o g.length p) g]++(marksF x++Tp)):=hC
 replace hC:=hC.selT [2,3,4,5,6,7] (by decide)
 replace hC:Cx (fun _=>False) O0 w w117 ([.obj l97 oB99,.obj D98 oK100,.box g3 22 [.slice f c.length d],.ro (.sl si) [.slice f c.length d] c,.box g82 77 [.slice o g.length p],.own 52 (.sl si) (.slice o g.length p) g]++(marksF x++Tp)):=hC
 exact hKn _ _ _ _ rfl ⟨g,o,g.length,p,rfl,rfl⟩ hC.assoc'
 rintro s S L wv rfl ⟨g,o,C,p,rfl,rfl⟩ hC
 replace hC:Cx (fun _=>False) O0 w wv (.obj S (.deferred (some []))::([.box g87 3 [iv y]]++([.box g3 22 [.slice f c.length d],.ro (.sl si) [.slice f c.length d] c,.box g82 77 [.slice o C p],.own 52 (.sl si) (.slice o C p) g]++marksF x))):=hC
 replace hC:=hC.markF
 replace hC:Cx (fun _=>False) O0 w wv ([.box g87 3 [iv y],.box g3 22 [.slice f c.length d],.ro (.sl si) [.slice f c.length d] c,.box g82 77 [.slice o C p],.own 52 (.sl si) (.slice o C p) g]++marksF (S::x)):=hC
 obtain ⟨rfl,H,J⟩:=(hC.ow (i:=4) rfl).qaf
 replace hC:Cx (fun _=>False) O0 w wv ([.box g87 3 [iv y],.box g3 22 [.slice f c.length d],.ro (.sl si) [.slice f c.length d] c,.box g82 77 [.slice o g.length p],.own 52 (.sl si) (.slice o g.length p) g]++marksF (S::x)):=hC
 exact hK92 _ _ ⟨(S::x),g,o,g.length,p,e4,e5,rfl,(congrArg (List.cons _) hms),hC.selT [3,4] (by decide),hb⟩
 exact fun _ _ _ _ _ h=>by cases h
 exact fun _ _ _ _ _ _ _ _ h=>h.elim
 clear hb hC hl1
 rintro E134 w133 ⟨N,g,o,C,p,e4,e5,e9,hms,hC,hb⟩
 obtain ⟨rfl,H,J⟩:=(hC.ow (i:=1) rfl).qaf
 refine hK85 _ _<|Wc.seq fun _ hK135=>rg ?_
 replace hC:Cx (fun _=>False) O0 w w133 ([.box g82 77 [.slice o g.length p],.own 52 (.sl si) (.slice o g.length p) g]++marksF N):=hC
 refine lv (.slice o g.length p) (qah isAgg77 e9 ((hC.bx (i:=0) rfl).cell (j:=0) rfl))<|lp (.slice o g.length p) (qab rfl)<|lp (iv 0) (qab rfl)<|ln (hK135 _ _ ?_)
 obtain rfl:=os hb
 refine Wc.ret ?_
 replace hC:Cx (fun _=>False) O0 w w133 (marksF N++[.box g82 77 [.slice o g.length p],.own 52 (.sl si) (.slice o g.length p) g]):=hC.perm List.perm_append_comm
 refine hKR _ _ _ _ _ _ _ hms hC fun w136 hC=>?_
 refine ⟨_,res2 results76 (tV (.slice o g.length p) rfl) (tV (iv 0) rfl),_,rfl,o,g.length,p,rfl,(show I64 0 from by unfold I64; omega),hC.sE [1]⟩

theorem homs_byGreatest_ok (n:Nat) {w:World} {O0:List Nat} (hO: ∀k∈O0,k<w.heap.size) {g:Int} (Q:I64 g) {y:Option Addr} {G z:Nat} {u:List Int} (H:Rep O0 w (.sl si) [.slice y G z] u) {l:Option Addr} {J j:Nat} {f:List (List Int)} (K:Rep O0 w (.sl (.sl si)) [.slice l J j] f) {r:(List (List (List Int)))} (hb:F.qfr n g u f=some r):
    Calls prog 77 #[.agg #[iv g,.slice y G z,.slice l J j]] w fun e w'=> ∃v,e=.returned v∧∃(A0:Option Addr) (m0 c0:Nat),v=.slice A0 m0 c0∧Cx (fun _=>False) O0 w w' [.ro (.sl (.sl (.sl si))) [.slice A0 m0 c0] r]:=by
 unfold F.qfr at hb
 have hC:=Cx.start hO
 replace hC:=hC.arg rfl H
 replace hC:=hC.arg rfl K
 clear hO
 obtain ⟨rfl,L,M⟩:=H.qaf
 obtain ⟨rfl,N,P⟩:=K.qaf
 replace hC:=hC.noT
 refine qao func77 rfl (by rw [ntmps77]; exact nb rfl) fun KR hKR=>?_
 refine Wc.seq fun _ hK3=>rg ?_
 replace hC:Cx (fun _=>False) O0 w w ([.ro (.sl (.sl si)) [.slice l f.length j] f,.ro (.sl si) [.slice y u.length z] u]++([]:List Fact)):=hC
 refine lex.op (hC.box (cs:=[iv g,.slice y u.length z,.slice l f.length j]) rfl rfl) ?_
 rintro _ w5 ⟨g4,rfl,hC,hF,-⟩
 replace hC:Cx (fun _=>False) O0 w w5 ([.box g4 48 [iv g,.slice y u.length z,.slice l f.length j],.ro (.sl (.sl si)) [.slice l f.length j] f,.ro (.sl si) [.slice y u.length z] u]++([]:List Fact)):=hC
 refine lp (.slice none 0 0) (qab rfl)<|ln (hK3 _ _ ?_)
 refine Wc.seq fun _ hK7=>rg<|lp (.pointer (some ((⟨g4,0,none⟩:Addr).add 0))) (qal (sz:=1) underlying48 rfl sizeOf3 (by decide) rfl rfl)<|lv (iv g) (qar (hC.bx (i:=0) rfl) isAgg3 rfl rfl) ?_
 obtain ⟨u8,h9,hb⟩:=bd hb
 refine lex.op (hC.make (s:=.raw) (n:=g) underlying118 type37 rfl rfl rfl rfl rfl (qae h9).1 (qae h9).2 (by decide)) ?_
 rintro _ w14 ⟨A10,c11,rfl,hl12,hc13,hC,-,-⟩
 replace hC:Cx (fun _=>False) O0 w w14 ([.own 37 .raw (.slice A10 (((List.replicate g.toNat (Value.slice none 0 0))).length) c11) (List.replicate g.toNat (Value.slice none 0 0)),.box g4 48 [iv g,.slice y u.length z,.slice l f.length j],.ro (.sl (.sl si)) [.slice l f.length j] f,.ro (.sl si) [.slice y u.length z] u]++([]:List Fact)):=hC
 replace hC:=hC.nilRows 27 (.sl si) g.toNat
 replace hC:Cx (fun _=>False) O0 w w14 ([.own 37 .raw (.slice A10 (((List.replicate g.toNat (Value.slice none 0 0))).length) c11) (List.replicate g.toNat (Value.slice none 0 0)),.box g4 48 [iv g,.slice y u.length z,.slice l f.length j],.ro (.sl (.sl si)) [.slice l f.length j] f,.ro (.sl si) [.slice y u.length z] u]++(rowsF 27 (.sl si) (List.replicate g.toNat (Value.slice none 0 0)) (List.replicate g.toNat ([]:List (List Int)))++([]:List Fact))):=hC
 refine lp (.slice A10 (((List.replicate g.toNat (Value.slice none 0 0))).length) c11) (qab rfl)<|ln (hK7 _ _ ?_)
 refine Wc.seq fun _ hK16=>?_
 refine Wc.seq fun _ hK17=>rg<|lp (.pointer (some ((⟨g4,0,none⟩:Addr).add 2))) (qal (sz:=1) underlying48 rfl sizeOf37 (by decide) rfl rfl)<|lv (.slice l f.length j) (qar (hC.bx (i:=1) rfl) isAgg37 rfl rfl)<|lp (iv (f.length:Int)) (qan (A:=l) (n:=f.length) (m:=j) underlying37 rfl)<|lp (iv 0) (qaa rfl)<|ln (hK17 _ _ ?_)
 refine Wc.fresh fun E18 hE=>?_
 have e2:E18 2=.slice none 0 0:=cg hE 2 rfl
 have e3:E18 3=.slice A10 (((List.replicate g.toNat (Value.slice none 0 0))).length) c11:=cg hE 3 rfl
 have e13:E18 13=.slice l f.length j:=cg hE 13 rfl
 have e14:E18 14=iv (f.length:Int):=cg hE 14 rfl
 have e15:E18 15=iv 0:=cg hE 15 rfl
 clear hE
 obtain ⟨o19,hl0,hb⟩:=bd hb
 refine Wc.cut (fun E wv=> ∃(o:Int) (h:List (List (List Int))) (d:List Value),E 2=.slice none 0 0∧E 3=.slice A10 (((List.replicate g.toNat (Value.slice none 0 0))).length) c11∧I64 o∧d.length=h.length∧Cx (fun _=>False) O0 w wv ([.own 37 .raw (.slice A10 (((List.replicate g.toNat (Value.slice none 0 0))).length) c11) d]++(rowsF 27 (.sl si) d h++([]:List Fact)))∧(some h:Option ((List (List (List Int)))))=some r) (fun _ hK20=>?_) ?_
 refine Wc.block ?_
 refine Wc.loop (fun m E wv=> ∃(o:Int) (h:List (List (List Int))) (d:List Value),E 2=.slice none 0 0∧E 3=.slice A10 (((List.replicate g.toNat (Value.slice none 0 0))).length) c11∧E 13=.slice l f.length j∧E 14=iv (f.length:Int)∧E 15=iv o∧I64 o∧d.length=h.length∧Cx (fun _=>False) O0 w wv ([.own 37 .raw (.slice A10 (((List.replicate g.toNat (Value.slice none 0 0))).length) c11) d,.ro (.sl (.sl si)) [.slice l f.length j] f]++(rowsF 27 (.sl si) d h++([]:List Fact)))∧loopN m (F.qcc n f) (o,h)=some o19) n ⟨0,(List.replicate g.toNat ([]:List (List Int))),(List.replicate g.toNat (Value.slice none 0 0)),e2,e3,e13,e14,e15,(show I64 0 from by unfold I64; omega),(nilRows_len g.toNat (s:=(.sl si))),hC.selT [0,2] (by decide),hl0⟩ ?_
 have hbK0:=hb
 clear hb hC hl0
 rintro m22 E24 w23 ⟨o,h,d,e2,e3,e13,e14,e15,C,p,hC,hl0⟩ K21 hK21
 obtain ⟨m22',o25,rfl,hb,hl0⟩:=qam hl0
 unfold F.qcc at hb
 refine Wc.seq fun _ hK26=>rg ?_
 replace hC:Cx (fun _=>False) O0 w w23 ([.own 37 .raw (.slice A10 (((List.replicate g.toNat (Value.slice none 0 0))).length) c11) d,.ro (.sl (.sl si)) [.slice l f.length j] f]++(rowsF 27 (.sl si) d h++([]:List Fact))):=hC
 refine lp _ (qau e15 e14)<|ln (hK26 _ _ ?_)
 refine Wc.seq fun _ hK27=>?_
 refine Wc.cond (t:=(decide (o<(f.length:Int)))) (rfl) (fun hq28=>?_) (fun hq28=>?_)
 replace hb:=tt hq28 hb
 refine Wc.skip (hK27 _ _ ?_)
 refine Wc.seq fun _ hK29=>?_
 refine Wc.block<|Wc.seq fun _ hK30=>rg ?_
 obtain ⟨x31,h32,hb⟩:=bd hb
 obtain ⟨ad33,cs34,hA,hc35,hr36⟩:=hC.elr (i:=1) rfl (qac h32).2
 subst hA
 refine lp (.pointer (some (ad33.add (o.toNat*1)))) (qag (a:=o) underlying37 sizeOf27 e13 e15 (qac h32).1) ?_
 replace hC:Cx (fun _=>False) O0 w w23 ([.own 37 .raw (.slice A10 (((List.replicate g.toNat (Value.slice none 0 0))).length) c11) d,.ro (.sl (.sl si)) [.slice (some ad33) f.length j] f]++(rowsF 27 (.sl si) d h++([]:List Fact))):=hC
 have hR:=hr36
 obtain ⟨A37,c38,rfl,hl39,hc40,_⟩:=hr36
 replace hC:=hC.ro hR
 clear hR
 refine lv (.slice A37 x31.length c38) (qah isAgg27 rfl (hc35 0 _ rfl)) ?_
 replace hC:Cx (fun _=>False) O0 w w23 ([.ro (.sl si) [.slice A37 x31.length c38] x31,.own 37 .raw (.slice A10 (((List.replicate g.toNat (Value.slice none 0 0))).length) c11) d,.ro (.sl (.sl si)) [.slice (some ad33) f.length j] f]++(rowsF 27 (.sl si) d h++([]:List Fact))):=hC
 refine lp (.slice A37 x31.length c38) (qab rfl)<|ln (hK30 _ _ ?_)
 refine Wc.seq fun _ hK42=>rg<|lp (iv 0) (qab rfl)<|ln (hK42 _ _ ?_)
 refine Wc.seq fun _ hK43=>?_
 refine Wc.seq fun _ hK44=>rg<|lp (.slice A37 x31.length c38) (qaa rfl)<|lp (iv (x31.length:Int)) (qan (A:=A37) (n:=x31.length) (m:=c38) underlying27 rfl)<|lp (iv 0) (qaa rfl)<|ln (hK44 _ _ ?_)
 obtain ⟨o45,hl1,hb⟩:=bd hb
 refine Wc.cut (fun E wv=> ∃(q:Int) (x:Int),E 2=.slice none 0 0∧E 3=.slice A10 (((List.replicate g.toNat (Value.slice none 0 0))).length) c11∧E 5=.slice A37 x31.length c38∧E 6=iv q∧E 13=.slice (some ad33) f.length j∧E 14=iv (f.length:Int)∧E 15=iv o∧E 16=.bool (decide (o<(f.length:Int)))∧E 19=.slice A37 x31.length c38∧E 20=iv (x31.length:Int)∧E 21=iv x∧I64 q∧I64 x∧Cx (fun _=>False) O0 w wv ([.own 37 .raw (.slice A10 (((List.replicate g.toNat (Value.slice none 0 0))).length) c11) d,.ro (.sl si) [.slice A37 x31.length c38] x31,.ro (.sl (.sl si)) [.slice (some ad33) f.length j] f]++(rowsF 27 (.sl si) d h++([]:List Fact)))∧(cond (decide (0<q)) ((chk (q-1)).bind fun z71=>(get h z71).bind fun x73=>(lim (x73.length+([x31]:List (List Int)).length)).bind fun u93=>(get h z71).bind fun x100=>(chk (o+1)).bind fun z110=>some (.inl (z110,(h.set z71.toNat (x73++([x31]:List (List Int))))))) ((chk (o+1)).bind fun z112=>some (.inl (z112,h))):Option ((Int×(List (List (List Int))))⊕((Int×(List (List (List Int)))))))=some o25) (fun _ hK46=>?_) ?_
 refine Wc.block ?_
 refine Wc.loop (fun m E wv=> ∃(q:Int) (x:Int),E 2=.slice none 0 0∧E 3=.slice A10 (((List.replicate g.toNat (Value.slice none 0 0))).length) c11∧E 5=.slice A37 x31.length c38∧E 6=iv q∧E 13=.slice (some ad33) f.length j∧E 14=iv (f.length:Int)∧E 15=iv o∧E 16=.bool (decide (o<(f.length:Int)))∧E 19=.slice A37 x31.length c38∧E 20=iv (x31.length:Int)∧E 21=iv x∧I64 q∧I64 x∧Cx (fun _=>False) O0 w wv ([.own 37 .raw (.slice A10 (((List.replicate g.toNat (Value.slice none 0 0))).length) c11) d,.ro (.sl si) [.slice A37 x31.length c38] x31,.ro (.sl (.sl si)) [.slice (some ad33) f.length j] f]++(rowsF 27 (.sl si) d h++([]:List Fact)))∧loopN m (F.qcj n x31) (q,x)=some o45) n ⟨0,0,e2,e3,rfl,rfl,e13,e14,e15,rfl,rfl,rfl,rfl,(show I64 0 from by unfold I64; omega),(show I64 0 from by unfold I64; omega),hC.selT [1,0,2] (by decide),hl1⟩ ?_
 have hbK1:=hb
 clear hb hC hl1
 rintro m48 E50 w49 ⟨q,x,e2,e3,e5,e6,e13,e14,e15,e16,e19,e20,e21,B,D,hC,hl1⟩ K47 hK47
 obtain ⟨m48',o51,rfl,hb,hl1⟩:=qam hl1
 unfold F.qcj at hb
 refine Wc.seq fun _ hK52=>rg ?_
 replace hC:Cx (fun _=>False) O0 w w49 ([.own 37 .raw (.slice A10 (((List.replicate g.toNat (Value.slice none 0 0))).length) c11) d,.ro (.sl si) [.slice A37 x31.length c38] x31,.ro (.sl (.sl si)) [.slice (some ad33) f.length j] f]++(rowsF 27 (.sl si) d h++([]:List Fact))):=hC
 refine lp _ (qau e21 e20)<|ln (hK52 _ _ ?_)
 refine Wc.seq fun _ hK53=>?_
 refine Wc.cond (t:=(decide (x<(x31.length:Int)))) (rfl) (fun hq54=>?_) (fun hq54=>?_)
 replace hb:=tt hq54 hb
 refine Wc.skip (hK53 _ _ ?_)
 refine Wc.seq fun _ hK55=>?_
 refine Wc.block<|Wc.seq fun _ hK56=>rg ?_
 obtain ⟨x57,h58,hb⟩:=bd hb
 obtain ⟨ad59,cs60,hA,hc61,hr62⟩:=hC.elr (i:=1) rfl (qac h58).2
 subst hA
 refine lp (.pointer (some (ad59.add (x.toNat*1)))) (qag (a:=x) underlying27 sizeOf3 e19 e21 (qac h58).1) ?_
 replace hC:Cx (fun _=>False) O0 w w49 ([.own 37 .raw (.slice A10 (((List.replicate g.toNat (Value.slice none 0 0))).length) c11) d,.ro (.sl si) [.slice (some ad59) x31.length c38] x31,.ro (.sl (.sl si)) [.slice (some ad33) f.length j] f]++(rowsF 27 (.sl si) d h++([]:List Fact))):=hC
 obtain ⟨rfl,hr62'⟩:=hr62
 refine lv (iv x57) (qah isAgg3 rfl (hc61 0 _ rfl))<|lp (iv x57) (qab rfl)<|ln (hK56 _ _ ?_)
 refine rg<|lp _ (qaa e6)<|lp (iv x57) (qaa rfl)<|lp (iv x57) (qaa rfl) ?_
 obtain ⟨z63,h64,hb⟩:=bd hb
 refine lp (iv z63) (qbx (a:=x57) rfl h64)<|lp (iv (max (max q x57) z63)) (pu_max3 (a:=q) (b:=x57) (c:=z63) rfl rfl rfl)<|lp (iv (max (max q x57) z63)) (qab rfl)<|ln (hK55 _ _ ?_)
 refine rg ?_
 obtain ⟨z65,h66,hb⟩:=bd hb
 refine lp (iv z65) (qak (a:=x) (b:=1) e21 rfl h66)<|lp (iv z65) (qaa rfl)<|ln ?_
 obtain rfl:=os hb
 exact hK47 m48' _ _ (Nat.lt_succ_self _) ⟨(max (max q x57) z63),z65,e2,e3,e5,rfl,e13,e14,e15,e16,e19,e20,rfl,(I64.max (I64.max B (qbl hr62')) (qai h64)),(qai h66),hC.selT [0,1,2] (by decide),lN hl1⟩
 replace hb:=tf hq54 hb
 refine Wc.exit rfl ?_
 obtain rfl:=os hb
 obtain rfl:=(lX hl1).symm
 exact hK46 _ _ ⟨q,x,e2,e3,e5,e6,e13,e14,e15,e16,e19,e20,e21,B,D,hC.selT [0,1,2] (by decide),hbK1⟩
 clear hb hC hl1
 rintro E68 w67 ⟨q,x,e2,e3,e5,e6,e13,e14,e15,e16,e19,e20,e21,B,D,hC,hb⟩
 refine hK43 _ _<|Wc.seq fun _ hK69=>rg ?_
 replace hC:Cx (fun _=>False) O0 w w67 ([.own 37 .raw (.slice A10 (((List.replicate g.toNat (Value.slice none 0 0))).length) c11) d,.ro (.sl si) [.slice A37 x31.length c38] x31,.ro (.sl (.sl si)) [.slice (some ad33) f.length j] f]++(rowsF 27 (.sl si) d h++([]:List Fact))):=hC
 refine lp _ (qaa e6)<|lp (.bool (decide (0<q))) (qbi (k:=.i64) (a:=q) (b:=0) rfl rfl)<|ln (hK69 _ _ ?_)
 refine Wc.cond (t:=(decide (0<q))) (rfl) (fun hq70=>?_) (fun hq70=>?_)
 replace hb:=tt hq70 hb
 refine rg<|lp _ (qaa e3)<|lp _ (qaa e6) ?_
 obtain ⟨z71,h72,hb⟩:=bd hb
 refine lp (iv z71) (qbu (a:=q) (b:=1) rfl rfl h72)<|lp _ (qaa e3)<|lp _ (qaa e6)<|lp (iv z71) (qbu (a:=q) (b:=1) rfl rfl h72) ?_
 obtain ⟨x73,h74,hb⟩:=bd hb
 obtain ⟨v79,hv80,-⟩:=rowsF_get (e:=27) (s:=(.sl si)) p (qac h74).2
 obtain ⟨ad75,cs76,hA,hc77,hr78⟩:=hC.elo (i:=0) rfl hv80
 subst hA
 refine lp (.pointer (some (ad75.add (z71.toNat*1)))) (qag (a:=z71) underlying118 sizeOf37 rfl rfl (by rw [(hC.ow (i:=0) rfl).qaf.1,p]; exact (qac h74).1)) ?_
 replace hC:Cx (fun _=>False) O0 w w67 ([.own 37 .raw (.slice (some ad75) (((List.replicate g.toNat (Value.slice none 0 0))).length) c11) d,.ro (.sl si) [.slice A37 x31.length c38] x31,.ro (.sl (.sl si)) [.slice (some ad33) f.length j] f]++(rowsF 27 (.sl si) d h++([]:List Fact))):=hC
 replace hC:=Cx.takeRow hC hv80 (qac h74).2
 obtain ⟨A81,c82,hvf85,hl83,hc84⟩:=(hC.ow (i:=0) rfl).form
 subst hvf85
 obtain ⟨rfl,-⟩:=hr78
 replace hC:Cx (fun _=>False) O0 w w67 ([.own 27 (.sl si) (.slice A81 x73.length c82) x73,.own 37 .raw (.slice (some ad75) (((List.replicate g.toNat (Value.slice none 0 0))).length) c11) d,.ro (.sl si) [.slice A37 x31.length c38] x31,.ro (.sl (.sl si)) [.slice (some ad33) f.length j] f]++((rowsF 27 (.sl si) d h).eraseIdx z71.toNat++([]:List Fact))):=hC
 refine lv (.slice A81 x73.length c82) (qah isAgg37 rfl (hc77 0 _ rfl))<|lp _ (qaa e5)<|lex.op (hC.lit (s:=(.sl si)) (vs:=[.slice A37 x31.length c38]) (xs:=[x31]) underlying37 type27 rfl rfl (nb rfl) rfl rfl (by simp [Value.cells,Sh.n]) rfl (show Elems _ _ (.sl si) ([.slice A37 x31.length c38]++([])) ([x31]:List (List Int)) from Elems.cons (hC.rd (i:=2) rfl) (Elems.nil _ _ _))) ?_
 rintro _ w91 ⟨A87,c88,rfl,hl89,hc90,hC,-,-⟩
 replace hC:Cx (fun _=>False) O0 w w91 ([.own 27 (.sl si) (.slice A87 ((([x31]:List (List Int))).length) c88) ([x31]:List (List Int)),.own 27 (.sl si) (.slice A81 x73.length c82) x73,.own 37 .raw (.slice (some ad75) (((List.replicate g.toNat (Value.slice none 0 0))).length) c11) d,.ro (.sl si) [.slice A37 x31.length c38] x31,.ro (.sl (.sl si)) [.slice (some ad33) f.length j] f]++((rowsF 27 (.sl si) d h).eraseIdx z71.toNat++([]:List Fact))):=hC
 obtain ⟨u93,h94,hb⟩:=bd hb
 refine lex.op (hC.app (i:=1) (s:=(.sl si)) (xs:=x73) (ys:=([x31]:List (List Int))) (m:=((([x31]:List (List Int))).length)) rfl underlying37 underlying37 type27 rfl rfl rfl (hC.srco (i:=0) rfl) rfl rfl (by have:=qbn h94; simp at this⊢ <;>omega) (by decide)) ?_
 rintro _ w99 ⟨A95,c96,rfl,hl97,hc98,hC,-,-⟩
 replace hC:Cx (fun _=>False) O0 w w99 ([.own 27 (.sl si) (.slice A87 ((([x31]:List (List Int))).length) c88) ([x31]:List (List Int)),.own 27 (.sl si) (.slice A95 ((x73++([x31]:List (List Int))).length) c96) (x73++([x31]:List (List Int))),.own 37 .raw (.slice (some ad75) (((List.replicate g.toNat (Value.slice none 0 0))).length) c11) d,.ro (.sl si) [.slice A37 x31.length c38] x31,.ro (.sl (.sl si)) [.slice (some ad33) f.length j] f]++((rowsF 27 (.sl si) d h).eraseIdx z71.toNat++([]:List Fact))):=hC
 obtain ⟨x100,h101,hb⟩:=bd hb
 obtain ⟨v106,hv107,-⟩:=rowsF_get (e:=27) (s:=(.sl si)) p (qac h101).2
 obtain ⟨ad102,cs103,hA,hc104,hr105⟩:=hC.elo (i:=2) rfl hv107
 obtain rfl:=Option.some.inj hA
 refine lp (.pointer (some (ad75.add (z71.toNat*1)))) (qag (a:=z71) underlying118 sizeOf37 rfl rfl (by rw [(hC.ow (i:=2) rfl).qaf.1,p]; exact (qac h101).1))<|lex.sk (hC.put (i:=2) (s:=.raw) rfl rfl sizeOf37 (k:=z71.toNat) (a:=Value.slice A95 ((x73++([x31]:List (List Int))).length) c96) (by rw [p]; exact (List.getElem?_eq_some_iff.1 (qac h101).2).1) (show Rep _ _ .raw [Value.slice A95 ((x73++([x31]:List (List Int))).length) c96] (Value.slice A95 ((x73++([x31]:List (List Int))).length) c96) from ⟨rfl,rfl⟩) rfl rfl rfl) ?_
 rintro w108 ⟨hC,-⟩
 replace hC:Cx (fun _=>False) O0 w w108 ([.own 27 (.sl si) (.slice A87 ((([x31]:List (List Int))).length) c88) ([x31]:List (List Int)),.own 27 (.sl si) (.slice A95 ((x73++([x31]:List (List Int))).length) c96) (x73++([x31]:List (List Int))),.own 37 .raw (.slice (some ad75) (((List.replicate g.toNat (Value.slice none 0 0))).length) c11) (d.set z71.toNat (Value.slice A95 ((x73++([x31]:List (List Int))).length) c96)),.ro (.sl si) [.slice A37 x31.length c38] x31,.ro (.sl (.sl si)) [.slice (some ad33) f.length j] f]++((rowsF 27 (.sl si) d h).eraseIdx z71.toNat++([]:List Fact))):=hC
 replace hC:=hC.selT [1,0,2,3,4] (by decide)
 replace hC:=Cx.putRow hC p (List.getElem?_eq_some_iff.1 (qac h101).2).1
 have hN109:(d.set z71.toNat (Value.slice A95 ((x73++([x31]:List (List Int))).length) c96)).length=(h.set z71.toNat (x73++([x31]:List (List Int)))).length:=lenset p _ _ _ _
 replace hC:Cx (fun _=>False) O0 w w108 ([.own 27 (.sl si) (.slice A87 ((([x31]:List (List Int))).length) c88) ([x31]:List (List Int)),.own 37 .raw (.slice (some ad75) (((List.replicate g.toNat (Value.slice none 0 0))).length) c11) (d.set z71.toNat (Value.slice A95 ((x73++([x31]:List (List Int))).length) c96)),.ro (.sl si) [.slice A37 x31.length c38] x31,.ro (.sl (.sl si)) [.slice (some ad33) f.length j] f]++(rowsF 27 (.sl si) (d.set z71.toNat (Value.slice A95 ((x73++([x31]:List (List Int))).length) c96)) (h.set z71.toNat (x73++([x31]:List (List Int))))++([]:List Fact))):=hC
 refine ln (hK29 _ _ ?_)
 refine rg ?_
 obtain ⟨z110,h111,hb⟩:=bd hb
 refine lp (iv z110) (qak (a:=o) (b:=1) e15 rfl h111)<|lp (iv z110) (qaa rfl)<|ln ?_
 obtain rfl:=os hb
 exact hK21 m22' _ _ (Nat.lt_succ_self _) ⟨z110,(h.set z71.toNat (x73++([x31]:List (List Int)))),(d.set z71.toNat (Value.slice A95 ((x73++([x31]:List (List Int))).length) c96)),e2,e3,e13,e14,rfl,(qai h111),hN109,hC.selT [1,3] (by decide),lN hl0⟩
 replace hb:=tf hq70 hb
 refine Wc.skip (hK29 _ _ ?_)
 refine rg ?_
 obtain ⟨z112,h113,hb⟩:=bd hb
 refine lp (iv z112) (qak (a:=o) (b:=1) e15 rfl h113)<|lp (iv z112) (qaa rfl)<|ln ?_
 obtain rfl:=os hb
 exact hK21 m22' _ _ (Nat.lt_succ_self _) ⟨z112,h,d,e2,e3,e13,e14,rfl,(qai h113),p,hC.selT [0,2] (by decide),lN hl0⟩
 replace hb:=tf hq28 hb
 refine Wc.exit rfl ?_
 obtain rfl:=os hb
 obtain rfl:=(lX hl0).symm
 exact hK20 _ _ ⟨o,h,d,e2,e3,C,p,hC.selT [0] (by decide),hbK0⟩
 clear hb hC hl0
 rintro E115 w114 ⟨o,h,d,e2,e3,C,p,hC,hb⟩
 refine hK16 _ _<|Wc.seq fun _ hK116=>rg ?_
 replace hC:Cx (fun _=>False) O0 w w114 ([.own 37 .raw (.slice A10 (((List.replicate g.toNat (Value.slice none 0 0))).length) c11) d]++(rowsF 27 (.sl si) d h++([]:List Fact))):=hC
 refine lp _ (qaa e3)<|lp (.slice A10 (((List.replicate g.toNat (Value.slice none 0 0))).length) c11) (qab rfl)<|ln (hK116 _ _ ?_)
 replace hC:=hC.selT [0] (by decide)
 replace hC:=Cx.freezeR hC p
 replace hC:Cx (fun _=>False) O0 w w114 ([.ro (.sl (.sl (.sl si))) [.slice A10 (((List.replicate g.toNat (Value.slice none 0 0))).length) c11] h]++([]:List Fact)):=hC
 obtain rfl:=os hb
 refine Wc.ret (hKR _ _ ?_)
 refine ⟨_,res1 results77 (tV (.slice A10 (((List.replicate g.toNat (Value.slice none 0 0))).length) c11) rfl),_,rfl,A10,((List.replicate g.toNat (Value.slice none 0 0))).length,c11,rfl,hC.sE [0]⟩
