import Derived.Test.YtpnppjlnfhlmpaaS
import Derived.Test.YtpnppjlnfhlmpaaG9
set_option linter.all false
namespace Go.Proofs.Ytpnppjlnfhlmpaa
open Ev Try
set_option maxRecDepth 100000
set_option maxHeartbeats 4000000
theorem qho (n:Nat) {w:World} {O0:List Nat} (hO: ∀k∈O0,k<w.heap.size) {o:Bool} {j:Option Addr} {D l:Nat} {c:List (Int×(Int×Int))} (G:Rep O0 w (.sl (.pr si (.pr si si))) [.slice j D l] c) {y:Int} (H:I64 y) {x:Int} (J:I64 x) {r:Bool×(List (Int×(Int×Int)))} (hb:F.qdb n o c y x=some r):
    Calls prog 21 #[.agg #[.bool o,.slice j D l],iv y,iv x] w fun e w'=> ∃v,e=.returned v∧∃(A1:Option Addr) (m1 c1:Nat),v=.agg #[.bool r.1,.slice A1 m1 c1]∧Cx (fun _=>False) O0 w w' [.ro (.sl (.pr si (.pr si si))) [.slice A1 m1 c1] r.2]:=by
 unfold F.qdb at hb
 have hC:=Cx.start hO
 replace hC:=hC.arg rfl G
 clear hO
 obtain ⟨rfl,K,L⟩:=G.qae
 refine qao func21 rfl (by rw [ntmps21]; exact nb rfl) fun KR hKR=>?_
 refine Wc.seq fun _ hK2=>rg<|lex.op (hC.box (cs:=[.bool o,.slice j c.length l]) rfl rfl) ?_
 rintro _ w4 ⟨g3,rfl,hC,hF,-⟩
 refine lex.op (hC.alloc (cs:=[.bool false,.slice none 0 0]) zeroValue37 rfl) ?_
 rintro _ w7 ⟨g6,rfl,hC,hF,-⟩
 refine ln (hK2 _ _ ?_)
 refine Wc.seq fun _ hK9=>?_
 refine Wc.seq fun _ hK10=>rg<|lp (.pointer (some ((⟨g3,0,none⟩:Addr).add 0))) (qaf (sz:=1) underlying37 rfl sizeOf4 (by decide) rfl rfl)<|lv (.bool o) (qal (hC.bx (i:=1) rfl) isAgg4 rfl rfl)<|lp (.bool o) (qaa rfl) ?_
 rcases bS o with hq11 | hq11
 replace hb:=tt hq11 hb
 refine gs rfl rfl o rfl hq11<|gs rfl rfl o rfl hq11<|gs rfl rfl o rfl hq11<|gs rfl rfl o rfl hq11<|lp (.bool true) (qap (q:=o) rfl hq11 rfl)<|ln (hK10 _ _ ?_)
 refine Wc.cond_true (rfl) ?_
 refine Wc.seq fun _ hK12=>rg<|lv (.agg #[.bool o,.slice j c.length l]) (qaq (hC.bx (i:=1) rfl) isAgg37 sizeOf37 rfl)<|lex.sk (hC.seta (i:=0) (ds:=[.bool o,.slice j c.length l]) rfl type37 rfl rfl rfl rfl rfl) ?_
 rintro w13 ⟨hC,hF⟩
 refine ln (hK12 _ _ ?_)
 obtain rfl:=os hb
 refine Wc.ret (hKR _ _ ?_)
 refine ⟨_,res1 results21 ⟨_,rfl,qai (hC.bx (i:=0) rfl) isAgg37 sizeOf37⟩,_,rfl,j,c.length,l,rfl,hC.sE [2]⟩
 replace hb:=tf hq11 hb
 refine gp rfl rfl o rfl hq11 (.pointer (some ((⟨g3,0,none⟩:Addr).add 1))) (qaf (sz:=1) underlying37 rfl sizeOf35 (by decide) rfl rfl)<|gv rfl rfl o rfl hq11 (.slice j c.length l) (qal (hC.bx (i:=1) rfl) isAgg35 rfl rfl)<|gp rfl rfl o rfl hq11 (iv (c.length:Int)) (qay (A:=j) (n:=c.length) (m:=l) underlying35 rfl)<|gp rfl rfl o rfl hq11 (.bool (decide ((c.length:Int)=0))) (qbl (k:=.i64) (a:=(c.length:Int)) (b:=0) rfl rfl)<|lp (.bool (decide ((c.length:Int)=0))) (qak (q:=o) rfl hq11 rfl)<|ln (hK10 _ _ ?_)
 refine Wc.fresh fun E14 hE=>?_
 have e1:E14 1=iv y:=cg hE 1 rfl
 have e2:E14 2=iv x:=cg hE 2 rfl
 have e3:E14 3=pg g3:=cg hE 3 rfl
 have e6:E14 6=pg g6:=cg hE 6 rfl
 have e17:E14 17=.bool (decide ((c.length:Int)=0)):=cg hE 17 rfl
 clear hE
 refine Wc.cond (t:=(decide ((c.length:Int)=0))) (e17) (fun hq15=>?_) (fun hq15=>?_)
 replace hb:=tt hq15 hb
 refine Wc.seq fun _ hK16=>rg<|lv (.agg #[.bool o,.slice j c.length l]) (qaq (hC.bx (i:=1) rfl) isAgg37 sizeOf37 e3)<|lex.sk (hC.seta (i:=0) (ds:=[.bool o,.slice j c.length l]) rfl type37 rfl rfl rfl e6 rfl) ?_
 rintro w17 ⟨hC,hF⟩
 refine ln (hK16 _ _ ?_)
 obtain rfl:=os hb
 refine Wc.ret (hKR _ _ ?_)
 refine ⟨_,res1 results21 ⟨_,e6,qai (hC.bx (i:=0) rfl) isAgg37 sizeOf37⟩,_,rfl,j,c.length,l,rfl,hC.sE [2]⟩
 replace hb:=tf hq15 hb
 refine Wc.skip (hK9 _ _ ?_)
 refine Wc.seq fun _ hK18=>?_
 refine Wc.seq fun _ hK19=>rg<|lp _ (qaa e1) ?_
 obtain ⟨y20,h21,hb⟩:=bd hb
 refine lex.cl (⟨_,_,qam (vs:=[iv y,iv 2097152]) call39 rfl rfl rfl,qby n hC.lt H (show I64 2097152 from by unfold I64; omega) h21⟩) ?_
 rintro _ w22 ⟨rfl,hK⟩
 replace hC:=hC.merge hK
 clear hK
 refine lp (.bool (!y20)) (qbt (q:=y20) rfl)<|lp (.bool (!y20)) (qaa rfl) ?_
 rcases bS (!y20) with hq23 | hq23
 replace hb:=tt hq23 hb
 refine gs rfl rfl (!y20) rfl hq23<|gs rfl rfl (!y20) rfl hq23<|gs rfl rfl (!y20) rfl hq23<|lp (.bool true) (qap (q:=(!y20)) rfl hq23 rfl)<|ln (hK19 _ _ ?_)
 refine Wc.cond_true (rfl) ?_
 refine Wc.seq fun _ hK24=>rg<|lp (.agg #[.bool true,.slice none 0 0]) (qat (places:=[(0,1),(1,1)]) (pv:=[(0,.bool true)]) type37 underlying37 rfl (qag type4 (qag type35 qbb rfl rfl) rfl rfl) rfl (by simp [Instr.fill,Value.cells]))<|lex.sk (hC.seta (i:=0) (ds:=[.bool true,.slice none 0 0]) rfl type37 rfl rfl rfl e6 rfl) ?_
 rintro w25 ⟨hC,hF⟩
 refine ln (hK24 _ _ ?_)
 replace hC:=hC.ro (show Rep _ _ (.sl (.pr si (.pr si si))) [.slice none 0 0] [] from ⟨none,0,rfl,Nat.le_refl _,by omega,fun h=>absurd h (by simp)⟩)
 obtain rfl:=os hb
 refine Wc.ret (hKR _ _ ?_)
 refine ⟨_,res1 results21 ⟨_,e6,qai (hC.bx (i:=1) rfl) isAgg37 sizeOf37⟩,_,rfl,none,0,0,rfl,hC.sE [0]⟩
 replace hb:=tf hq23 hb
 refine gp rfl rfl (!y20) rfl hq23 (iv x) (qaa e2) ?_
 obtain ⟨y27,h28,hb⟩:=bd hb
 refine lex.gcl (qdp rfl rfl (show _=Value.bool (!y20) from rfl) hq23) (⟨_,_,qam (vs:=[iv x,iv 2097152]) call39 rfl rfl rfl,qby n hC.lt J (show I64 2097152 from by unfold I64; omega) h28⟩) ?_
 rintro _ w29 ⟨rfl,hK⟩
 replace hC:=hC.merge hK
 clear hK
 refine gp rfl rfl (!y20) rfl hq23 (.bool (!y27)) (qbt (q:=y27) rfl)<|lp (.bool (!y27)) (qak (q:=(!y20)) rfl hq23 rfl)<|ln (hK19 _ _ ?_)
 refine Wc.cond (t:=(!y27)) (rfl) (fun hq30=>?_) (fun hq30=>?_)
 replace hb:=tt hq30 hb
 refine Wc.seq fun _ hK31=>rg<|lp (.agg #[.bool true,.slice none 0 0]) (qat (places:=[(0,1),(1,1)]) (pv:=[(0,.bool true)]) type37 underlying37 rfl (qag type4 (qag type35 qbb rfl rfl) rfl rfl) rfl (by simp [Instr.fill,Value.cells]))<|lex.sk (hC.seta (i:=0) (ds:=[.bool true,.slice none 0 0]) rfl type37 rfl rfl rfl e6 rfl) ?_
 rintro w32 ⟨hC,hF⟩
 refine ln (hK31 _ _ ?_)
 replace hC:=hC.ro (show Rep _ _ (.sl (.pr si (.pr si si))) [.slice none 0 0] [] from ⟨none,0,rfl,Nat.le_refl _,by omega,fun h=>absurd h (by simp)⟩)
 obtain rfl:=os hb
 refine Wc.ret (hKR _ _ ?_)
 refine ⟨_,res1 results21 ⟨_,e6,qai (hC.bx (i:=1) rfl) isAgg37 sizeOf37⟩,_,rfl,none,0,0,rfl,hC.sE [0]⟩
 replace hb:=tf hq30 hb
 refine Wc.skip (hK18 _ _ ?_)
 refine Wc.seq fun _ hK34=>rg<|lp (.pointer (some ((⟨g3,0,none⟩:Addr).add 1))) (qaf (sz:=1) underlying37 rfl sizeOf35 (by decide) rfl e3)<|lv (.slice j c.length l) (qal (hC.bx (i:=1) rfl) isAgg35 rfl rfl)<|lp (iv (c.length:Int)) (qay (A:=j) (n:=c.length) (m:=l) underlying35 rfl) ?_
 obtain ⟨u35,h36,hb⟩:=bd hb
 refine lex.op (hC.make0 (s:=(.pr si (.pr si si))) (n:=(c.length:Int)) underlying35 type66 rfl rfl rfl rfl (qaj h36).1 (qaj h36).2 (by decide)) ?_
 rintro _ w41 ⟨A37,c38,rfl,hl39,hc40,hC,-,-⟩
 refine lp (.agg #[.bool false,.slice A37 ((([]:List (Int×(Int×Int)))).length) c38]) (qat (places:=[(0,1),(1,1)]) (pv:=[(1,.slice A37 ((([]:List (Int×(Int×Int)))).length) c38)]) type37 underlying37 rfl (qag type4 (qag type35 qbb rfl rfl) rfl rfl) rfl (by simp [Instr.fill,Value.cells]))<|lex.op (hC.alloc (cs:=[.bool false,.slice none 0 0]) zeroValue37 rfl) ?_
 rintro _ w44 ⟨g43,rfl,hC,hF,-⟩
 refine lex.sk (hC.seta (i:=0) (ds:=[.bool false,.slice A37 ((([]:List (Int×(Int×Int)))).length) c38]) rfl type37 rfl rfl rfl rfl rfl) ?_
 rintro w46 ⟨hC,hF⟩
 refine ln (hK34 _ _ ?_)
 refine Wc.fresh fun E47 hE=>?_
 have e1:=cg hE 1 e1
 have e2:=cg hE 2 e2
 have e3:=cg hE 3 e3
 have e6:=cg hE 6 e6
 have e7:E47 7=pg g43:=cg hE 7 rfl
 clear hE
 refine Wc.seq fun _ hK48=>?_
 refine Wc.seq fun _ hK49=>rg<|lp (.pointer (some ((⟨g3,0,none⟩:Addr).add 1))) (qaf (sz:=1) underlying37 rfl sizeOf35 (by decide) rfl e3)<|lv (.slice j c.length l) (qal (hC.bx (i:=3) rfl) isAgg35 rfl rfl)<|lp (iv (c.length:Int)) (qay (A:=j) (n:=c.length) (m:=l) underlying35 rfl)<|lp (iv 0) (qaa rfl)<|ln (hK49 _ _ ?_)
 obtain ⟨o50,hl0,hb⟩:=bd hb
 refine Wc.cut (fun E wv=> ∃(p:Int) (d:List (Int×(Int×Int))) (f:Option Addr) (u g:Nat),E 6=pg g6∧E 7=pg g43∧I64 p∧Cx (fun _=>False) O0 w wv [.box g6 37 [.bool false,.slice none 0 0],.box g43 37 [.bool false,.slice f u g],.own 66 (.pr si (.pr si si)) (.slice f u g) d]∧(some (false,d):Option (Bool×(List (Int×(Int×Int)))))=some r) (fun _ hK51=>?_) ?_
 refine Wc.block ?_
 refine Wc.loop (fun m E wv=> ∃(p:Int) (d:List (Int×(Int×Int))) (f:Option Addr) (u g:Nat),E 1=iv y∧E 2=iv x∧E 6=pg g6∧E 7=pg g43∧E 34=.slice j c.length l∧E 35=iv (c.length:Int)∧E 36=iv p∧I64 p∧Cx (fun _=>False) O0 w wv [.box g6 37 [.bool false,.slice none 0 0],.box g43 37 [.bool false,.slice f u g],.own 66 (.pr si (.pr si si)) (.slice f u g) d,.ro (.sl (.pr si (.pr si si))) [.slice j c.length l] c]∧loopN m (F.qcz n c y x) (p,d)=some o50) n ⟨0,([]:List (Int×(Int×Int))),A37,(([]:List (Int×(Int×Int)))).length,c38,e1,e2,e6,e7,rfl,rfl,rfl,(show I64 0 from by unfold I64; omega),hC.sE [2,0,1,4],hl0⟩ ?_
 have hbK0:=hb
 clear hb hC hl0
 rintro m53 E55 w54 ⟨p,d,f,u,g,e1,e2,e6,e7,e34,e35,e36,z,hC,hl0⟩ K52 hK52
 obtain ⟨m53',o56,rfl,hb,hl0⟩:=qax hl0
 unfold F.qcz at hb
 obtain ⟨rfl,B,C⟩:=(hC.ow (i:=2) rfl).qae
 refine Wc.seq fun _ hK57=>rg<|lp _ (qbj e36 e35)<|ln (hK57 _ _ ?_)
 refine Wc.seq fun _ hK58=>?_
 refine Wc.cond (t:=(decide (p<(c.length:Int)))) (rfl) (fun hq59=>?_) (fun hq59=>?_)
 replace hb:=tt hq59 hb
 refine Wc.skip (hK58 _ _ ?_)
 refine Wc.seq fun _ hK60=>?_
 refine Wc.block<|Wc.seq fun _ hK61=>rg ?_
 obtain ⟨x62,h63,hb⟩:=bd hb
 obtain ⟨ad64,cs65,hA,hc66,hr67⟩:=hC.elr (i:=3) rfl (qad h63).2
 subst hA
 refine lp (.pointer (some (ad64.add (p.toNat*3)))) (qar (a:=p) underlying35 sizeOf66 e34 e36 (qad h63).1) ?_
 obtain ⟨k68,k69,rfl,hr70,hr71⟩:=hr67
 obtain ⟨rfl,hr70⟩:=hr70
 obtain ⟨k72,k73,rfl,hr74,hr75⟩:=hr71
 obtain ⟨rfl,hr74⟩:=hr74
 obtain ⟨rfl,hr75⟩:=hr75
 refine lv (.agg #[iv x62.1,iv x62.2.1,iv x62.2.2]) (ld_agg isAgg66 sizeOf66 rfl rfl hc66)<|lex.op (hC.alloc (cs:=[iv 0,iv 0,iv 0]) zeroValue66 rfl) ?_
 rintro _ w77 ⟨g76,rfl,hC,hF,-⟩
 refine lex.sk (hC.seta (i:=0) (ds:=[iv x62.1,iv x62.2.1,iv x62.2.2]) rfl type66 rfl rfl rfl rfl rfl) ?_
 rintro w79 ⟨hC,hF⟩
 refine ln (hK61 _ _ ?_)
 refine Wc.seq fun _ hK80=>?_
 refine Wc.seq fun _ hK81=>rg<|lp (.pointer (some ((⟨g76,0,none⟩:Addr).add 0))) (qaf (sz:=1) underlying66 rfl sizeOf3 (by decide) rfl rfl)<|lv (iv x62.1) (qal (hC.bx (i:=0) rfl) isAgg3 rfl rfl)<|lp _ (qaa e1) ?_
 obtain ⟨z82,h83,hb⟩:=bd hb
 refine lp (iv z82) (qau (a:=x62.1) (b:=y) rfl rfl h83) ?_
 obtain ⟨y84,h85,hb⟩:=bd hb
 refine lex.cl (⟨_,_,qam (vs:=[iv z82,iv 1048576]) call39 rfl rfl rfl,qby n hC.lt (qah h83) (show I64 1048576 from by unfold I64; omega) h85⟩) ?_
 rintro _ w86 ⟨rfl,hK⟩
 replace hC:=hC.merge hK
 clear hK
 refine lp (.bool (!y84)) (qbt (q:=y84) rfl)<|lp (.bool (!y84)) (qaa rfl) ?_
 rcases bS (!y84) with hq87 | hq87
 replace hb:=tt hq87 hb
 refine gs rfl rfl (!y84) rfl hq87<|gs rfl rfl (!y84) rfl hq87<|gs rfl rfl (!y84) rfl hq87<|gs rfl rfl (!y84) rfl hq87<|gs rfl rfl (!y84) rfl hq87<|gs rfl rfl (!y84) rfl hq87<|lp (.bool true) (qap (q:=(!y84)) rfl hq87 rfl)<|ln (hK81 _ _ ?_)
 refine Wc.fresh fun E88 hE=>?_
 have e1:=cg hE 1 e1
 have e2:=cg hE 2 e2
 have e6:=cg hE 6 e6
 have e7:=cg hE 7 e7
 have e9:E88 9=pg g76:=cg hE 9 rfl
 have e34:=cg hE 34 e34
 have e35:=cg hE 35 e35
 have e36:=cg hE 36 e36
 have e37:E88 37=.bool (decide (p<(c.length:Int))):=cg hE 37 rfl
 have e53:E88 53=.bool true:=cg hE 53 rfl
 clear hE
 refine Wc.cond_true (e53) ?_
 refine Wc.seq fun _ hK89=>rg<|lp (.agg #[.bool true,.slice none 0 0]) (qat (places:=[(0,1),(1,1)]) (pv:=[(0,.bool true)]) type37 underlying37 rfl (qag type4 (qag type35 qbb rfl rfl) rfl rfl) rfl (by simp [Instr.fill,Value.cells]))<|lex.sk (hC.seta (i:=1) (ds:=[.bool true,.slice none 0 0]) rfl type37 rfl rfl rfl e6 rfl) ?_
 rintro w90 ⟨hC,hF⟩
 refine ln (hK89 _ _ ?_)
 obtain rfl:=os hb
 obtain rfl:=(lX hl0).symm
 replace hb:=hbK0
 replace hC:=hC.ro (show Rep _ _ (.sl (.pr si (.pr si si))) [.slice none 0 0] [] from ⟨none,0,rfl,Nat.le_refl _,by omega,fun h=>absurd h (by simp)⟩)
 obtain rfl:=os hb
 refine Wc.ret (hKR _ _ ?_)
 refine ⟨_,res1 results21 ⟨_,e6,qai (hC.bx (i:=2) rfl) isAgg37 sizeOf37⟩,_,rfl,none,0,0,rfl,hC.sE [0]⟩
 replace hb:=tf hq87 hb
 refine gp rfl rfl (!y84) rfl hq87 (.pointer (some ((⟨g76,0,none⟩:Addr).add 1))) (qaf (sz:=1) underlying66 rfl sizeOf3 (by decide) rfl rfl)<|gv rfl rfl (!y84) rfl hq87 (iv x62.2.1) (qal (hC.bx (i:=0) rfl) isAgg3 rfl rfl)<|gp rfl rfl (!y84) rfl hq87 (iv x) (qaa e2) ?_
 obtain ⟨z92,h93,hb⟩:=bd hb
 refine gp rfl rfl (!y84) rfl hq87 (iv z92) (qau (a:=x62.2.1) (b:=x) rfl rfl h93) ?_
 obtain ⟨y94,h95,hb⟩:=bd hb
 refine lex.gcl (qdp rfl rfl (show _=Value.bool (!y84) from rfl) hq87) (⟨_,_,qam (vs:=[iv z92,iv 1048576]) call39 rfl rfl rfl,qby n hC.lt (qah h93) (show I64 1048576 from by unfold I64; omega) h95⟩) ?_
 rintro _ w96 ⟨rfl,hK⟩
 replace hC:=hC.merge hK
 clear hK
 refine gp rfl rfl (!y84) rfl hq87 (.bool (!y94)) (qbt (q:=y94) rfl)<|lp (.bool (!y94)) (qak (q:=(!y84)) rfl hq87 rfl)<|ln (hK81 _ _ ?_)
 refine Wc.fresh fun E97 hE=>?_
 have e1:=cg hE 1 e1
 have e2:=cg hE 2 e2
 have e6:=cg hE 6 e6
 have e7:=cg hE 7 e7
 have e9:E97 9=pg g76:=cg hE 9 rfl
 have e34:=cg hE 34 e34
 have e35:=cg hE 35 e35
 have e36:=cg hE 36 e36
 have e37:E97 37=.bool (decide (p<(c.length:Int))):=cg hE 37 rfl
 have e53:E97 53=.bool (!y94):=cg hE 53 rfl
 clear hE
 refine Wc.cond (t:=(!y94)) (e53) (fun hq98=>?_) (fun hq98=>?_)
 replace hb:=tt hq98 hb
 refine Wc.seq fun _ hK99=>rg<|lp (.agg #[.bool true,.slice none 0 0]) (qat (places:=[(0,1),(1,1)]) (pv:=[(0,.bool true)]) type37 underlying37 rfl (qag type4 (qag type35 qbb rfl rfl) rfl rfl) rfl (by simp [Instr.fill,Value.cells]))<|lex.sk (hC.seta (i:=1) (ds:=[.bool true,.slice none 0 0]) rfl type37 rfl rfl rfl e6 rfl) ?_
 rintro w100 ⟨hC,hF⟩
 refine ln (hK99 _ _ ?_)
 obtain rfl:=os hb
 obtain rfl:=(lX hl0).symm
 replace hb:=hbK0
 replace hC:=hC.ro (show Rep _ _ (.sl (.pr si (.pr si si))) [.slice none 0 0] [] from ⟨none,0,rfl,Nat.le_refl _,by omega,fun h=>absurd h (by simp)⟩)
 obtain rfl:=os hb
 refine Wc.ret (hKR _ _ ?_)
 refine ⟨_,res1 results21 ⟨_,e6,qai (hC.bx (i:=2) rfl) isAgg37 sizeOf37⟩,_,rfl,none,0,0,rfl,hC.sE [0]⟩
 replace hb:=tf hq98 hb
 refine Wc.skip (hK80 _ _ ?_)
 refine rg<|lp (.pointer (some ((⟨g43,0,none⟩:Addr).add 1))) (qaf (sz:=1) underlying37 rfl sizeOf35 (by decide) rfl e7)<|lv (.slice f d.length g) (qal (hC.bx (i:=2) rfl) isAgg35 rfl rfl)<|lp (.pointer (some ((⟨g76,0,none⟩:Addr).add 0))) (qaf (sz:=1) underlying66 rfl sizeOf3 (by decide) rfl e9)<|lv (iv x62.1) (qal (hC.bx (i:=0) rfl) isAgg3 rfl rfl)<|lp _ (qaa e1) ?_
 obtain ⟨z102,h103,hb⟩:=bd hb
 refine lp (iv z102) (qau (a:=x62.1) (b:=y) rfl rfl h103)<|lp (.pointer (some ((⟨g76,0,none⟩:Addr).add 1))) (qaf (sz:=1) underlying66 rfl sizeOf3 (by decide) rfl e9)<|lv (iv x62.2.1) (qal (hC.bx (i:=0) rfl) isAgg3 rfl rfl)<|lp _ (qaa e2) ?_
 obtain ⟨z104,h105,hb⟩:=bd hb
 refine lp (iv z104) (qau (a:=x62.2.1) (b:=x) rfl rfl h105)<|lp (.pointer (some ((⟨g76,0,none⟩:Addr).add 2))) (qaf (sz:=1) underlying66 rfl sizeOf3 (by decide) rfl e9)<|lv (iv x62.2.2) (qal (hC.bx (i:=0) rfl) isAgg3 rfl rfl)<|lp (.agg #[iv z102,iv z104,iv x62.2.2]) (qat (places:=[(0,1),(1,1),(2,1)]) (pv:=[(0,iv z102),(1,iv z104),(2,iv x62.2.2)]) type66 underlying66 rfl (qag type3 (qag type3 (qag type3 qbb rfl rfl) rfl rfl) rfl rfl) rfl (by simp [Instr.fill,Value.cells]))<|lex.op (hC.lit (s:=(.pr si (.pr si si))) (vs:=[.agg #[iv z102,iv z104,iv x62.2.2]]) (xs:=[(z102,(z104,x62.2.2))]) underlying35 type66 rfl rfl (nb rfl) rfl rfl (by simp [Value.cells,Sh.n]) rfl (show Elems _ _ (.pr si (.pr si si)) ([iv z102,iv z104,iv x62.2.2]++([])) ([(z102,(z104,x62.2.2))]:List (Int×(Int×Int))) from Elems.cons (⟨[iv z102],[iv z104,iv x62.2.2],rfl,⟨rfl,I64.wr (qah h103)⟩,⟨[iv z104],[iv x62.2.2],rfl,⟨rfl,I64.wr (qah h105)⟩,⟨rfl,I64.wr (qbi hr75)⟩⟩⟩) (Elems.nil _ _ _))) ?_
 rintro _ w110 ⟨A106,c107,rfl,hl108,hc109,hC,-,-⟩
 obtain ⟨u112,h113,hb⟩:=bd hb
 refine lex.op (hC.app (i:=4) (s:=(.pr si (.pr si si))) (xs:=d) (ys:=([(z102,(z104,x62.2.2))]:List (Int×(Int×Int)))) (m:=((([(z102,(z104,x62.2.2))]:List (Int×(Int×Int)))).length)) rfl underlying35 underlying35 type66 rfl rfl rfl (hC.srco (i:=0) rfl) rfl rfl (by have:=qew h113; simp at this⊢ <;>omega) (by decide)) ?_
 rintro _ w118 ⟨A114,c115,rfl,hl116,hc117,hC,-,-⟩
 refine lp (.pointer (some ((⟨g43,0,none⟩:Addr).add 1))) (qaf (sz:=1) underlying37 rfl sizeOf35 (by decide) rfl e7)<|lex.sk (hC.setf (i:=3) (k:=1) (v:=.slice A114 ((d++([(z102,(z104,x62.2.2))]:List (Int×(Int×Int)))).length) c115) rfl sizeOf35 rfl rfl rfl rfl) ?_
 rintro w119 ⟨hC,hF⟩
 refine ln (hK60 _ _ ?_)
 refine rg ?_
 obtain ⟨z120,h121,hb⟩:=bd hb
 refine lp (iv z120) (qau (a:=p) (b:=1) e36 rfl h121)<|lp (iv z120) (qaa rfl)<|ln ?_
 obtain rfl:=os hb
 exact hK52 m53' _ _ (Nat.lt_succ_self _) ⟨z120,(d++([(z102,(z104,x62.2.2))]:List (Int×(Int×Int)))),A114,(d++([(z102,(z104,x62.2.2))]:List (Int×(Int×Int)))).length,c115,e1,e2,e6,e7,e34,e35,rfl,(qah h121),hC.sE [2,3,4,5],lN hl0⟩
 replace hb:=tf hq59 hb
 refine Wc.exit rfl ?_
 obtain rfl:=os hb
 obtain rfl:=(lX hl0).symm
 exact hK51 _ _ ⟨p,d,f,d.length,g,e6,e7,z,hC.sE [0,1,2],hbK0⟩
 clear hb hC hl0
 rintro E123 w122 ⟨p,d,f,u,g,e6,e7,z,hC,hb⟩
 obtain ⟨rfl,B,C⟩:=(hC.ow (i:=2) rfl).qae
 refine hK48 _ _<|Wc.seq fun _ hK124=>rg<|lv (.agg #[.bool false,.slice f d.length g]) (qaq (hC.bx (i:=1) rfl) isAgg37 sizeOf37 e7)<|lex.sk (hC.seta (i:=0) (ds:=[.bool false,.slice f d.length g]) rfl type37 rfl rfl rfl e6 rfl) ?_
 rintro w125 ⟨hC,hF⟩
 refine ln (hK124 _ _ ?_)
 replace hC:=hC.freeze (i:=2) rfl (hC.qfd (i:=2) rfl)
 obtain rfl:=os hb
 refine Wc.ret (hKR _ _ ?_)
 refine ⟨_,res1 results21 ⟨_,e6,qai (hC.bx (i:=0) rfl) isAgg37 sizeOf37⟩,_,rfl,f,d.length,g,rfl,hC.sE [2]⟩

theorem qhw (n:Nat) {w:World} {O0:List Nat} (hO: ∀k∈O0,k<w.heap.size) {d:Int} (g:I64 d) {f:Int} (h:I64 f) {c:Int} (j:I64 c) {r:Int×Int} (hb:F.qeo n d f c=some r):
    Calls prog 53 #[.agg #[iv d,iv f],iv c] w fun e w'=> ∃v,e=.returned v∧v=.agg #[iv r.1,iv r.2]∧I64 r.1∧I64 r.2∧Cx (fun _=>False) O0 w w' []:=by
 unfold F.qeo at hb
 have hC:=Cx.start hO
 clear hO
 refine qao func53 rfl (by rw [ntmps53]; exact nb rfl) fun KR hKR=>?_
 refine Wc.seq fun _ hK1=>rg<|lex.op (hC.box (cs:=[iv d,iv f]) rfl rfl) ?_
 rintro _ w3 ⟨g2,rfl,hC,hF,-⟩
 refine lex.op (hC.alloc (cs:=[iv 0,iv 0]) zeroValue90 rfl) ?_
 rintro _ w6 ⟨g5,rfl,hC,hF,-⟩
 refine ln (hK1 _ _ ?_)
 refine Wc.seq fun _ hK8=>rg<|lp (.pointer (some ((⟨g2,0,none⟩:Addr).add 0))) (qaf (sz:=1) underlying90 rfl sizeOf3 (by decide) rfl rfl)<|lv (iv d) (qal (hC.bx (i:=1) rfl) isAgg3 rfl rfl)<|lp (iv c) (qaa rfl)<|lp (iv (c/ 33554432)) (pu_shr (q:=33554432) rfl rfl (by decide) (by decide) (by decide)) ?_
 obtain ⟨z9,h10,hb⟩:=bd hb
 refine lp (iv z9) (qau (a:=d) (b:=(c/ 33554432)) rfl rfl h10)<|lp (.pointer (some ((⟨g2,0,none⟩:Addr).add 1))) (qaf (sz:=1) underlying90 rfl sizeOf3 (by decide) rfl rfl)<|lv (iv f) (qal (hC.bx (i:=1) rfl) isAgg3 rfl rfl)<|lp (iv c) (qaa rfl)<|lp (iv (c%33554432)) (pu_and 25 rfl rfl (by decide) (by decide)) ?_
 obtain ⟨z11,h12,hb⟩:=bd hb
 refine lp (iv z11) (qau (a:=f) (b:=(c%33554432)) rfl rfl h12)<|lp (.agg #[iv z9,iv z11]) (qat (places:=[(0,1),(1,1)]) (pv:=[(0,iv z9),(1,iv z11)]) type90 underlying90 rfl (qag type3 (qag type3 qbb rfl rfl) rfl rfl) rfl (by simp [Instr.fill,Value.cells]))<|lex.sk (hC.seta (i:=0) (ds:=[iv z9,iv z11]) rfl type90 rfl rfl rfl rfl rfl) ?_
 rintro w13 ⟨hC,hF⟩
 refine ln (hK8 _ _ ?_)
 obtain rfl:=os hb
 refine Wc.ret (hKR _ _ ?_)
 refine ⟨_,res1 results53 ⟨_,rfl,qai (hC.bx (i:=0) rfl) isAgg90 sizeOf90⟩,_,rfl,rfl,(qah h10),(qah h12),hC.sE []⟩

theorem qhk (n:Nat) {w:World} {O0:List Nat} (hO: ∀k∈O0,k<w.heap.size) {l:Option Addr} {u o:Nat} {d:List (Int×(Int×Int))} (x:Rep O0 w (.sl (.pr si (.pr si si))) [.slice l u o] d) {s:Int} (C:I64 s) {p:Nat} {c:Nat} {q:List ((Int×Int)×(Int×Int))} (hio:Tk O0 w [.mp c .pair (.pr si si) q,.box p 87 [.map (some c)]]) {r:(List ((Int×Int)×(Int×Int)))} (hb:F.qdf n d s q=some r):
    Calls prog 52 #[.slice l u o,iv s,pg p] w fun e w'=> ∃v,e=.returned v∧v=.tuple #[]∧Cx (fun k=>k∈blocks [.mp c .pair (.pr si si) q,.box p 87 [.map (some c)]]) O0 w w' [.mp c .pair (.pr si si) r,.box p 87 [.map (some c)]]:=by
 unfold F.qdf at hb
 have hC:=Cx.startTk hO hio
 have hsub:=hio.2.2
 replace hC:=hC.argTk (by first | exact hsub | exact fun k hk=>hsub k (by simpa [blocks,Fact.blk] using hk)) x
 clear hO
 obtain ⟨rfl,z,B⟩:=x.qae
 clear hio hsub
 obtain ⟨I,hI,hC⟩: ∃I:Nat→Prop,I=(fun k=>k∈blocks [.mp c .pair (.pr si si) q,.box p 87 [.map (some c)]])∧Cx I O0 w w ([.ro (.sl (.pr si (.pr si si))) [.slice l d.length o] d,.mp c .pair (.pr si si) q,.box p 87 [.map (some c)]]):=⟨_,rfl,hC⟩
 refine qao func52 rfl (by rw [ntmps52]; exact nb rfl) fun KR hKR=>?_
 refine Wc.seq fun _ hK4=>rg<|lp (.slice l d.length o) (qaa rfl)<|lp (iv (d.length:Int)) (qay (A:=l) (n:=d.length) (m:=o) underlying35 rfl)<|lp (iv 0) (qaa rfl)<|ln (hK4 _ _ ?_)
 obtain ⟨o5,hl0,f5,hf5,hb⟩:=bn hb
 refine Wc.cut (fun E wv=> ∃(f:Int) (h:List ((Int×Int)×(Int×Int))),I64 f∧Cx I O0 w wv [.mp c .pair (.pr si si) h,.box p 87 [.map (some c)]]∧f5 (f,h)=some r) (fun _ hK6=>?_) ?_
 refine Wc.block ?_
 refine Wc.loop (fun m E wv=> ∃(f:Int) (h:List ((Int×Int)×(Int×Int))),E 1=iv s∧E 2=pg p∧E 8=.slice l d.length o∧E 9=iv (d.length:Int)∧E 10=iv f∧I64 f∧Cx I O0 w wv [.box p 87 [.map (some c)],.mp c .pair (.pr si si) h,.ro (.sl (.pr si (.pr si si))) [.slice l d.length o] d]∧loopN m (F.qcq n d s) (f,h)=some o5) n ⟨0,q,rfl,rfl,rfl,rfl,rfl,(show I64 0 from by unfold I64; omega),hC.sE [2,1,0],hl0⟩ ?_
 have hbK0:=hb
 clear hb hC hl0
 rintro m8 E10 w9 ⟨f,h,e1,e2,e8,e9,e10,y,hC,hl0⟩ K7 hK7
 obtain ⟨m8',o11,rfl,hb,hl0⟩:=qax hl0
 unfold F.qcq at hb
 refine Wc.seq fun _ hK12=>rg<|lp _ (qbj e10 e9)<|ln (hK12 _ _ ?_)
 refine Wc.seq fun _ hK13=>?_
 refine Wc.cond (t:=(decide (f<(d.length:Int)))) (rfl) (fun hq14=>?_) (fun hq14=>?_)
 replace hb:=tt hq14 hb
 refine Wc.skip (hK13 _ _ ?_)
 refine Wc.seq fun _ hK15=>?_
 refine Wc.block<|Wc.seq fun _ hK16=>rg ?_
 obtain ⟨x17,h18,hb⟩:=bd hb
 obtain ⟨ad19,cs20,hA,hc21,hr22⟩:=hC.elr (i:=2) rfl (qad h18).2
 subst hA
 refine lp (.pointer (some (ad19.add (f.toNat*3)))) (qar (a:=f) underlying35 sizeOf66 e8 e10 (qad h18).1) ?_
 obtain ⟨k23,k24,rfl,hr25,hr26⟩:=hr22
 obtain ⟨rfl,hr25⟩:=hr25
 obtain ⟨k27,k28,rfl,hr29,hr30⟩:=hr26
 obtain ⟨rfl,hr29⟩:=hr29
 obtain ⟨rfl,hr30⟩:=hr30
 refine lv (.agg #[iv x17.1,iv x17.2.1,iv x17.2.2]) (ld_agg isAgg66 sizeOf66 rfl rfl hc21)<|lex.op (hC.alloc (cs:=[iv 0,iv 0,iv 0]) zeroValue66 rfl) ?_
 rintro _ w32 ⟨g31,rfl,hC,hF,-⟩
 refine lex.sk (hC.seta (i:=0) (ds:=[iv x17.1,iv x17.2.1,iv x17.2.2]) rfl type66 rfl rfl rfl rfl rfl) ?_
 rintro w34 ⟨hC,hF⟩
 refine ln (hK16 _ _ ?_)
 refine Wc.seq fun _ hK35=>rg<|lp (.pointer (some ((⟨g31,0,none⟩:Addr).add 0))) (qaf (sz:=1) underlying66 rfl sizeOf3 (by decide) rfl rfl)<|lv (iv x17.1) (qal (hC.bx (i:=0) rfl) isAgg3 rfl rfl)<|lp (.pointer (some ((⟨g31,0,none⟩:Addr).add 1))) (qaf (sz:=1) underlying66 rfl sizeOf3 (by decide) rfl rfl)<|lv (iv x17.2.1) (qal (hC.bx (i:=0) rfl) isAgg3 rfl rfl)<|lp (.agg #[iv x17.1,iv x17.2.1]) (pu_builda (pv:=[(0,iv x17.1),(1,iv x17.2.1)]) (sz:=1) type88 underlying88 rfl type3 rfl rfl (by simp [Instr.fill,Value.cells]))<|lex.op (hC.alloc (cs:=[iv 0,iv 0]) zeroValue88 rfl) ?_
 rintro _ w37 ⟨g36,rfl,hC,hF,-⟩
 refine lex.sk (hC.seta (i:=0) (ds:=[iv x17.1,iv x17.2.1]) rfl type88 rfl rfl rfl rfl rfl) ?_
 rintro w39 ⟨hC,hF⟩
 refine ln (hK35 _ _ ?_)
 refine Wc.fresh fun E40 hE=>?_
 have e1:=cg hE 1 e1
 have e2:=cg hE 2 e2
 have e6:E40 6=pg g31:=cg hE 6 rfl
 have e7:E40 7=pg g36:=cg hE 7 rfl
 have e8:=cg hE 8 e8
 have e9:=cg hE 9 e9
 have e10:=cg hE 10 e10
 have e11:E40 11=.bool (decide (f<(d.length:Int))):=cg hE 11 rfl
 clear hE
 refine Wc.regionMix [] (frm [] [.mp c .pair (.pr si si) h] ([]:List Fact)) (fun _=>rfl) mixed (by decide+kernel) (by decide+kernel) fun w42 hw41=>?_
 replace hC:=hC.step (Fr.qcx hw41)
 have hM:=Fr.refl (fun k=>k∈blocks [.mp c .pair (.pr si si) h]) w42
 clear hw41
 have hS:=hC
 have hBf3: ∀g,g<w42.heap.size→some c=some g→g∈blocks [.mp c .pair (.pr si si) h]:=fun g _ hg=>Option.some.inj hg▸mp_in (i:=0) rfl
 have hVf3:c<w42.heap.size→c∈blocks [.mp c .pair (.pr si si) h]:=fun _=>mp_in (i:=0) rfl
 refine mixE.load hM (v:=.map (some c)) (fun _ hF=>qaw isAgg87 e2 ((hS.bx2 (i:=2) rfl [3] (by decide) hF).cell (j:=0) rfl))<|mixE.load hM (v:=.agg #[iv x17.1,iv x17.2.1]) (fun _ hF=>qaq (hS.bx2 (i:=0) rfl [3] (by decide) hF) isAgg88 sizeOf88 e7)<|mixE.load hM (v:=.map (some c)) (fun _ hF=>qaw isAgg87 e2 ((hS.bx2 (i:=2) rfl [3] (by decide) hF).cell (j:=0) rfl))<|mixE.load hM (v:=.agg #[iv x17.1,iv x17.2.1]) (fun _ hF=>qaq (hS.bx2 (i:=0) rfl [3] (by decide) hF) isAgg88 sizeOf88 e7) ?_
 obtain ⟨x44,h45,hb⟩:=bd hb
 obtain ⟨cs43,hY,hR⟩:=hC.mplk (i:=3) (k:=(x17.1,x17.2.1)) rfl (KL.pair underlying88 type3 (by kernel_rfl) sizeOf3 underlying3 isAgg3) underlying87 (zc:=[iv 0,iv 0]) (zx:=((0:Int),(0:Int))) zeroValue90 (⟨[iv 0],[iv 0],rfl,⟨rfl,I64.wr (show I64 0 from by unfold I64; omega)⟩,⟨rfl,I64.wr (show I64 0 from by unfold I64; omega)⟩⟩) false
 rw [Option.some.inj h45] at hR
 obtain ⟨k46,k47,rfl,hr48,hr49⟩:=hR
 obtain ⟨rfl,hr48⟩:=hr48
 obtain ⟨rfl,hr49⟩:=hr49
 refine mixE.soft (v:=.agg #[iv x44.1,iv x44.2]) hM (hY rfl rfl) hM ?_
 clear hY
 refine mp (iv s) (qaa e1)<|mp (.pointer (some ((⟨g31,0,none⟩:Addr).add 2))) (qaf (sz:=1) underlying66 rfl sizeOf3 (by decide) rfl e6)<|mixE.load hM (v:=iv x17.2.2) (fun _ hF=>qal (hS.bx2 (i:=1) rfl [3] (by decide) hF) isAgg3 rfl rfl) ?_
 obtain ⟨z50,h51,hb⟩:=bd hb
 refine mp (iv z50) (qfx (a:=s) (b:=x17.2.2) rfl rfl h51) ?_
 obtain ⟨y52,h53,hb⟩:=bd hb
 refine mixE.cl hM (⟨_,_,qam (vs:=[.agg #[iv x44.1,iv x44.2],iv z50]) call53 rfl rfl rfl,qhw n hC.lt (qbi hr48) (qbi hr49) (qah h51) h53⟩) ?_
 rintro _ w56 ⟨rfl,hr54,hr55,hK⟩
 replace hM:=hM.none hK.fr
 refine ⟨hM,?_⟩
 replace hC:=hC.merge hK
 clear hK
 refine mixE.ssk hM (hC.mpput (i:=3) (k:=(x17.1,x17.2.1)) (cs:=[iv y52.1,iv y52.2]) (v:=(y52.1,y52.2)) rfl (KL.pair underlying88 type3 (by kernel_rfl) sizeOf3 underlying3 isAgg3) (⟨(qbi hr25),(qbi hr29)⟩) underlying87 (⟨[iv y52.1],[iv y52.2],rfl,⟨rfl,I64.wr hr54⟩,⟨rfl,I64.wr hr55⟩⟩) rfl rfl rfl) ?_
 rintro w57 ⟨hC,hF⟩
 replace hM:=hM.besideG hVf3 hF
 clear hF
 refine ⟨hM,?_⟩
 refine mixE.nil ?_
 clear hS hM
 refine hK15 _ _<|rg ?_
 obtain ⟨z58,h59,hb⟩:=bd hb
 refine lp (iv z58) (qau (a:=f) (b:=1) e10 rfl h59)<|lp (iv z58) (qaa rfl)<|ln ?_
 obtain rfl:=os hb
 exact hK7 m8' _ _ (Nat.lt_succ_self _) ⟨z58,(gput h (x17.1,x17.2.1) (y52.1,y52.2)),e1,e2,e8,e9,rfl,(qah h59),hC.sE [2,3,4],lN hl0⟩
 replace hb:=tf hq14 hb
 refine Wc.exit rfl ?_
 obtain rfl:=os hb
 obtain rfl:=(lX hl0).symm
 exact hK6 _ _ ⟨f,h,y,hC.sE [1,0],hbK0⟩
 clear hb hC hl0
 rintro E61 w60 ⟨f,h,y,hC,hb⟩
 subst hf5
 obtain rfl:=os hb
 subst hI
 refine hKR _ _ ?_
 refine ⟨_,res0 results52,_,rfl,rfl,hC.sE [0,1]⟩

theorem bivariate_sum_small_ok (n:Nat) {w:World} {O0:List Nat} (hO: ∀k∈O0,k<w.heap.size) {d:Int} (f:I64 d) {c:Int} (g:I64 c) {r:Int×Bool} (hb:F.qfa n d c=some r):
    Calls prog 59 #[.agg #[iv d,iv c]] w fun e w'=> ∃v,e=.returned v∧v=.tuple #[iv r.1,.bool r.2]∧I64 r.1∧Cx (fun _=>False) O0 w w' []:=by
 unfold F.qfa at hb
 have hC:=Cx.start hO
 clear hO
 refine qao func59 rfl (by rw [ntmps59]; exact nb rfl) fun KR hKR=>?_
 refine Wc.seq fun _ hK1=>rg<|lex.op (hC.box (cs:=[iv d,iv c]) rfl rfl) ?_
 rintro _ w3 ⟨g2,rfl,hC,hF,-⟩
 refine lp (iv 0) (qab rfl)<|lp (.bool false) (qab rfl)<|ln (hK1 _ _ ?_)
 refine Wc.seq fun _ hK5=>?_
 refine Wc.regionMix [] (frm [] ([]:List Fact) ([]:List Fact)) (fun _=>rfl) mixed (by decide+kernel) (by decide+kernel) fun w7 hw6=>?_
 replace hC:=hC.step (Fr.qcx hw6)
 have hM:=Fr.refl (fun k=>k∈blocks ([]:List Fact)) w7
 clear hw6
 have hS:=hC
 refine mp (.pointer (some ((⟨g2,0,none⟩:Addr).add 0))) (qaf (sz:=1) underlying90 rfl sizeOf3 (by decide) rfl rfl)<|mixE.load hM (v:=iv d) (fun _ hF=>qal (hS.bx2 (i:=0) rfl [] (by decide) hF) isAgg3 rfl rfl)<|mp (.pointer (some ((⟨g2,0,none⟩:Addr).add 1))) (qaf (sz:=1) underlying90 rfl sizeOf3 (by decide) rfl rfl)<|mixE.load hM (v:=iv c) (fun _ hF=>qal (hS.bx2 (i:=0) rfl [] (by decide) hF) isAgg3 rfl rfl)<|mp (iv (c/ 33554432)) (pu_shr (q:=33554432) rfl rfl (by decide) (by decide) (by decide)) ?_
 obtain ⟨z8,h9,hb⟩:=bd hb
 refine mp (iv z8) (qau (a:=d) (b:=(c/ 33554432)) rfl rfl h9)<|mp (.pointer (some ((⟨g2,0,none⟩:Addr).add 1))) (qaf (sz:=1) underlying90 rfl sizeOf3 (by decide) rfl rfl)<|mixE.load hM (v:=iv c) (fun _ hF=>qal (hS.bx2 (i:=0) rfl [] (by decide) hF) isAgg3 rfl rfl)<|mp (iv (c%33554432)) (pu_and 25 rfl rfl (by decide) (by decide))<|mp (iv z8) (qab rfl)<|mp (iv (c%33554432)) (qab rfl)<|mixE.nil ?_
 clear hS hM
 refine hK5 _ _<|Wc.fresh fun E10 hE=>?_
 have e2:E10 2=iv 0:=cg hE 2 rfl
 have e3:E10 3=.bool false:=cg hE 3 rfl
 have e4:E10 4=iv z8:=cg hE 4 rfl
 have e5:E10 5=iv (c%33554432):=cg hE 5 rfl
 clear hE
 refine Wc.seq fun _ hK11=>?_
 refine Wc.seq fun _ hK12=>rg<|lp _ (qaa e4) ?_
 obtain ⟨y13,h14,hb⟩:=bd hb
 refine lex.cl (⟨_,_,qam (vs:=[iv z8,iv 67108864]) call39 rfl rfl rfl,qby n hC.lt (qah h9) (show I64 67108864 from by unfold I64; omega) h14⟩) ?_
 rintro _ w15 ⟨rfl,hK⟩
 replace hC:=hC.merge hK
 clear hK
 refine lp (.bool (!y13)) (qbt (q:=y13) rfl)<|ln (hK12 _ _ ?_)
 refine Wc.cond (t:=(!y13)) (rfl) (fun hq16=>?_) (fun hq16=>?_)
 replace hb:=tt hq16 hb
 refine Wc.seq fun _ hK17=>rg<|lp (iv 0) (qab rfl)<|lp (.bool false) (qab rfl)<|ln (hK17 _ _ ?_)
 obtain rfl:=os hb
 refine Wc.ret (hKR _ _ ?_)
 refine ⟨_,res2 results59 (tV (iv 0) rfl) (tV (.bool false) rfl),_,rfl,rfl,(show I64 0 from by unfold I64; omega),hC.sE []⟩
 replace hb:=tf hq16 hb
 refine Wc.skip (hK11 _ _ ?_)
 refine Wc.seq fun _ hK18=>rg<|lp _ (qaa e4) ?_
 obtain ⟨z19,h20,hb⟩:=bd hb
 refine lp (iv z19) (pu_shlc (q:=33554432) rfl rfl (by decide) (by decide) (by decide) h20)<|lp _ (qaa e5) ?_
 obtain ⟨z21,h22,hb⟩:=bd hb
 refine lp (iv z21) (qau (a:=z19) (b:=(c%33554432)) rfl rfl h22)<|lp (iv z21) (qab rfl)<|ln (hK18 _ _ ?_)
 refine Wc.seq fun _ hK23=>rg<|lp (iv z21) (qaa rfl)<|lp (iv z21) (qaa rfl) ?_
 obtain ⟨y24,h25,hb⟩:=bd hb
 refine lex.cl (⟨_,_,qam (vs:=[iv z21,iv 1125899906842624]) call39 rfl rfl rfl,qby n hC.lt (qah h22) (show I64 1125899906842624 from by unfold I64; omega) h25⟩) ?_
 rintro _ w26 ⟨rfl,hK⟩
 replace hC:=hC.merge hK
 clear hK
 refine lp (iv z21) (qab rfl)<|lp (.bool y24) (qab rfl)<|ln (hK23 _ _ ?_)
 obtain rfl:=os hb
 refine Wc.ret (hKR _ _ ?_)
 refine ⟨_,res2 results59 (tV (iv z21) rfl) (tV (.bool y24) rfl),_,rfl,rfl,(qah h22),hC.sE []⟩

theorem cmp_isNaN_int_ok (n:Nat) {w:World} {O0:List Nat} (hO: ∀k∈O0,k<w.heap.size) {c:Int} (d:I64 c) {r:Bool} (hb:F.cmp_isNaN_int n c=some r):
    Calls prog 67 #[iv c] w fun e w'=> ∃v,e=.returned v∧v=.bool r∧Cx (fun _=>False) O0 w w' []:=by
 unfold F.cmp_isNaN_int at hb
 have hC:=Cx.start hO
 clear hO
 refine qao func67 rfl (by rw [ntmps67]; exact nb rfl) fun KR hKR=>?_
 refine Wc.seq fun _ hK1=>rg<|lp (.bool false) (qab rfl)<|ln (hK1 _ _ ?_)
 refine Wc.seq fun _ hK2=>rg<|lp (iv c) (qaa rfl)<|lp (iv c) (qaa rfl)<|lp (.bool (!(decide (c=c)))) (pu_neq (k:=.i64) (a:=c) (b:=c) rfl rfl)<|lp (.bool (!(decide (c=c)))) (qab rfl)<|ln (hK2 _ _ ?_)
 obtain rfl:=os hb
 refine Wc.ret (hKR _ _ ?_)
 refine ⟨_,res1 results67 (tV (.bool (!(decide (c=c)))) rfl),_,rfl,rfl,hC.sE []⟩

theorem cmp_Compare_int_ok (n:Nat) {w:World} {O0:List Nat} (hO: ∀k∈O0,k<w.heap.size) {c:Int} (f:I64 c) {d:Int} (g:I64 d) {r:Int} (hb:F.cmp_Compare_int n c d=some r):
    Calls prog 63 #[iv c,iv d] w fun e w'=> ∃v,e=.returned v∧v=iv r∧I64 r∧Cx (fun _=>False) O0 w w' []:=by
 unfold F.cmp_Compare_int at hb
 have hC:=Cx.start hO
 clear hO
 refine qao func63 rfl (by rw [ntmps63]; exact nb rfl) fun KR hKR=>?_
 refine Wc.seq fun _ hK1=>rg<|lp (iv 0) (qab rfl)<|ln (hK1 _ _ ?_)
 refine Wc.seq fun _ hK2=>rg<|lp (iv c) (qaa rfl) ?_
 obtain ⟨y3,h4,hb⟩:=bd hb
 refine lex.cl (⟨_,_,qam (vs:=[iv c]) call67 rfl rfl rfl,cmp_isNaN_int_ok n hC.lt f h4⟩) ?_
 rintro _ w5 ⟨rfl,hK⟩
 replace hC:=hC.merge hK
 clear hK
 refine lp (.bool y3) (qab rfl)<|ln (hK2 _ _ ?_)
 refine Wc.seq fun _ hK6=>rg<|lp (iv d) (qaa rfl) ?_
 obtain ⟨y7,h8,hb⟩:=bd hb
 refine lex.cl (⟨_,_,qam (vs:=[iv d]) call67 rfl rfl rfl,cmp_isNaN_int_ok n hC.lt g h8⟩) ?_
 rintro _ w9 ⟨rfl,hK⟩
 replace hC:=hC.merge hK
 clear hK
 refine lp (.bool y7) (qab rfl)<|ln (hK6 _ _ ?_)
 refine Wc.seq fun _ hK10=>?_
 refine Wc.seq fun _ hK11=>rg<|lp (.bool y3) (qaa rfl)<|ln (hK11 _ _ ?_)
 refine Wc.cond (t:=y3) (rfl) (fun hq12=>?_) (fun hq12=>?_)
 replace hb:=tt hq12 hb
 refine Wc.seq fun _ hK13=>?_
 refine Wc.seq fun _ hK14=>rg<|lp (.bool y7) (qaa rfl)<|ln (hK14 _ _ ?_)
 refine Wc.cond (t:=y7) (rfl) (fun hq15=>?_) (fun hq15=>?_)
 replace hb:=tt hq15 hb
 refine Wc.seq fun _ hK16=>rg<|lp (iv 0) (qab rfl)<|ln (hK16 _ _ ?_)
 obtain rfl:=os hb
 refine Wc.ret (hKR _ _ ?_)
 refine ⟨_,res1 results63 (tV (iv 0) rfl),_,rfl,rfl,(show I64 0 from by unfold I64; omega),hC.sE []⟩
 replace hb:=tf hq15 hb
 refine Wc.skip (hK13 _ _ ?_)
 refine Wc.seq fun _ hK17=>rg<|lp (iv (-1)) (qab rfl)<|ln (hK17 _ _ ?_)
 obtain rfl:=os hb
 refine Wc.ret (hKR _ _ ?_)
 refine ⟨_,res1 results63 (tV (iv (-1)) rfl),_,rfl,rfl,(show I64 (-1) from by unfold I64; omega),hC.sE []⟩
 replace hb:=tf hq12 hb
 refine Wc.skip (hK10 _ _ ?_)
 refine Wc.seq fun _ hK18=>?_
 refine Wc.seq fun _ hK19=>rg<|lp (.bool y7) (qaa rfl)<|ln (hK19 _ _ ?_)
 refine Wc.cond (t:=y7) (rfl) (fun hq20=>?_) (fun hq20=>?_)
 replace hb:=tt hq20 hb
 refine Wc.seq fun _ hK21=>rg<|lp (iv 1) (qab rfl)<|ln (hK21 _ _ ?_)
 obtain rfl:=os hb
 refine Wc.ret (hKR _ _ ?_)
 refine ⟨_,res1 results63 (tV (iv 1) rfl),_,rfl,rfl,(show I64 1 from by unfold I64; omega),hC.sE []⟩
 replace hb:=tf hq20 hb
 refine Wc.skip (hK18 _ _ ?_)
 refine Wc.seq fun _ hK22=>?_
 refine Wc.seq fun _ hK23=>rg<|lp (iv c) (qaa rfl)<|lp (iv d) (qaa rfl)<|lp (.bool (decide (c<d))) (qbj (k:=.i64) (a:=c) (b:=d) rfl rfl)<|ln (hK23 _ _ ?_)
 refine Wc.cond (t:=(decide (c<d))) (rfl) (fun hq24=>?_) (fun hq24=>?_)
 replace hb:=tt hq24 hb
 refine Wc.seq fun _ hK25=>rg<|lp (iv (-1)) (qab rfl)<|ln (hK25 _ _ ?_)
 obtain rfl:=os hb
 refine Wc.ret (hKR _ _ ?_)
 refine ⟨_,res1 results63 (tV (iv (-1)) rfl),_,rfl,rfl,(show I64 (-1) from by unfold I64; omega),hC.sE []⟩
 replace hb:=tf hq24 hb
 refine Wc.skip (hK22 _ _ ?_)
 refine Wc.fresh fun E26 hE=>?_
 have e0:E26 0=iv c:=cg hE 0 rfl
 have e1:E26 1=iv d:=cg hE 1 rfl
 have e4:E26 4=iv 0:=cg hE 4 rfl
 clear hE
 refine Wc.seq fun _ hK27=>?_
 refine Wc.seq fun _ hK28=>rg<|lp _ (qaa e0)<|lp _ (qaa e1)<|lp (.bool (decide (d<c))) (qfq (k:=.i64) (a:=c) (b:=d) rfl rfl)<|ln (hK28 _ _ ?_)
 refine Wc.cond (t:=(decide (d<c))) (rfl) (fun hq29=>?_) (fun hq29=>?_)
 replace hb:=tt hq29 hb
 refine Wc.seq fun _ hK30=>rg<|lp (iv 1) (qab rfl)<|ln (hK30 _ _ ?_)
 obtain rfl:=os hb
 refine Wc.ret (hKR _ _ ?_)
 refine ⟨_,res1 results63 (tV (iv 1) rfl),_,rfl,rfl,(show I64 1 from by unfold I64; omega),hC.sE []⟩
 replace hb:=tf hq29 hb
 refine Wc.skip (hK27 _ _ ?_)
 refine Wc.seq fun _ hK31=>rg<|lp (iv 0) (qab rfl)<|ln (hK31 _ _ ?_)
 obtain rfl:=os hb
 refine Wc.ret (hKR _ _ ?_)
 refine ⟨_,res1 results63 (tV (iv 0) rfl),_,rfl,rfl,(show I64 0 from by unfold I64; omega),hC.sE []⟩

theorem cmp_Or_int_ok (n:Nat) {w:World} {O0:List Nat} (hO: ∀k∈O0,k<w.heap.size) {f:Option Addr} {h g:Nat} {c:List Int} (j:Rep O0 w (.sl si) [.slice f h g] c) {r:Int} (hb:F.cmp_Or_int n c=some r):
    Calls prog 62 #[.slice f h g] w fun e w'=> ∃v,e=.returned v∧v=iv r∧I64 r∧Cx (fun _=>False) O0 w w' []:=by
 unfold F.cmp_Or_int at hb
 have hC:=Cx.start hO
 replace hC:=hC.arg rfl j
 clear hO
 obtain ⟨rfl,o,p⟩:=j.qae
 refine qao func62 rfl (by rw [ntmps62]; exact nb rfl) fun KR hKR=>?_
 refine Wc.seq fun _ hK2=>rg<|lp (iv 0) (qab rfl)<|ln (hK2 _ _ ?_)
 refine Wc.seq fun _ hK3=>rg<|lp (iv 0) (qab rfl)<|ln (hK3 _ _ ?_)
 refine Wc.seq fun _ hK4=>?_
 refine Wc.seq fun _ hK5=>rg<|lp (.slice f c.length g) (qaa rfl)<|lp (iv (c.length:Int)) (qay (A:=f) (n:=c.length) (m:=g) underlying22 rfl)<|lp (iv 0) (qaa rfl)<|ln (hK5 _ _ ?_)
 obtain ⟨o6,hl0,hb⟩:=bd hb
 refine Wc.cut (fun E wv=> ∃(d:Int),E 2=iv 0∧E 3=iv 0∧I64 d∧Cx (fun _=>False) O0 w wv []∧(some 0:Option (Int))=some r) (fun _ hK7=>?_) ?_
 refine Wc.block ?_
 refine Wc.loop (fun m E wv=> ∃(d:Int),E 2=iv 0∧E 3=iv 0∧E 6=.slice f c.length g∧E 7=iv (c.length:Int)∧E 8=iv d∧I64 d∧Cx (fun _=>False) O0 w wv [.ro (.sl si) [.slice f c.length g] c]∧loopN m (F.qez n c) d=some o6) n ⟨0,rfl,rfl,rfl,rfl,rfl,(show I64 0 from by unfold I64; omega),hC.sE [0],hl0⟩ ?_
 have hbK0:=hb
 clear hb hC hl0
 rintro m9 E11 w10 ⟨d,e2,e3,e6,e7,e8,l,hC,hl0⟩ K8 hK8
 obtain ⟨m9',o12,rfl,hb,hl0⟩:=qax hl0
 unfold F.qez at hb
 refine Wc.seq fun _ hK13=>rg<|lp _ (qbj e8 e7)<|ln (hK13 _ _ ?_)
 refine Wc.seq fun _ hK14=>?_
 refine Wc.cond (t:=(decide (d<(c.length:Int)))) (rfl) (fun hq15=>?_) (fun hq15=>?_)
 replace hb:=tt hq15 hb
 refine Wc.skip (hK14 _ _ ?_)
 refine Wc.seq fun _ hK16=>?_
 refine Wc.block<|Wc.seq fun _ hK17=>rg ?_
 obtain ⟨x18,h19,hb⟩:=bd hb
 obtain ⟨ad20,cs21,hA,hc22,hr23⟩:=hC.elr (i:=0) rfl (qad h19).2
 subst hA
 refine lp (.pointer (some (ad20.add (d.toNat*1)))) (qar (a:=d) underlying22 sizeOf3 e6 e8 (qad h19).1) ?_
 obtain ⟨rfl,hr23'⟩:=hr23
 refine lv (iv x18) (qaw isAgg3 rfl (hc22 0 _ rfl))<|lp (iv x18) (qab rfl)<|ln (hK17 _ _ ?_)
 refine Wc.seq fun _ hK24=>rg<|lp (iv x18) (qaa rfl)<|lp _ (qaa e3)<|lp (.bool (!(decide (x18=0)))) (pu_neq (k:=.i64) (a:=x18) (b:=0) rfl rfl)<|ln (hK24 _ _ ?_)
 refine Wc.cond (t:=(!(decide (x18=0)))) (rfl) (fun hq25=>?_) (fun hq25=>?_)
 replace hb:=tt hq25 hb
 refine Wc.seq fun _ hK26=>rg<|lp (iv x18) (qaa rfl)<|lp (iv x18) (qab rfl)<|ln (hK26 _ _ ?_)
 obtain rfl:=os hb
 obtain rfl:=(lX hl0).symm
 replace hb:=hbK0
 obtain rfl:=os hb
 refine Wc.ret (hKR _ _ ?_)
 refine ⟨_,res1 results62 (tV (iv x18) rfl),_,rfl,rfl,(qbi hr23'),hC.sE []⟩
 replace hb:=tf hq25 hb
 refine Wc.skip (hK16 _ _ ?_)
 refine rg ?_
 obtain ⟨z27,h28,hb⟩:=bd hb
 refine lp (iv z27) (qau (a:=d) (b:=1) e8 rfl h28)<|lp (iv z27) (qaa rfl)<|ln ?_
 obtain rfl:=os hb
 exact hK8 m9' _ _ (Nat.lt_succ_self _) ⟨z27,e2,e3,e6,e7,rfl,(qah h28),hC.sE [0],lN hl0⟩
 replace hb:=tf hq15 hb
 refine Wc.exit rfl ?_
 obtain rfl:=os hb
 obtain rfl:=(lX hl0).symm
 exact hK7 _ _ ⟨d,e2,e3,l,hC.sE [],hbK0⟩
 clear hb hC hl0
 rintro E30 w29 ⟨d,e2,e3,l,hC,hb⟩
 refine hK4 _ _<|Wc.seq fun _ hK31=>rg<|lp _ (qaa e3)<|lp (iv 0) (qab rfl)<|ln (hK31 _ _ ?_)
 obtain rfl:=os hb
 refine Wc.ret (hKR _ _ ?_)
 refine ⟨_,res1 results62 (tV (iv 0) rfl),_,rfl,rfl,(show I64 0 from by unfold I64; omega),hC.sE []⟩
