import Derived.Test.YtpnppjlnfhlmpaaS
import Derived.Test.YtpnppjlnfhlmpaaG1
import Derived.Test.YtpnppjlnfhlmpaaG12
set_option linter.all false
namespace Go.Proofs.Ytpnppjlnfhlmpaa
open Ev Try
set_option maxRecDepth 100000
set_option maxHeartbeats 4000000
theorem qge (n:Nat) {w:World} {O0:List Nat} (hO: ∀k∈O0,k<w.heap.size) {d:Option Addr} {s f:Nat} {c:List Int} (u:Rep O0 w (.sl si) [.slice d s f] c) {o:Option Addr} {x p:Nat} {l:List Int} (y:Rep O0 w (.sl si) [.slice o x p] l) {g:Int} (z:I64 g) {r:Bool×(List (Int×(Int×Int)))×Int} (hb:F.qhh n c l g=some r):
    Calls prog 9 #[.agg #[.slice d s f,.slice o x p,iv g]] w fun e w'=> ∃v,e=.returned v∧∃(A1:Option Addr) (m1 c1:Nat),v=.tuple #[.agg #[.bool r.1,.slice A1 m1 c1],iv r.2.2]∧I64 r.2.2∧Cx (fun _=>False) O0 w w' [.ro (.sl (.pr si (.pr si si))) [.slice A1 m1 c1] r.2.1]:=by
 unfold F.qhh at hb
 have hC:=Cx.start hO
 replace hC:=hC.arg rfl u
 replace hC:=hC.arg rfl y
 clear hO
 obtain ⟨rfl,B,C⟩:=u.qae
 obtain ⟨rfl,D,G⟩:=y.qae
 refine qao func9 rfl (by rw [ntmps9]; exact nb rfl) fun KR hKR=>?_
 refine Wc.seq fun _ hK3=>rg<|lex.op (hC.box (cs:=[.slice d c.length f,.slice o l.length p,iv g]) rfl rfl) ?_
 rintro _ w5 ⟨g4,rfl,hC,hF,-⟩
 refine lex.op (hC.alloc (cs:=[.bool false,.slice none 0 0]) zeroValue37 rfl) ?_
 rintro _ w8 ⟨g7,rfl,hC,hF,-⟩
 refine lp (iv 0) (qab rfl)<|ln (hK3 _ _ ?_)
 refine Wc.seq fun _ hK10=>?_
 refine Wc.seq fun _ hK11=>rg<|lv (.agg #[.slice d c.length f,.slice o l.length p,iv g]) (qaq (hC.bx (i:=1) rfl) isAgg32 sizeOf32 rfl) ?_
 obtain ⟨y12,h13,hb⟩:=bd hb
 refine lex.cl (⟨_,_,qam (vs:=[.agg #[.slice d c.length f,.slice o l.length p,iv g]]) call11 rfl rfl rfl,qdm n hC.lt (hC.rd (i:=3) rfl) (hC.rd (i:=2) rfl) z h13⟩) ?_
 rintro _ w14 ⟨rfl,hK⟩
 replace hC:=hC.merge hK
 clear hK
 refine lp (.bool (!y12)) (qbt (q:=y12) rfl)<|ln (hK11 _ _ ?_)
 refine Wc.cond (t:=(!y12)) (rfl) (fun hq15=>?_) (fun hq15=>?_)
 replace hb:=tt hq15 hb
 refine Wc.seq fun _ hK16=>rg<|lp (.agg #[.bool false,.slice none 0 0]) (qat (places:=[(0,1),(1,1)]) (pv:=[]) type37 underlying37 rfl (qag type4 (qag type35 qbb rfl rfl) rfl rfl) rfl (by simp [Instr.fill,Value.cells]))<|lex.sk (hC.seta (i:=0) (ds:=[.bool false,.slice none 0 0]) rfl type37 rfl rfl rfl rfl rfl) ?_
 rintro w17 ⟨hC,hF⟩
 refine lp (iv 1) (qab rfl)<|ln (hK16 _ _ ?_)
 replace hC:=hC.ro (show Rep _ _ (.sl (.pr si (.pr si si))) [.slice none 0 0] [] from ⟨none,0,rfl,Nat.le_refl _,by omega,fun h=>absurd h (by simp)⟩)
 obtain rfl:=os hb
 refine Wc.ret (hKR _ _ ?_)
 refine ⟨_,res2 results9 ⟨_,rfl,qai (hC.bx (i:=1) rfl) isAgg37 sizeOf37⟩ (tV (iv 1) rfl),_,rfl,none,0,0,rfl,(show I64 1 from by unfold I64; omega),hC.sE [0]⟩
 replace hb:=tf hq15 hb
 refine Wc.skip (hK10 _ _ ?_)
 refine Wc.seqJ (fun E wv=>E 1=pg g4∧E 2=pg g7∧E 3=iv 0∧Cx (fun _=>False) O0 w wv [.box g4 32 [.slice d c.length f,.slice o l.length p,iv g],.ro (.sl si) [.slice d c.length f] c,.ro (.sl si) [.slice o l.length p] l,.box g7 37 [.bool false,.slice none 0 0]]∧F.qgf n c l g=some r) (fun _ hK19=>?_) ?_
 refine Wc.seq fun _ hK20=>rg<|lp (.pointer (some ((⟨g4,0,none⟩:Addr).add 0))) (qaf (sz:=1) underlying32 rfl sizeOf22 (by decide) rfl rfl)<|lv (.slice d c.length f) (qal (hC.bx (i:=1) rfl) isAgg22 rfl rfl)<|lp (iv (c.length:Int)) (qay (A:=d) (n:=c.length) (m:=f) underlying22 rfl)<|lp (.bool (decide ((c.length:Int)=0))) (qbl (k:=.i64) (a:=(c.length:Int)) (b:=0) rfl rfl)<|lp (.bool (decide ((c.length:Int)=0))) (qaa rfl) ?_
 rcases bS (decide ((c.length:Int)=0)) with hq21 | hq21
 replace hb:=tt hq21 hb
 refine gp rfl rfl (decide ((c.length:Int)=0)) rfl hq21 (.pointer (some ((⟨g4,0,none⟩:Addr).add 2))) (qaf (sz:=1) underlying32 rfl sizeOf3 (by decide) rfl rfl)<|gv rfl rfl (decide ((c.length:Int)=0)) rfl hq21 (iv g) (qal (hC.bx (i:=1) rfl) isAgg3 rfl rfl)<|gp rfl rfl (decide ((c.length:Int)=0)) rfl hq21 (.bool (decide (g=0))) (qbl (k:=.i64) (a:=g) (b:=0) rfl rfl)<|lp (.bool (decide (g=0))) (qap (q:=(decide ((c.length:Int)=0))) rfl hq21 rfl)<|ln (hK20 _ _ ?_)
 refine Wc.fresh fun E22 hE=>?_
 have e1:E22 1=pg g4:=cg hE 1 rfl
 have e2:E22 2=pg g7:=cg hE 2 rfl
 have e3:E22 3=iv 0:=cg hE 3 rfl
 have e20:E22 20=.bool (decide (g=0)):=cg hE 20 rfl
 clear hE
 refine Wc.cond (t:=(decide (g=0))) (e20) (fun hq23=>?_) (fun hq23=>?_)
 replace hb:=tt hq23 hb
 refine Wc.seq fun _ hK24=>rg<|lp (.agg #[.bool false,.slice none 0 0]) (qat (places:=[(0,1),(1,1)]) (pv:=[]) type37 underlying37 rfl (qag type4 (qag type35 qbb rfl rfl) rfl rfl) rfl (by simp [Instr.fill,Value.cells]))<|lex.sk (hC.seta (i:=0) (ds:=[.bool false,.slice none 0 0]) rfl type37 rfl rfl rfl e2 rfl) ?_
 rintro w25 ⟨hC,hF⟩
 refine lp (iv 8) (qab rfl)<|ln (hK24 _ _ ?_)
 replace hC:=hC.ro (show Rep _ _ (.sl (.pr si (.pr si si))) [.slice none 0 0] [] from ⟨none,0,rfl,Nat.le_refl _,by omega,fun h=>absurd h (by simp)⟩)
 obtain rfl:=os hb
 refine Wc.ret (hKR _ _ ?_)
 refine ⟨_,res2 results9 ⟨_,e2,qai (hC.bx (i:=1) rfl) isAgg37 sizeOf37⟩ (tV (iv 8) rfl),_,rfl,none,0,0,rfl,(show I64 8 from by unfold I64; omega),hC.sE [0]⟩
 replace hb:=tf hq23 hb
 refine Wc.skip ?_
 exact hK19 _ _ ⟨e1,e2,e3,hC.sE [1,3,2,0],hb⟩
 replace hb:=tf hq21 hb
 refine gs rfl rfl (decide ((c.length:Int)=0)) rfl hq21<|gs rfl rfl (decide ((c.length:Int)=0)) rfl hq21<|gs rfl rfl (decide ((c.length:Int)=0)) rfl hq21<|lp (.bool false) (qak (q:=(decide ((c.length:Int)=0))) rfl hq21 rfl)<|ln (hK20 _ _ ?_)
 refine Wc.fresh fun E27 hE=>?_
 have e1:E27 1=pg g4:=cg hE 1 rfl
 have e2:E27 2=pg g7:=cg hE 2 rfl
 have e3:E27 3=iv 0:=cg hE 3 rfl
 have e20:E27 20=.bool false:=cg hE 20 rfl
 clear hE
 refine Wc.cond_false (e20) ?_
 refine Wc.skip ?_
 exact hK19 _ _ ⟨e1,e2,e3,hC.sE [1,3,2,0],hb⟩
 clear hb hC
 rintro E29 w28 ⟨e1,e2,e3,hC,hb⟩
 unfold F.qgf at hb
 refine Wc.seq fun _ hK30=>?_
 refine Wc.seq fun _ hK31=>rg<|lp (.pointer (some ((⟨g4,0,none⟩:Addr).add 0))) (qaf (sz:=1) underlying32 rfl sizeOf22 (by decide) rfl e1)<|lv (.slice d c.length f) (qal (hC.bx (i:=0) rfl) isAgg22 rfl rfl)<|lp (iv (c.length:Int)) (qay (A:=d) (n:=c.length) (m:=f) underlying22 rfl)<|lp (.bool (decide (14<(c.length:Int)))) (qfq (k:=.i64) (a:=(c.length:Int)) (b:=14) rfl rfl)<|ln (hK31 _ _ ?_)
 refine Wc.cond (t:=(decide (14<(c.length:Int)))) (rfl) (fun hq32=>?_) (fun hq32=>?_)
 replace hb:=tt hq32 hb
 refine Wc.seq fun _ hK33=>rg<|lp (.agg #[.bool false,.slice none 0 0]) (qat (places:=[(0,1),(1,1)]) (pv:=[]) type37 underlying37 rfl (qag type4 (qag type35 qbb rfl rfl) rfl rfl) rfl (by simp [Instr.fill,Value.cells]))<|lex.sk (hC.seta (i:=3) (ds:=[.bool false,.slice none 0 0]) rfl type37 rfl rfl rfl e2 rfl) ?_
 rintro w34 ⟨hC,hF⟩
 refine lp (iv 5) (qab rfl)<|ln (hK33 _ _ ?_)
 replace hC:=hC.ro (show Rep _ _ (.sl (.pr si (.pr si si))) [.slice none 0 0] [] from ⟨none,0,rfl,Nat.le_refl _,by omega,fun h=>absurd h (by simp)⟩)
 obtain rfl:=os hb
 refine Wc.ret (hKR _ _ ?_)
 refine ⟨_,res2 results9 ⟨_,e2,qai (hC.bx (i:=4) rfl) isAgg37 sizeOf37⟩ (tV (iv 5) rfl),_,rfl,none,0,0,rfl,(show I64 5 from by unfold I64; omega),hC.sE [0]⟩
 replace hb:=tf hq32 hb
 refine Wc.skip (hK30 _ _ ?_)
 refine Wc.seq fun _ hK36=>rg<|lex.op (hC.mkmp .int (.pr .bool (.sl (.pr si (.pr si si))))) ?_
 rintro _ w38 ⟨g37,rfl,hC,-,-⟩
 refine lex.op (hC.alloc (cs:=[.map none]) zeroValue56 rfl) ?_
 rintro _ w41 ⟨g40,rfl,hC,hF,-⟩
 refine lex.sk (hC.setf (i:=0) (k:=0) (v:=.map (some g37)) rfl sizeOf56 rfl (by rw [Addr.add_zero']; exact rfl) rfl rfl) ?_
 rintro w43 ⟨hC,hF⟩
 refine ln (hK36 _ _ ?_)
 refine Wc.seq fun _ hK44=>rg<|lex.op (hC.alloc (cs:=[.bool false]) zeroValue4 rfl) ?_
 rintro _ w46 ⟨g45,rfl,hC,hF,-⟩
 refine lex.sk (hC.setf (i:=0) (k:=0) (v:=.bool true) rfl sizeOf4 rfl (by rw [Addr.add_zero']; exact rfl) rfl rfl) ?_
 rintro w48 ⟨hC,hF⟩
 refine ln (hK44 _ _ ?_)
 refine Wc.seq fun _ hK49=>rg<|lex.op (hC.alloc (cs:=[.nilFunc]) zeroValue57 rfl) ?_
 rintro _ w51 ⟨g50,rfl,hC,hF,-⟩
 refine ln (hK49 _ _ ?_)
 refine Wc.seq fun _ hK53=>rg<|lp (.func (.func 19) #[] #[pg g45,pg g50,pg g40]) (qga rfl)<|lex.sk (hC.setf (i:=0) (k:=0) (v:=.func (.func 19) #[] #[pg g45,pg g50,pg g40]) rfl sizeOf57 rfl (by rw [Addr.add_zero']; exact rfl) rfl rfl) ?_
 rintro w54 ⟨hC,hF⟩
 refine ln (hK53 _ _ ?_)
 refine Wc.seq fun _ hK55=>rg<|lv (.func (.func 19) #[] #[pg g45,pg g50,pg g40]) (qaw isAgg57 rfl ((hC.bx (i:=0) rfl).cell (j:=0) rfl))<|lv (.agg #[.slice d c.length f,.slice o l.length p,iv g]) (qaq (hC.bx (i:=4) rfl) isAgg32 sizeOf32 e1) ?_
 replace hC:Cx (fun _=>False) O0 w w54 ([.mp g37 .int (.pr .bool (.sl (.pr si (.pr si si)))) ([]:List (Int×(Bool×(List (Int×(Int×Int)))))),.box g45 4 [.bool true],.box g50 57 [.func (.func 19) #[] #[pg g45,pg g50,pg g40]],.box g40 56 [.map (some g37)]]++[.box g4 32 [.slice d c.length f,.slice o l.length p,iv g],.ro (.sl si) [.slice d c.length f] c,.ro (.sl si) [.slice o l.length p] l,.box g7 37 [.bool false,.slice none 0 0]]):=hC.sE [3,1,0,2,4,5,6,7]
 obtain ⟨y56,h57,hb⟩:=bd hb
 refine lex.cl (⟨_,_,qco (vs:=[.agg #[.slice d c.length f,.slice o l.length p,iv g],pg g45,pg g50,pg g40]) (ca:=#[pg g45,pg g50,pg g40]) call19 rfl rfl rfl,homfly_Poly_c1_ok n hC.lt (hC.rd (i:=5) rfl) (hC.rd (i:=6) rfl) z hC.give h57⟩) ?_
 rintro _ w62 ⟨A58,m59,c60,rfl,hK⟩
 replace hC:=hC.back hK
 clear hK
 obtain ⟨rfl,hl63,hc64⟩:=(hC.rd (i:=0) rfl).qae
 refine lex.op (hC.alloc (cs:=[.bool false,.slice none 0 0]) zeroValue37 rfl) ?_
 rintro _ w66 ⟨g65,rfl,hC,hF,-⟩
 refine lex.sk (hC.seta (i:=0) (ds:=[.bool y56.1,.slice A58 y56.2.1.length c60]) rfl type37 rfl rfl rfl rfl rfl) ?_
 rintro w68 ⟨hC,hF⟩
 refine ln (hK55 _ _ ?_)
 refine Wc.fresh fun E69 hE=>?_
 have e2:=cg hE 2 e2
 have e3:=cg hE 3 e3
 have e5:E69 5=pg g45:=cg hE 5 rfl
 have e7:E69 7=pg g65:=cg hE 7 rfl
 clear hE
 refine Wc.seq fun _ hK70=>?_
 refine Wc.seq fun _ hK71=>rg<|lv (.bool y56.2.2.2) (qaw isAgg4 e5 ((hC.bx (i:=3) rfl).cell (j:=0) rfl))<|lp (.bool (!y56.2.2.2)) (qbt (q:=y56.2.2.2) rfl)<|ln (hK71 _ _ ?_)
 refine Wc.cond (t:=(!y56.2.2.2)) (rfl) (fun hq72=>?_) (fun hq72=>?_)
 replace hb:=tt hq72 hb
 refine Wc.seq fun _ hK73=>rg<|lp (.agg #[.bool false,.slice none 0 0]) (qat (places:=[(0,1),(1,1)]) (pv:=[]) type37 underlying37 rfl (qag type4 (qag type35 qbb rfl rfl) rfl rfl) rfl (by simp [Instr.fill,Value.cells]))<|lex.sk (hC.seta (i:=9) (ds:=[.bool false,.slice none 0 0]) rfl type37 rfl rfl rfl e2 rfl) ?_
 rintro w74 ⟨hC,hF⟩
 refine lp (iv 9) (qab rfl)<|ln (hK73 _ _ ?_)
 replace hC:=hC.ro (show Rep _ _ (.sl (.pr si (.pr si si))) [.slice none 0 0] [] from ⟨none,0,rfl,Nat.le_refl _,by omega,fun h=>absurd h (by simp)⟩)
 obtain rfl:=os hb
 refine Wc.ret (hKR _ _ ?_)
 refine ⟨_,res2 results9 ⟨_,e2,qai (hC.bx (i:=10) rfl) isAgg37 sizeOf37⟩ (tV (iv 9) rfl),_,rfl,none,0,0,rfl,(show I64 9 from by unfold I64; omega),hC.sE [0]⟩
 replace hb:=tf hq72 hb
 refine Wc.skip (hK70 _ _ ?_)
 refine Wc.seq fun _ hK76=>rg<|lv (.agg #[.bool y56.1,.slice A58 y56.2.1.length c60]) (qaq (hC.bx (i:=0) rfl) isAgg37 sizeOf37 e7)<|lex.sk (hC.seta (i:=9) (ds:=[.bool y56.1,.slice A58 y56.2.1.length c60]) rfl type37 rfl rfl rfl e2 rfl) ?_
 rintro w77 ⟨hC,hF⟩
 refine lp (iv 0) (qab rfl)<|ln (hK76 _ _ ?_)
 obtain rfl:=os hb
 refine Wc.ret (hKR _ _ ?_)
 refine ⟨_,res2 results9 ⟨_,e2,qai (hC.bx (i:=9) rfl) isAgg37 sizeOf37⟩ (tV (iv 0) rfl),_,rfl,A58,y56.2.1.length,c60,rfl,(show I64 0 from by unfold I64; omega),hC.sE [1]⟩

theorem slices_Equal_term_term_ok (n:Nat) {w:World} {O0:List Nat} (hO: ∀k∈O0,k<w.heap.size) {g:Option Addr} {q h:Nat} {d:List (Int×(Int×Int))} (s:Rep O0 w (.sl (.pr si (.pr si si))) [.slice g q h] d) {l:Option Addr} {x o:Nat} {f:List (Int×(Int×Int))} (y:Rep O0 w (.sl (.pr si (.pr si si))) [.slice l x o] f) {r:Bool} (hb:F.qfp n d f=some r):
    Calls prog 26 #[.slice g q h,.slice l x o] w fun e w'=> ∃v,e=.returned v∧v=.bool r∧Cx (fun _=>False) O0 w w' []:=by
 unfold F.qfp at hb
 have hC:=Cx.start hO
 replace hC:=hC.arg rfl s
 replace hC:=hC.arg rfl y
 clear hO
 obtain ⟨rfl,z,B⟩:=s.qae
 obtain ⟨rfl,C,D⟩:=y.qae
 refine qao func26 rfl (by rw [ntmps26]; exact nb rfl) fun KR hKR=>?_
 refine Wc.seq fun _ hK3=>rg<|lp (.bool false) (qab rfl)<|ln (hK3 _ _ ?_)
 refine Wc.seq fun _ hK4=>?_
 refine Wc.seq fun _ hK5=>rg<|lp (.slice g d.length h) (qaa rfl)<|lp (iv (d.length:Int)) (qay (A:=g) (n:=d.length) (m:=h) underlying35 rfl)<|lp (.slice l f.length o) (qaa rfl)<|lp (iv (f.length:Int)) (qay (A:=l) (n:=f.length) (m:=o) underlying35 rfl)<|lp (.bool (!(decide ((d.length:Int)=(f.length:Int))))) (pu_neq (k:=.i64) (a:=(d.length:Int)) (b:=(f.length:Int)) rfl rfl)<|ln (hK5 _ _ ?_)
 refine Wc.cond (t:=(!(decide ((d.length:Int)=(f.length:Int))))) (rfl) (fun hq6=>?_) (fun hq6=>?_)
 replace hb:=tt hq6 hb
 refine Wc.seq fun _ hK7=>rg<|lp (.bool false) (qab rfl)<|ln (hK7 _ _ ?_)
 obtain rfl:=os hb
 refine Wc.ret (hKR _ _ ?_)
 refine ⟨_,res1 results26 (tV (.bool false) rfl),_,rfl,rfl,hC.sE []⟩
 replace hb:=tf hq6 hb
 refine Wc.skip (hK4 _ _ ?_)
 refine Wc.seq fun _ hK8=>?_
 refine Wc.seq fun _ hK9=>rg<|lp (.slice g d.length h) (qaa rfl)<|lp (iv (d.length:Int)) (qay (A:=g) (n:=d.length) (m:=h) underlying35 rfl)<|lp (iv 0) (qaa rfl)<|ln (hK9 _ _ ?_)
 obtain ⟨o10,hl0,hb⟩:=bd hb
 refine Wc.cut (fun E wv=> ∃(c:Int),E 4=.bool false∧I64 c∧Cx (fun _=>False) O0 w wv []∧(some true:Option (Bool))=some r) (fun _ hK11=>?_) ?_
 refine Wc.block ?_
 refine Wc.loop (fun m E wv=> ∃(c:Int),E 0=.slice g d.length h∧E 1=.slice l f.length o∧E 4=.bool false∧E 12=iv (d.length:Int)∧E 13=iv c∧I64 c∧Cx (fun _=>False) O0 w wv [.ro (.sl (.pr si (.pr si si))) [.slice g d.length h] d,.ro (.sl (.pr si (.pr si si))) [.slice l f.length o] f]∧loopN m (F.qcp n d f) c=some o10) n ⟨0,rfl,rfl,rfl,rfl,rfl,(show I64 0 from by unfold I64; omega),hC.sE [1,0],hl0⟩ ?_
 have hbK0:=hb
 clear hb hC hl0
 rintro m13 E15 w14 ⟨c,e0,e1,e4,e12,e13,p,hC,hl0⟩ K12 hK12
 obtain ⟨m13',o16,rfl,hb,hl0⟩:=qax hl0
 unfold F.qcp at hb
 refine Wc.seq fun _ hK17=>rg<|lp _ (qbj e13 e12)<|ln (hK17 _ _ ?_)
 refine Wc.seq fun _ hK18=>?_
 refine Wc.cond (t:=(decide (c<(d.length:Int)))) (rfl) (fun hq19=>?_) (fun hq19=>?_)
 replace hb:=tt hq19 hb
 refine Wc.skip (hK18 _ _ ?_)
 refine Wc.seq fun _ hK20=>?_
 refine Wc.block<|Wc.seq fun _ hK21=>rg<|lp _ (qaa e13)<|lp (iv c) (qab rfl)<|ln (hK21 _ _ ?_)
 refine Wc.seq fun _ hK22=>?_
 refine Wc.regionMix [] (frm [] ([]:List Fact) ([]:List Fact)) (fun _=>rfl) mixed (by decide+kernel) (by decide+kernel) fun w24 hw23=>?_
 replace hC:=hC.step (Fr.qcx hw23)
 have hM:=Fr.refl (fun k=>k∈blocks ([]:List Fact)) w24
 clear hw23
 have hS:=hC
 refine mp (.slice g d.length h) (qaa e0)<|mp (iv c) (qaa rfl) ?_
 obtain ⟨x25,h26,hb⟩:=bd hb
 obtain ⟨ad27,cs28,hA,ho31,hc29,hr30⟩:=hS.elr2 (i:=0) rfl (qad h26).2 []
 subst hA
 refine mp (.pointer (some (ad27.add (c.toNat*3)))) (qar (a:=c) underlying35 sizeOf66 rfl rfl (qad h26).1) ?_
 obtain ⟨k32,k33,rfl,hr34,hr35⟩:=hr30
 obtain ⟨rfl,hr34⟩:=hr34
 obtain ⟨k36,k37,rfl,hr38,hr39⟩:=hr35
 obtain ⟨rfl,hr38⟩:=hr38
 obtain ⟨rfl,hr39⟩:=hr39
 refine mixE.load hM (v:=.agg #[iv x25.1,iv x25.2.1,iv x25.2.2]) (fun _ hF=>ld_agg isAgg66 sizeOf66 rfl rfl (fun j u hu=>hF.cell (hc29 j u hu) (off2 ho31)))<|mp (.slice l f.length o) (qaa e1)<|mp (iv c) (qaa rfl) ?_
 obtain ⟨x40,h41,hb⟩:=bd hb
 obtain ⟨ad42,cs43,hA,ho46,hc44,hr45⟩:=hS.elr2 (i:=1) rfl (qad h41).2 []
 subst hA
 refine mp (.pointer (some (ad42.add (c.toNat*3)))) (qar (a:=c) underlying35 sizeOf66 rfl rfl (qad h41).1) ?_
 obtain ⟨k47,k48,rfl,hr49,hr50⟩:=hr45
 obtain ⟨rfl,hr49⟩:=hr49
 obtain ⟨k51,k52,rfl,hr53,hr54⟩:=hr50
 obtain ⟨rfl,hr53⟩:=hr53
 obtain ⟨rfl,hr54⟩:=hr54
 refine mixE.load hM (v:=.agg #[iv x40.1,iv x40.2.1,iv x40.2.2]) (fun _ hF=>ld_agg isAgg66 sizeOf66 rfl rfl (fun j u hu=>hF.cell (hc44 j u hu) (off2 ho46)))<|mp (.bool (!(decide (x25.1=x40.1)&&(decide (x25.2.1=x40.2.1)&&(decide (x25.2.2=x40.2.2)&&true))))) (pu_neqs underlying66 (by kernel_rfl) (by kernel_rfl) rfl rfl (eqF_cons (by decide) underlying3 isAgg3 rfl rfl (eqF_cons (by decide) underlying3 isAgg3 rfl rfl (eqF_cons (by decide) underlying3 isAgg3 rfl rfl eqF_nil))))<|mixE.nil ?_
 clear hS hM
 refine hK22 _ _<|Wc.cond (t:=(!(decide (x25.1=x40.1)&&(decide (x25.2.1=x40.2.1)&&(decide (x25.2.2=x40.2.2)&&true))))) (rfl) (fun hq55=>?_) (fun hq55=>?_)
 replace hb:=tt hq55 hb
 refine Wc.seq fun _ hK56=>rg<|lp (.bool false) (qab rfl)<|ln (hK56 _ _ ?_)
 obtain rfl:=os hb
 obtain rfl:=(lX hl0).symm
 replace hb:=hbK0
 obtain rfl:=os hb
 refine Wc.ret (hKR _ _ ?_)
 refine ⟨_,res1 results26 (tV (.bool false) rfl),_,rfl,rfl,hC.sE []⟩
 replace hb:=tf hq55 hb
 refine Wc.skip (hK20 _ _ ?_)
 refine rg ?_
 obtain ⟨z57,h58,hb⟩:=bd hb
 refine lp (iv z57) (qau (a:=c) (b:=1) e13 rfl h58)<|lp (iv z57) (qaa rfl)<|ln ?_
 obtain rfl:=os hb
 exact hK12 m13' _ _ (Nat.lt_succ_self _) ⟨z57,e0,e1,e4,e12,rfl,(qah h58),hC.sE [0,1],lN hl0⟩
 replace hb:=tf hq19 hb
 refine Wc.exit rfl ?_
 obtain rfl:=os hb
 obtain rfl:=(lX hl0).symm
 exact hK11 _ _ ⟨c,e4,p,hC.sE [],hbK0⟩
 clear hb hC hl0
 rintro E60 w59 ⟨c,e4,p,hC,hb⟩
 refine hK8 _ _<|Wc.seq fun _ hK61=>rg<|lp (.bool true) (qab rfl)<|ln (hK61 _ _ ?_)
 obtain rfl:=os hb
 refine Wc.ret (hKR _ _ ?_)
 refine ⟨_,res1 results26 (tV (.bool true) rfl),_,rfl,rfl,hC.sE []⟩

theorem qgp (n:Nat) {w:World} {O0:List Nat} (hO: ∀k∈O0,k<w.heap.size) {a:Bool} {c:Option Addr} {l d:Nat} {h:List (Int×(Int×Int))} (m:Rep O0 w (.sl (.pr si (.pr si si))) [.slice c l d] h) {b:Bool} {f:Option Addr} {o g:Nat} {j:List (Int×(Int×Int))} (s:Rep O0 w (.sl (.pr si (.pr si si))) [.slice f o g] j) {r:Bool} (hb:F.qev n a h b j=some r):
    Calls prog 10 #[.agg #[.bool a,.slice c l d],.agg #[.bool b,.slice f o g]] w fun e w'=> ∃v,e=.returned v∧v=.bool r∧Cx (fun _=>False) O0 w w' []:=by
 unfold F.qev at hb
 have hC:=Cx.start hO
 replace hC:=hC.arg rfl m
 replace hC:=hC.arg rfl s
 clear hO
 obtain ⟨rfl,t,u⟩:=m.qae
 obtain ⟨rfl,x,y⟩:=s.qae
 refine qao func10 rfl (by rw [ntmps10]; exact nb rfl) fun KR hKR=>?_
 refine Wc.seq fun _ hK3=>rg<|lex.op (hC.box (cs:=[.bool a,.slice c h.length d]) rfl rfl) ?_
 rintro _ w5 ⟨g4,rfl,hC,hF,-⟩
 refine lex.op (hC.box (cs:=[.bool b,.slice f j.length g]) rfl rfl) ?_
 rintro _ w8 ⟨g7,rfl,hC,hF,-⟩
 refine lp (.bool false) (qab rfl)<|ln (hK3 _ _ ?_)
 refine Wc.seq fun _ hK10=>rg<|lp (.pointer (some ((⟨g4,0,none⟩:Addr).add 0))) (qaf (sz:=1) underlying37 rfl sizeOf4 (by decide) rfl rfl)<|lv (.bool a) (qal (hC.bx (i:=1) rfl) isAgg4 rfl rfl)<|lp (.pointer (some ((⟨g7,0,none⟩:Addr).add 0))) (qaf (sz:=1) underlying37 rfl sizeOf4 (by decide) rfl rfl)<|lv (.bool b) (qal (hC.bx (i:=0) rfl) isAgg4 rfl rfl)<|lp (.bool (a == b)) (pu_eqlb (p:=a) (q:=b) underlying4 rfl rfl)<|lp (.bool (a == b)) (qaa rfl) ?_
 rcases bS (a == b) with hq11 | hq11
 replace hb:=tt hq11 hb
 refine gp rfl rfl (a == b) rfl hq11 (.pointer (some ((⟨g4,0,none⟩:Addr).add 1))) (qaf (sz:=1) underlying37 rfl sizeOf35 (by decide) rfl rfl)<|gv rfl rfl (a == b) rfl hq11 (.slice c h.length d) (qal (hC.bx (i:=1) rfl) isAgg35 rfl rfl)<|gp rfl rfl (a == b) rfl hq11 (.pointer (some ((⟨g7,0,none⟩:Addr).add 1))) (qaf (sz:=1) underlying37 rfl sizeOf35 (by decide) rfl rfl)<|gv rfl rfl (a == b) rfl hq11 (.slice f j.length g) (qal (hC.bx (i:=0) rfl) isAgg35 rfl rfl) ?_
 obtain ⟨y12,h13,hb⟩:=bd hb
 refine lex.gcl (qdp rfl rfl (show _=Value.bool (a == b) from rfl) hq11) (⟨_,_,qam (vs:=[.slice c h.length d,.slice f j.length g]) call26 rfl rfl rfl,slices_Equal_term_term_ok n hC.lt (hC.rd (i:=3) rfl) (hC.rd (i:=2) rfl) h13⟩) ?_
 rintro _ w14 ⟨rfl,hK⟩
 replace hC:=hC.merge hK
 clear hK
 refine lp (.bool y12) (qap (q:=(a == b)) rfl hq11 rfl)<|lp (.bool y12) (qab rfl)<|ln (hK10 _ _ ?_)
 obtain rfl:=os hb
 refine Wc.ret (hKR _ _ ?_)
 refine ⟨_,res1 results10 (tV (.bool y12) rfl),_,rfl,rfl,hC.sE []⟩
 replace hb:=tf hq11 hb
 refine gs rfl rfl (a == b) rfl hq11<|gs rfl rfl (a == b) rfl hq11<|gs rfl rfl (a == b) rfl hq11<|gs rfl rfl (a == b) rfl hq11<|gs rfl rfl (a == b) rfl hq11<|lp (.bool false) (qak (q:=(a == b)) rfl hq11 rfl)<|lp (.bool false) (qab rfl)<|ln (hK10 _ _ ?_)
 obtain rfl:=os hb
 refine Wc.ret (hKR _ _ ?_)
 refine ⟨_,res1 results10 (tV (.bool false) rfl),_,rfl,rfl,hC.sE []⟩
