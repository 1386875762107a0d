import Derived.Test.YticemffhlapnnaaS
set_option linter.all false
namespace Go.Proofs.Yticemffhlapnnaa
open Ev Try
set_option maxRecDepth 100000
set_option maxHeartbeats 4000000
theorem grid_permutation_ok (n:Nat) {w:World} {O0:List Nat} (hO: ∀k∈O0,k<w.heap.size) {h:Option Addr} {l f:Nat} {c:List Int} (o:Rep O0 w (.sl si) [.slice h l f] c) {r:Bool} (hb:F.qdc n c=some r):
    Calls prog 50 #[.slice h l f] w fun e w'=> ∃v,e=.returned v∧v=.bool r∧Cx (fun _=>False) O0 w w' []:=by
 unfold F.qdc at hb
 have hC:=Cx.start hO
 replace hC:=hC.arg rfl o
 clear hO
 obtain ⟨rfl,p,u⟩:=o.qad
 refine qaq func50 rfl (by rw [ntmps50]; exact nb rfl) fun KR hKR=>?_
 refine Wc.seq fun _ hK2=>rg<|lp (.bool false) (qab rfl)<|ln (hK2 _ _ ?_)
 refine Wc.seq fun _ hK3=>rg<|lp (.slice h c.length f) (qaa rfl)<|lp (iv (c.length:Int)) (qao (A:=h) (n:=c.length) (m:=f) underlying22 rfl) ?_
 obtain ⟨u4,h5,hb⟩:=bd hb
 refine lex.op (hC.make (s:=.bool) (n:=(c.length:Int)) underlying55 type4 rfl rfl rfl rfl rfl (qah h5).1 (qah h5).2 (by decide)) ?_
 rintro _ w10 ⟨A6,c7,rfl,hl8,hc9,hC,-,-⟩
 refine lp (.slice A6 (((List.replicate (c.length:Int).toNat false)).length) c7) (qab rfl)<|ln (hK3 _ _ ?_)
 refine Wc.seq fun _ hK12=>?_
 refine Wc.seq fun _ hK13=>rg<|lp (.slice h c.length f) (qaa rfl)<|lp (iv (c.length:Int)) (qao (A:=h) (n:=c.length) (m:=f) underlying22 rfl)<|lp (iv 0) (qaa rfl)<|ln (hK13 _ _ ?_)
 obtain ⟨o14,hl0,hb⟩:=bd hb
 refine Wc.cut (fun E wv=> ∃(d:Int) (g:List Bool),E 2=.bool false∧I64 d∧Cx (fun _=>False) O0 w wv []∧(some true:Option (Bool))=some r) (fun _ hK15=>?_) ?_
 refine Wc.block ?_
 refine Wc.loop (fun m E wv=> ∃(d:Int) (g:List Bool),E 0=.slice h c.length f∧E 2=.bool false∧E 3=.slice A6 (((List.replicate (c.length:Int).toNat false)).length) c7∧E 9=.slice h c.length f∧E 10=iv (c.length:Int)∧E 11=iv d∧I64 d∧Cx (fun _=>False) O0 w wv [.ro (.sl si) [.slice h c.length f] c,.own 4 .bool (.slice A6 (((List.replicate (c.length:Int).toNat false)).length) c7) g]∧loopN m (F.qeo n c) (d,g)=some o14) n ⟨0,(List.replicate (c.length:Int).toNat false),rfl,rfl,rfl,rfl,rfl,rfl,(show I64 0 from by unfold I64; omega),hC.sE [1,0],hl0⟩ ?_
 have hbK0:=hb
 clear hb hC hl0
 rintro m17 E19 w18 ⟨d,g,e0,e2,e3,e9,e10,e11,j,hC,hl0⟩ K16 hK16
 obtain ⟨m17',o20,rfl,hb,hl0⟩:=qan hl0
 unfold F.qeo at hb
 refine Wc.seq fun _ hK21=>rg<|lp _ (qap e11 e10)<|ln (hK21 _ _ ?_)
 refine Wc.seq fun _ hK22=>?_
 refine Wc.cond (t:=(decide (d<(c.length:Int)))) (rfl) (fun hq23=>?_) (fun hq23=>?_)
 replace hb:=tt hq23 hb
 refine Wc.skip (hK22 _ _ ?_)
 refine Wc.seq fun _ hK24=>?_
 refine Wc.block<|Wc.seq fun _ hK25=>rg ?_
 obtain ⟨x26,h27,hb⟩:=bd hb
 obtain ⟨ad28,cs29,hA,hc30,hr31⟩:=hC.elr (i:=0) rfl (qac h27).2
 subst hA
 refine lp (.pointer (some (ad28.add (d.toNat*1)))) (qaf (a:=d) underlying22 sizeOf3 e9 e11 (qac h27).1) ?_
 obtain ⟨rfl,hr31'⟩:=hr31
 refine lv (iv x26) (qaj isAgg3 rfl (hc30 0 _ rfl))<|lp (iv x26) (qab rfl)<|ln (hK25 _ _ ?_)
 refine Wc.seq fun _ hK32=>?_
 refine Wc.seq fun _ hK33=>rg<|lp (iv x26) (qaa rfl)<|lp (.bool (decide (x26<0))) (qap (k:=.i64) (a:=x26) (b:=0) rfl rfl)<|lp (.bool (decide (x26<0))) (qaa rfl) ?_
 rcases bS (decide (x26<0)) with hq34 | hq34
 replace hb:=tt hq34 hb
 refine gs rfl rfl (decide (x26<0)) rfl hq34<|gs rfl rfl (decide (x26<0)) rfl hq34<|gs rfl rfl (decide (x26<0)) rfl hq34<|gs rfl rfl (decide (x26<0)) rfl hq34<|lp (.bool true) (qbg (q:=(decide (x26<0))) rfl hq34 rfl)<|lp (.bool true) (qaa rfl)<|gs rfl rfl true rfl rfl<|gs rfl rfl true rfl rfl<|gs rfl rfl true rfl rfl<|gs rfl rfl true rfl rfl<|lp (.bool true) (qbg (q:=true) rfl rfl rfl)<|ln (hK33 _ _ ?_)
 refine Wc.cond_true (rfl) ?_
 refine Wc.seq fun _ hK35=>rg<|lp (.bool false) (qab rfl)<|ln (hK35 _ _ ?_)
 obtain rfl:=os hb
 obtain rfl:=(lX hl0).symm
 replace hb:=hbK0
 obtain rfl:=os hb
 refine Wc.ret (hKR _ _ ?_)
 refine ⟨_,res1 results50 (tV (.bool false) rfl),_,rfl,rfl,hC.sE []⟩
 replace hb:=tf hq34 hb
 refine gp rfl rfl (decide (x26<0)) rfl hq34 (iv x26) (qaa rfl)<|gp rfl rfl (decide (x26<0)) rfl hq34 (.slice (some ad28) c.length f) (qaa e0)<|gp rfl rfl (decide (x26<0)) rfl hq34 (iv (c.length:Int)) (qao (A:=(some ad28)) (n:=c.length) (m:=f) underlying22 rfl)<|gp rfl rfl (decide (x26<0)) rfl hq34 (.bool (decide ((c.length:Int)≤x26))) (pu_geq (k:=.i64) (a:=x26) (b:=(c.length:Int)) rfl rfl)<|lp (.bool (decide ((c.length:Int)≤x26))) (qbc (q:=(decide (x26<0))) rfl hq34 rfl)<|lp (.bool (decide ((c.length:Int)≤x26))) (qaa rfl) ?_
 rcases bS (decide ((c.length:Int)≤x26)) with hq36 | hq36
 replace hb:=tt hq36 hb
 refine gs rfl rfl (decide ((c.length:Int)≤x26)) rfl hq36<|gs rfl rfl (decide ((c.length:Int)≤x26)) rfl hq36<|gs rfl rfl (decide ((c.length:Int)≤x26)) rfl hq36<|gs rfl rfl (decide ((c.length:Int)≤x26)) rfl hq36<|lp (.bool true) (qbg (q:=(decide ((c.length:Int)≤x26))) rfl hq36 rfl)<|ln (hK33 _ _ ?_)
 refine Wc.cond_true (rfl) ?_
 refine Wc.seq fun _ hK37=>rg<|lp (.bool false) (qab rfl)<|ln (hK37 _ _ ?_)
 obtain rfl:=os hb
 obtain rfl:=(lX hl0).symm
 replace hb:=hbK0
 obtain rfl:=os hb
 refine Wc.ret (hKR _ _ ?_)
 refine ⟨_,res1 results50 (tV (.bool false) rfl),_,rfl,rfl,hC.sE []⟩
 replace hb:=tf hq36 hb
 refine gp rfl rfl (decide ((c.length:Int)≤x26)) rfl hq36 (.slice A6 (((List.replicate (c.length:Int).toNat false)).length) c7) (qaa e3)<|gp rfl rfl (decide ((c.length:Int)≤x26)) rfl hq36 (iv x26) (qaa rfl) ?_
 obtain ⟨x38,h39,hb⟩:=bd hb
 obtain ⟨ad40,cs41,hA,hc42,hr43⟩:=hC.elo (i:=1) rfl (qac h39).2
 subst hA
 refine gp rfl rfl (decide ((c.length:Int)≤x26)) rfl hq36 (.pointer (some (ad40.add (x26.toNat*1)))) (qaf (a:=x26) underlying55 sizeOf4 rfl rfl (by rw [(hC.ow (i:=1) rfl).qad.1]; exact (qac h39).1)) ?_
 obtain rfl:=(show _=_ from hr43)
 refine gv rfl rfl (decide ((c.length:Int)≤x26)) rfl hq36 (.bool x38) (qaj isAgg4 rfl (hc42 0 _ rfl))<|lp (.bool x38) (qbc (q:=(decide ((c.length:Int)≤x26))) rfl hq36 rfl)<|ln (hK33 _ _ ?_)
 refine Wc.cond (t:=x38) (rfl) (fun hq44=>?_) (fun hq44=>?_)
 replace hb:=tt hq44 hb
 refine Wc.seq fun _ hK45=>rg<|lp (.bool false) (qab rfl)<|ln (hK45 _ _ ?_)
 obtain rfl:=os hb
 obtain rfl:=(lX hl0).symm
 replace hb:=hbK0
 obtain rfl:=os hb
 refine Wc.ret (hKR _ _ ?_)
 refine ⟨_,res1 results50 (tV (.bool false) rfl),_,rfl,rfl,hC.sE []⟩
 replace hb:=tf hq44 hb
 refine Wc.skip (hK32 _ _ ?_)
 refine Wc.fresh fun E46 hE=>?_
 have e0:=cg hE 0 e0
 have e2:=cg hE 2 e2
 have e3:=cg hE 3 e3
 have e5:E46 5=iv x26:=cg hE 5 rfl
 have e9:=cg hE 9 e9
 have e10:=cg hE 10 e10
 have e11:=cg hE 11 e11
 have e12:E46 12=.bool (decide (d<(c.length:Int))):=cg hE 12 rfl
 have e28:E46 28=.bool x38:=cg hE 28 rfl
 clear hE
 refine rg<|lp _ (qaa e3)<|lp _ (qaa e5) ?_
 obtain ⟨x47,h48,hb⟩:=bd hb
 obtain ⟨ad49,cs50,hA,hc51,hr52⟩:=hC.elo (i:=1) rfl (qac h48).2
 obtain rfl:=Option.some.inj hA
 refine lp (.pointer (some (ad40.add (x26.toNat*1)))) (qaf (a:=x26) underlying55 sizeOf4 rfl rfl (by rw [(hC.ow (i:=1) rfl).qad.1]; exact (qac h48).1))<|lex.sk (hC.put (i:=1) rfl rfl sizeOf4 (k:=x26.toNat) (a:=true) (by have:=(qac h48).1; simp at this⊢; omega) (show Rep _ _ .bool _ _ from rfl) rfl rfl rfl) ?_
 rintro w53 ⟨hC,hF⟩
 refine ln (hK24 _ _ ?_)
 refine rg ?_
 obtain ⟨z54,h55,hb⟩:=bd hb
 refine lp (iv z54) (qal (a:=d) (b:=1) e11 rfl h55)<|lp (iv z54) (qaa rfl)<|ln ?_
 obtain rfl:=os hb
 exact hK16 m17' _ _ (Nat.lt_succ_self _) ⟨z54,(g.set x26.toNat true),e0,e2,e3,e9,e10,rfl,(qai h55),hC.sE [0,1],lN hl0⟩
 replace hb:=tf hq23 hb
 refine Wc.exit rfl ?_
 obtain rfl:=os hb
 obtain rfl:=(lX hl0).symm
 exact hK15 _ _ ⟨d,g,e2,j,hC.sE [],hbK0⟩
 clear hb hC hl0
 rintro E57 w56 ⟨d,g,e2,j,hC,hb⟩
 refine hK12 _ _<|Wc.seq fun _ hK58=>rg<|lp (.bool true) (qab rfl)<|ln (hK58 _ _ ?_)
 obtain rfl:=os hb
 refine Wc.ret (hKR _ _ ?_)
 refine ⟨_,res1 results50 (tV (.bool true) rfl),_,rfl,rfl,hC.sE []⟩

theorem grid_Valid_ok (n:Nat) {w:World} {O0:List Nat} (hO: ∀k∈O0,k<w.heap.size) {g:Option Addr} {p h:Nat} {c:List Int} (s:Rep O0 w (.sl si) [.slice g p h] c) {j:Option Addr} {u l:Nat} {d:List Int} (x:Rep O0 w (.sl si) [.slice j u l] d) {r:Bool} (hb:F.qge n c d=some r):
    Calls prog 26 #[.agg #[.slice g p h,.slice j u l]] w fun e w'=> ∃v,e=.returned v∧v=.bool r∧Cx (fun _=>False) O0 w w' []:=by
 unfold F.qge at hb
 have hC:=Cx.start hO
 replace hC:=hC.arg rfl s
 replace hC:=hC.arg rfl x
 clear hO
 obtain ⟨rfl,y,z⟩:=s.qad
 obtain ⟨rfl,B,C⟩:=x.qad
 refine qaq func26 rfl (by rw [ntmps26]; exact nb rfl) fun KR hKR=>?_
 refine Wc.seq fun _ hK3=>rg<|lex.op (hC.box (cs:=[.slice g c.length h,.slice j d.length l]) rfl rfl) ?_
 rintro _ w5 ⟨g4,rfl,hC,hF,-⟩
 refine lp (.bool false) (qab rfl)<|ln (hK3 _ _ ?_)
 refine Wc.seq fun _ hK7=>rg<|lp (.pointer (some ((⟨g4,0,none⟩:Addr).add 0))) (qag (sz:=1) underlying24 rfl sizeOf22 (by decide) rfl rfl)<|lv (.slice g c.length h) (qam (hC.bx (i:=0) rfl) isAgg22 rfl rfl)<|lp (iv (c.length:Int)) (qao (A:=g) (n:=c.length) (m:=h) underlying22 rfl)<|lp (iv (c.length:Int)) (qab rfl)<|ln (hK7 _ _ ?_)
 refine Wc.seq fun _ hK8=>?_
 refine Wc.seq fun _ hK9=>rg<|lp (iv (c.length:Int)) (qaa rfl)<|lp (.bool (decide ((c.length:Int)<2))) (qap (k:=.i64) (a:=(c.length:Int)) (b:=2) rfl rfl)<|lp (.bool (decide ((c.length:Int)<2))) (qaa rfl) ?_
 rcases bS (decide ((c.length:Int)<2)) with hq10 | hq10
 replace hb:=tt hq10 hb
 refine gs rfl rfl (decide ((c.length:Int)<2)) rfl hq10<|gs rfl rfl (decide ((c.length:Int)<2)) rfl hq10<|lp (.bool true) (qbg (q:=(decide ((c.length:Int)<2))) rfl hq10 rfl)<|lp (.bool true) (qaa rfl)<|gs rfl rfl true rfl rfl<|gs rfl rfl true rfl rfl<|gs rfl rfl true rfl rfl<|gs rfl rfl true rfl rfl<|gs rfl rfl true rfl rfl<|lp (.bool true) (qbg (q:=true) rfl rfl rfl)<|ln (hK9 _ _ ?_)
 refine Wc.cond_true (rfl) ?_
 refine Wc.seq fun _ hK11=>rg<|lp (.bool false) (qab rfl)<|ln (hK11 _ _ ?_)
 obtain rfl:=os hb
 refine Wc.ret (hKR _ _ ?_)
 refine ⟨_,res1 results26 (tV (.bool false) rfl),_,rfl,rfl,hC.sE []⟩
 replace hb:=tf hq10 hb
 refine gp rfl rfl (decide ((c.length:Int)<2)) rfl hq10 (iv (c.length:Int)) (qaa rfl)<|gp rfl rfl (decide ((c.length:Int)<2)) rfl hq10 (.bool (decide (40<(c.length:Int)))) (qed (k:=.i64) (a:=(c.length:Int)) (b:=40) rfl rfl)<|lp (.bool (decide (40<(c.length:Int)))) (qbc (q:=(decide ((c.length:Int)<2))) rfl hq10 rfl)<|lp (.bool (decide (40<(c.length:Int)))) (qaa rfl) ?_
 rcases bS (decide (40<(c.length:Int))) with hq12 | hq12
 replace hb:=tt hq12 hb
 refine gs rfl rfl (decide (40<(c.length:Int))) rfl hq12<|gs rfl rfl (decide (40<(c.length:Int))) rfl hq12<|gs rfl rfl (decide (40<(c.length:Int))) rfl hq12<|gs rfl rfl (decide (40<(c.length:Int))) rfl hq12<|gs rfl rfl (decide (40<(c.length:Int))) rfl hq12<|lp (.bool true) (qbg (q:=(decide (40<(c.length:Int)))) rfl hq12 rfl)<|ln (hK9 _ _ ?_)
 refine Wc.cond_true (rfl) ?_
 refine Wc.seq fun _ hK13=>rg<|lp (.bool false) (qab rfl)<|ln (hK13 _ _ ?_)
 obtain rfl:=os hb
 refine Wc.ret (hKR _ _ ?_)
 refine ⟨_,res1 results26 (tV (.bool false) rfl),_,rfl,rfl,hC.sE []⟩
 replace hb:=tf hq12 hb
 refine gp rfl rfl (decide (40<(c.length:Int))) rfl hq12 (.pointer (some ((⟨g4,0,none⟩:Addr).add 1))) (qag (sz:=1) underlying24 rfl sizeOf22 (by decide) rfl rfl)<|gv rfl rfl (decide (40<(c.length:Int))) rfl hq12 (.slice j d.length l) (qam (hC.bx (i:=0) rfl) isAgg22 rfl rfl)<|gp rfl rfl (decide (40<(c.length:Int))) rfl hq12 (iv (d.length:Int)) (qao (A:=j) (n:=d.length) (m:=l) underlying22 rfl)<|gp rfl rfl (decide (40<(c.length:Int))) rfl hq12 (iv (c.length:Int)) (qaa rfl)<|gp rfl rfl (decide (40<(c.length:Int))) rfl hq12 (.bool (!(decide ((d.length:Int)=(c.length:Int))))) (pu_neq (k:=.i64) (a:=(d.length:Int)) (b:=(c.length:Int)) rfl rfl)<|lp (.bool (!(decide ((d.length:Int)=(c.length:Int))))) (qbc (q:=(decide (40<(c.length:Int)))) rfl hq12 rfl)<|ln (hK9 _ _ ?_)
 refine Wc.cond (t:=(!(decide ((d.length:Int)=(c.length:Int))))) (rfl) (fun hq14=>?_) (fun hq14=>?_)
 replace hb:=tt hq14 hb
 refine Wc.seq fun _ hK15=>rg<|lp (.bool false) (qab rfl)<|ln (hK15 _ _ ?_)
 obtain rfl:=os hb
 refine Wc.ret (hKR _ _ ?_)
 refine ⟨_,res1 results26 (tV (.bool false) rfl),_,rfl,rfl,hC.sE []⟩
 replace hb:=tf hq14 hb
 refine Wc.skip (hK8 _ _ ?_)
 refine Wc.fresh fun E16 hE=>?_
 have e1:E16 1=pg g4:=cg hE 1 rfl
 have e2:E16 2=.bool false:=cg hE 2 rfl
 have e3:E16 3=iv (c.length:Int):=cg hE 3 rfl
 clear hE
 refine Wc.seq fun _ hK17=>?_
 refine Wc.seq fun _ hK18=>rg<|lp _ (qaa e3)<|lp (iv 0) (qaa rfl)<|ln (hK18 _ _ ?_)
 obtain ⟨o19,hl0,hb⟩:=bd hb
 refine Wc.cut (fun E wv=> ∃(f:Int),E 1=pg g4∧E 2=.bool false∧I64 f∧Cx (fun _=>False) O0 w wv [.box g4 24 [.slice g c.length h,.slice j d.length l],.ro (.sl si) [.slice g c.length h] c,.ro (.sl si) [.slice j d.length l] d]∧((F.qdc n c).bind fun y55=>cond y55 ((F.qdc n d).bind fun y59=>some y59) (some false):Option (Bool))=some r) (fun _ hK20=>?_) ?_
 refine Wc.block ?_
 refine Wc.loop (fun m E wv=> ∃(f:Int),E 1=pg g4∧E 2=.bool false∧E 21=iv (c.length:Int)∧E 22=iv f∧I64 f∧Cx (fun _=>False) O0 w wv [.box g4 24 [.slice g c.length h,.slice j d.length l],.ro (.sl si) [.slice g c.length h] c,.ro (.sl si) [.slice j d.length l] d]∧loopN m (F.grid_Valid_b0 n c d) f=some o19) n ⟨0,e1,e2,rfl,rfl,(show I64 0 from by unfold I64; omega),hC.sE [0,2,1],hl0⟩ ?_
 have hbK0:=hb
 clear hb hC hl0
 rintro m22 E24 w23 ⟨f,e1,e2,e21,e22,o,hC,hl0⟩ K21 hK21
 obtain ⟨m22',o25,rfl,hb,hl0⟩:=qan hl0
 unfold F.grid_Valid_b0 at hb
 refine Wc.seq fun _ hK26=>rg<|lp _ (qap e22 e21)<|ln (hK26 _ _ ?_)
 refine Wc.seq fun _ hK27=>?_
 refine Wc.cond (t:=(decide (f<(c.length:Int)))) (rfl) (fun hq28=>?_) (fun hq28=>?_)
 replace hb:=tt hq28 hb
 refine Wc.skip (hK27 _ _ ?_)
 refine Wc.seq fun _ hK29=>?_
 refine Wc.block<|Wc.seq fun _ hK30=>rg<|lp _ (qaa e22)<|lp (iv f) (qab rfl)<|ln (hK30 _ _ ?_)
 refine Wc.seq fun _ hK31=>?_
 refine Wc.regionMix [] (frm [] ([]:List Fact) ([]:List Fact)) (fun _=>rfl) mixed (by decide+kernel) (by decide+kernel) fun w33 hw32=>?_
 replace hC:=hC.step (Fr.qbb hw32)
 have hM:=Fr.refl (fun k=>k∈blocks ([]:List Fact)) w33
 clear hw32
 have hS:=hC
 refine mp (.pointer (some ((⟨g4,0,none⟩:Addr).add 0))) (qag (sz:=1) underlying24 rfl sizeOf22 (by decide) rfl e1)<|mixE.load hM (v:=.slice g c.length h) (fun _ hF=>qam (hS.bx2 (i:=0) rfl [] (by decide) hF) isAgg22 rfl rfl)<|mp (iv f) (qaa rfl) ?_
 obtain ⟨x34,h35,hb⟩:=bd hb
 obtain ⟨ad36,cs37,hA,ho40,hc38,hr39⟩:=hS.elr2 (i:=1) rfl (qac h35).2 []
 subst hA
 refine mp (.pointer (some (ad36.add (f.toNat*1)))) (qaf (a:=f) underlying22 sizeOf3 rfl rfl (qac h35).1) ?_
 obtain ⟨rfl,hr39'⟩:=hr39
 refine mixE.load hM (v:=iv x34) (fun _ hF=>qaj isAgg3 rfl (hF.cell (hc38 0 _ rfl) (off1 ho40)))<|mp (.pointer (some ((⟨g4,0,none⟩:Addr).add 1))) (qag (sz:=1) underlying24 rfl sizeOf22 (by decide) rfl e1)<|mixE.load hM (v:=.slice j d.length l) (fun _ hF=>qam (hS.bx2 (i:=0) rfl [] (by decide) hF) isAgg22 rfl rfl)<|mp (iv f) (qaa rfl) ?_
 obtain ⟨x41,h42,hb⟩:=bd hb
 obtain ⟨ad43,cs44,hA,ho47,hc45,hr46⟩:=hS.elr2 (i:=2) rfl (qac h42).2 []
 subst hA
 refine mp (.pointer (some (ad43.add (f.toNat*1)))) (qaf (a:=f) underlying22 sizeOf3 rfl rfl (qac h42).1) ?_
 obtain ⟨rfl,hr46'⟩:=hr46
 refine mixE.load hM (v:=iv x41) (fun _ hF=>qaj isAgg3 rfl (hF.cell (hc45 0 _ rfl) (off1 ho47)))<|mp (.bool (decide (x34=x41))) (qef (k:=.i64) (a:=x34) (b:=x41) rfl rfl)<|mixE.nil ?_
 clear hS hM
 refine hK31 _ _<|Wc.cond (t:=(decide (x34=x41))) (rfl) (fun hq48=>?_) (fun hq48=>?_)
 replace hb:=tt hq48 hb
 refine Wc.seq fun _ hK49=>rg<|lp (.bool false) (qab rfl)<|ln (hK49 _ _ ?_)
 obtain rfl:=os hb
 obtain rfl:=(lX hl0).symm
 replace hb:=hbK0
 obtain rfl:=os hb
 refine Wc.ret (hKR _ _ ?_)
 refine ⟨_,res1 results26 (tV (.bool false) rfl),_,rfl,rfl,hC.sE []⟩
 replace hb:=tf hq48 hb
 refine Wc.skip (hK29 _ _ ?_)
 refine rg ?_
 obtain ⟨z50,h51,hb⟩:=bd hb
 refine lp (iv z50) (qal (a:=f) (b:=1) e22 rfl h51)<|lp (iv z50) (qaa rfl)<|ln ?_
 obtain rfl:=os hb
 exact hK21 m22' _ _ (Nat.lt_succ_self _) ⟨z50,e1,e2,e21,rfl,(qai h51),hC.sE [0,1,2],lN hl0⟩
 replace hb:=tf hq28 hb
 refine Wc.exit rfl ?_
 obtain rfl:=os hb
 obtain rfl:=(lX hl0).symm
 exact hK20 _ _ ⟨f,e1,e2,o,hC.sE [0,1,2],hbK0⟩
 clear hb hC hl0
 rintro E53 w52 ⟨f,e1,e2,o,hC,hb⟩
 refine hK17 _ _<|Wc.seq fun _ hK54=>rg<|lp (.pointer (some ((⟨g4,0,none⟩:Addr).add 0))) (qag (sz:=1) underlying24 rfl sizeOf22 (by decide) rfl e1)<|lv (.slice g c.length h) (qam (hC.bx (i:=0) rfl) isAgg22 rfl rfl) ?_
 obtain ⟨y55,h56,hb⟩:=bd hb
 refine lex.cl (⟨_,_,qas (vs:=[.slice g c.length h]) call50 rfl rfl rfl,grid_permutation_ok n hC.lt (hC.rd (i:=1) rfl) h56⟩) ?_
 rintro _ w57 ⟨rfl,hK⟩
 replace hC:=hC.merge hK
 clear hK
 refine lp (.bool y55) (qaa rfl) ?_
 rcases bS y55 with hq58 | hq58
 replace hb:=tt hq58 hb
 refine gp rfl rfl y55 rfl hq58 (.pointer (some ((⟨g4,0,none⟩:Addr).add 1))) (qag (sz:=1) underlying24 rfl sizeOf22 (by decide) rfl e1)<|gv rfl rfl y55 rfl hq58 (.slice j d.length l) (qam (hC.bx (i:=0) rfl) isAgg22 rfl rfl) ?_
 obtain ⟨y59,h60,hb⟩:=bd hb
 refine lex.gcl (qdi rfl rfl (show _=Value.bool y55 from rfl) hq58) (⟨_,_,qas (vs:=[.slice j d.length l]) call50 rfl rfl rfl,grid_permutation_ok n hC.lt (hC.rd (i:=2) rfl) h60⟩) ?_
 rintro _ w61 ⟨rfl,hK⟩
 replace hC:=hC.merge hK
 clear hK
 refine lp (.bool y59) (qbg (q:=y55) rfl hq58 rfl)<|lp (.bool y59) (qab rfl)<|ln (hK54 _ _ ?_)
 obtain rfl:=os hb
 refine Wc.ret (hKR _ _ ?_)
 refine ⟨_,res1 results26 (tV (.bool y59) rfl),_,rfl,rfl,hC.sE []⟩
 replace hb:=tf hq58 hb
 refine gs rfl rfl y55 rfl hq58<|gs rfl rfl y55 rfl hq58<|gs rfl rfl y55 rfl hq58<|lp (.bool false) (qbc (q:=y55) rfl hq58 rfl)<|lp (.bool false) (qab rfl)<|ln (hK54 _ _ ?_)
 obtain rfl:=os hb
 refine Wc.ret (hKR _ _ ?_)
 refine ⟨_,res1 results26 (tV (.bool false) rfl),_,rfl,rfl,hC.sE []⟩

theorem grid_columns_ok (n:Nat) {w:World} {O0:List Nat} (hO: ∀k∈O0,k<w.heap.size) {f:Option Addr} {o g:Nat} {c:List Int} (p:Rep O0 w (.sl si) [.slice f o g] c) {r:(List Int)} (hb:F.qgb n c=some r):
    Calls prog 51 #[.slice f o g] w fun e w'=> ∃v,e=.returned v∧∃(A0:Option Addr) (m0 c0:Nat) (q:Nat),v=.func (.func 73) #[] #[pg q]∧Cx (fun _=>False) O0 w w' [.own 3 si (.slice A0 m0 c0) r,.box q 22 [.slice A0 m0 c0]]:=by
 unfold F.qgb at hb
 have hC:=Cx.start hO
 replace hC:=hC.arg rfl p
 clear hO
 obtain ⟨rfl,u,x⟩:=p.qad
 refine qaq func51 rfl (by rw [ntmps51]; exact nb rfl) fun KR hKR=>?_
 refine Wc.seq fun _ hK2=>rg<|lp (.nilFunc) (qab rfl)<|ln (hK2 _ _ ?_)
 refine Wc.seq fun _ hK3=>rg<|lp (.slice f c.length g) (qaa rfl)<|lp (iv (c.length:Int)) (qao (A:=f) (n:=c.length) (m:=g) underlying22 rfl) ?_
 obtain ⟨u4,h5,hb⟩:=bd hb
 refine lex.op (hC.make (s:=si) (n:=(c.length:Int)) underlying22 type3 rfl rfl rfl rfl rfl (qah h5).1 (qah h5).2 (by decide)) ?_
 rintro _ w10 ⟨A6,c7,rfl,hl8,hc9,hC,-,-⟩
 refine lex.op (hC.alloc (cs:=[.slice none 0 0]) zeroValue22 rfl) ?_
 rintro _ w13 ⟨g12,rfl,hC,hF,-⟩
 refine lex.sk (hC.setf (i:=0) (k:=0) (v:=.slice A6 (((rZ c.length)).length) c7) rfl sizeOf22 rfl (by rw [Addr.add_zero']; exact rfl) rfl rfl) ?_
 rintro w15 ⟨hC,hF⟩
 refine ln (hK3 _ _ ?_)
 refine Wc.seq fun _ hK16=>?_
 refine Wc.seq fun _ hK17=>rg<|lp (.slice f c.length g) (qaa rfl)<|lp (iv (c.length:Int)) (qao (A:=f) (n:=c.length) (m:=g) underlying22 rfl)<|lp (iv 0) (qaa rfl)<|ln (hK17 _ _ ?_)
 obtain ⟨o18,hl0,f18,hf18,hb⟩:=bn hb
 refine Wc.cut (fun E wv=> ∃(d:Int) (h:List Int),E 2=.nilFunc∧E 3=pg g12∧I64 d∧Cx (fun _=>False) O0 w wv [.box g12 22 [.slice A6 (((rZ c.length)).length) c7],.own 3 si (.slice A6 (((rZ c.length)).length) c7) h]∧f18 (d,h)=some r) (fun _ hK19=>?_) ?_
 refine Wc.block ?_
 refine Wc.loop (fun m E wv=> ∃(d:Int) (h:List Int),E 2=.nilFunc∧E 3=pg g12∧E 9=.slice f c.length g∧E 10=iv (c.length:Int)∧E 11=iv d∧I64 d∧Cx (fun _=>False) O0 w wv [.box g12 22 [.slice A6 (((rZ c.length)).length) c7],.own 3 si (.slice A6 (((rZ c.length)).length) c7) h,.ro (.sl si) [.slice f c.length g] c]∧loopN m (F.grid_columns_b0 n c) (d,h)=some o18) n ⟨0,(rZ c.length),rfl,rfl,rfl,rfl,rfl,(show I64 0 from by unfold I64; omega),hC.sE [0,1,2],hl0⟩ ?_
 have hbK0:=hb
 clear hb hC hl0
 rintro m21 E23 w22 ⟨d,h,e2,e3,e9,e10,e11,l,hC,hl0⟩ K20 hK20
 obtain ⟨m21',o24,rfl,hb,hl0⟩:=qan hl0
 unfold F.grid_columns_b0 at hb
 refine Wc.seq fun _ hK25=>rg<|lp _ (qap e11 e10)<|ln (hK25 _ _ ?_)
 refine Wc.seq fun _ hK26=>?_
 refine Wc.cond (t:=(decide (d<(c.length:Int)))) (rfl) (fun hq27=>?_) (fun hq27=>?_)
 replace hb:=tt hq27 hb
 refine Wc.skip (hK26 _ _ ?_)
 refine Wc.seq fun _ hK28=>?_
 refine Wc.block<|Wc.seq fun _ hK29=>rg<|lp _ (qaa e11) ?_
 obtain ⟨x30,h31,hb⟩:=bd hb
 obtain ⟨ad32,cs33,hA,hc34,hr35⟩:=hC.elr (i:=2) rfl (qac h31).2
 subst hA
 refine lp (.pointer (some (ad32.add (d.toNat*1)))) (qaf (a:=d) underlying22 sizeOf3 e9 e11 (qac h31).1) ?_
 obtain ⟨rfl,hr35'⟩:=hr35
 refine lv (iv x30) (qaj isAgg3 rfl (hc34 0 _ rfl))<|lp (iv d) (qab rfl)<|lp (iv x30) (qab rfl)<|ln (hK29 _ _ ?_)
 refine rg<|lv (.slice A6 (((rZ c.length)).length) c7) (qaj isAgg22 e3 ((hC.bx (i:=0) rfl).cell (j:=0) rfl))<|lp (iv x30) (qaa rfl)<|lp (iv d) (qaa rfl) ?_
 obtain ⟨x36,h37,hb⟩:=bd hb
 obtain ⟨ad38,cs39,hA,hc40,hr41⟩:=hC.elo (i:=1) rfl (qac h37).2
 subst hA
 refine lp (.pointer (some (ad38.add (x30.toNat*1)))) (qaf (a:=x30) underlying22 sizeOf3 rfl rfl (by rw [(hC.ow (i:=1) rfl).qad.1]; exact (qac h37).1))<|lex.sk (hC.put (i:=1) rfl rfl sizeOf3 (k:=x30.toNat) (a:=d) (by have:=(qac h37).1; simp at this⊢; omega) (⟨rfl,I64.wr l⟩) rfl rfl rfl) ?_
 rintro w42 ⟨hC,hF⟩
 refine ln (hK28 _ _ ?_)
 refine rg ?_
 obtain ⟨z43,h44,hb⟩:=bd hb
 refine lp (iv z43) (qal (a:=d) (b:=1) e11 rfl h44)<|lp (iv z43) (qaa rfl)<|ln ?_
 obtain rfl:=os hb
 exact hK20 m21' _ _ (Nat.lt_succ_self _) ⟨z43,(h.set x30.toNat d),e2,e3,e9,e10,rfl,(qai h44),hC.sE [0,1,2],lN hl0⟩
 replace hb:=tf hq27 hb
 refine Wc.exit rfl ?_
 obtain rfl:=os hb
 obtain rfl:=(lX hl0).symm
 exact hK19 _ _ ⟨d,h,e2,e3,l,hC.sE [0,1],hbK0⟩
 clear hb hC hl0
 rintro E46 w45 ⟨d,h,e2,e3,l,hC,hb⟩
 subst hf18
 refine hK16 _ _<|Wc.seq fun _ hK47=>rg<|lp (.func (.func 73) #[] #[pg g12]) (pu_funcc (map_of (qey e3 m2_nil)))<|lp (.func (.func 73) #[] #[pg g12]) (qab rfl)<|ln (hK47 _ _ ?_)
 obtain rfl:=os hb
 refine Wc.ret (hKR _ _ ?_)
 refine ⟨_,res1 results51 (tV (.func (.func 73) #[] #[pg g12]) rfl),_,rfl,A6,((rZ c.length)).length,c7,g12,rfl,hC.sE [1,0]⟩

theorem grid_columns_c1_ok (n:Nat) {w:World} {O0:List Nat} (hO: ∀k∈O0,k<w.heap.size) {f:Int} (p:I64 f) {h:Nat} {b:Option Addr} {g c:Nat} {d:List Int} (l:Rep O0 w (.sl si) [.slice b g c] d) (hio:Tk O0 w [.box h 22 [.slice b g c]]) {r:Int} (hb:F.qfa n f d=some r):
    Calls prog 73 #[iv f,pg h] w fun e w'=> ∃v,e=.returned v∧v=iv r∧I64 r∧Cx (fun k=>k∈blocks [.box h 22 [.slice b g c]]) O0 w w' [.box h 22 [.slice b g c]]:=by
 unfold F.qfa at hb
 have hC:=Cx.startTk hO hio
 have hsub:=hio.2.2
 replace hC:=hC.argTk (by first | exact hsub | exact fun k hk=>hsub k (by simpa [blocks,Fact.blk] using hk)) l
 clear hO
 obtain ⟨rfl,m,o⟩:=l.qad
 clear hio hsub
 obtain ⟨I,hI,hC⟩: ∃I:Nat→Prop,I=(fun k=>k∈blocks [.box h 22 [.slice b d.length c]])∧Cx I O0 w w ([.ro (.sl si) [.slice b d.length c] d,.box h 22 [.slice b d.length c]]):=⟨_,rfl,hC⟩
 refine qaq func73 rfl (by rw [ntmps73]; exact nb rfl) fun KR hKR=>?_
 refine Wc.seq fun _ hK3=>rg<|lp (iv 0) (qab rfl)<|ln (hK3 _ _ ?_)
 refine Wc.seq fun _ hK4=>rg<|lv (.slice b d.length c) (qaj isAgg22 rfl ((hC.bx (i:=1) rfl).cell (j:=0) rfl))<|lp (iv f) (qaa rfl) ?_
 obtain ⟨x5,h6,hb⟩:=bd hb
 obtain ⟨ad7,cs8,hA,hc9,hr10⟩:=hC.elr (i:=0) rfl (qac h6).2
 subst hA
 refine lp (.pointer (some (ad7.add (f.toNat*1)))) (qaf (a:=f) underlying22 sizeOf3 rfl rfl (qac h6).1) ?_
 obtain ⟨rfl,hr10'⟩:=hr10
 refine lv (iv x5) (qaj isAgg3 rfl (hc9 0 _ rfl))<|lp (iv x5) (qab rfl)<|ln (hK4 _ _ ?_)
 obtain rfl:=os hb
 subst hI
 refine Wc.ret (hKR _ _ ?_)
 refine ⟨_,res1 results73 (tV (iv x5) rfl),_,rfl,rfl,(qay hr10'),hC.sE [1]⟩

theorem grid_Crossings_ok (n:Nat) {w:World} {O0:List Nat} (hO: ∀k∈O0,k<w.heap.size) {p:Option Addr} {K g:Nat} {d:List Int} (L:Rep O0 w (.sl si) [.slice p K g] d) {y:Option Addr} {M l:Nat} {f:List Int} (N:Rep O0 w (.sl si) [.slice y M l] f) {r:(List (Int×Int))} (hb:F.qfy n d f=some r):
    Calls prog 27 #[.agg #[.slice p K g,.slice y M l]] w fun e w'=> ∃v,e=.returned v∧∃(A0:Option Addr) (m0 c0:Nat),v=.slice A0 m0 c0∧Cx (fun _=>False) O0 w w' [.own 67 (.pr si si) (.slice A0 m0 c0) r]:=by
 unfold F.qfy at hb
 have hC:=Cx.start hO
 replace hC:=hC.arg rfl L
 replace hC:=hC.arg rfl N
 clear hO
 obtain ⟨rfl,T,U⟩:=L.qad
 obtain ⟨rfl,V,X⟩:=N.qad
 refine qaq func27 rfl (by rw [ntmps27]; exact nb rfl) fun KR hKR=>?_
 refine Wc.seq fun _ hK3=>rg<|lex.op (hC.box (cs:=[.slice p d.length g,.slice y f.length l]) rfl rfl) ?_
 rintro _ w5 ⟨g4,rfl,hC,hF,-⟩
 refine lp (.slice none 0 0) (qab rfl)<|ln (hK3 _ _ ?_)
 refine Wc.seq fun _ hK7=>?_
 refine Wc.seq fun _ hK8=>rg<|lv (.agg #[.slice p d.length g,.slice y f.length l]) (qbs (hC.bx (i:=0) rfl) isAgg24 sizeOf24 rfl) ?_
 obtain ⟨y9,h10,hb⟩:=bd hb
 refine lex.cl (⟨_,_,qas (vs:=[.agg #[.slice p d.length g,.slice y f.length l]]) call26 rfl rfl rfl,grid_Valid_ok n hC.lt (hC.rd (i:=2) rfl) (hC.rd (i:=1) rfl) h10⟩) ?_
 rintro _ w11 ⟨rfl,hK⟩
 replace hC:=hC.merge hK
 clear hK
 refine lp (.bool (!y9)) (pu_not (q:=y9) rfl)<|ln (hK8 _ _ ?_)
 refine Wc.cond (t:=(!y9)) (rfl) (fun hq12=>?_) (fun hq12=>?_)
 replace hb:=tt hq12 hb
 refine Wc.seq fun _ hK13=>rg<|lp (.slice none 0 0) (qab rfl)<|ln (hK13 _ _ ?_)
 replace hC:=hC.nil 67 (.pr si si)
 obtain rfl:=os hb
 refine Wc.ret (hKR _ _ ?_)
 refine ⟨_,res1 results27 (tV (.slice none 0 0) rfl),_,rfl,none,0,0,rfl,hC.sE [0]⟩
 replace hb:=tf hq12 hb
 refine Wc.skip (hK7 _ _ ?_)
 refine Wc.seq fun _ hK15=>?_
 refine Wc.regionMix [] (frm [] ([]:List Fact) ([]:List Fact)) (fun _=>rfl) mixed (by decide+kernel) (by decide+kernel) fun w17 hw16=>?_
 replace hC:=hC.step (Fr.qbb hw16)
 have hM:=Fr.refl (fun k=>k∈blocks ([]:List Fact)) w17
 clear hw16
 have hS:=hC
 refine mp (.pointer (some ((⟨g4,0,none⟩:Addr).add 0))) (qag (sz:=1) underlying24 rfl sizeOf22 (by decide) rfl rfl)<|mixE.load hM (v:=.slice p d.length g) (fun _ hF=>qam (hS.bx2 (i:=0) rfl [] (by decide) hF) isAgg22 rfl rfl) ?_
 obtain ⟨y18,h19,hb⟩:=bd hb
 refine mixE.cl hM (⟨_,_,qas (vs:=[.slice p d.length g]) call51 rfl rfl rfl,grid_columns_ok n hC.lt (hC.rd (i:=2) rfl) h19⟩) ?_
 rintro _ w26 ⟨A20,m21,c22,gr24,rfl,hK⟩
 have hBf23:=Beside.cl (i:=0) hM hK rfl
 replace hM:=hM.none hK.fr
 refine ⟨hM,?_⟩
 replace hC:=hC.merge hK
 clear hK
 obtain ⟨rfl,hl27,hc28⟩:=(hC.ow (i:=0) rfl).qad
 refine mp (.pointer (some ((⟨g4,0,none⟩:Addr).add 1))) (qag (sz:=1) underlying24 rfl sizeOf22 (by decide) rfl rfl)<|mixE.load hM (v:=.slice y f.length l) (fun _ hF=>qam (hS.bx2 (i:=0) rfl [] (by decide) hF) isAgg22 rfl rfl) ?_
 obtain ⟨y29,h30,hb⟩:=bd hb
 refine mixE.cl hM (⟨_,_,qas (vs:=[.slice y f.length l]) call51 rfl rfl rfl,grid_columns_ok n hC.lt (hC.rd (i:=3) rfl) h30⟩) ?_
 rintro _ w37 ⟨A31,m32,c33,gr35,rfl,hK⟩
 have hBf34:=Beside.cl (i:=0) hM hK rfl
 replace hM:=hM.none hK.fr
 refine ⟨hM,?_⟩
 replace hC:=hC.merge hK
 clear hK
 obtain ⟨rfl,hl38,hc39⟩:=(hC.ow (i:=0) rfl).qad
 refine mp (.func (.func 73) #[] #[pg gr24]) (qab rfl)<|mp (.func (.func 73) #[] #[pg gr35]) (qab rfl)<|mixE.nil ?_
 clear hS hM
 refine hK15 _ _<|Wc.fresh fun E40 hE=>?_
 have e1:E40 1=pg g4:=cg hE 1 rfl
 have e2:E40 2=.slice none 0 0:=cg hE 2 rfl
 have e3:E40 3=.func (.func 73) #[] #[pg gr24]:=cg hE 3 rfl
 have e4:E40 4=.func (.func 73) #[] #[pg gr35]:=cg hE 4 rfl
 clear hE
 refine Wc.seq fun _ hK41=>rg<|lp (.slice none 0 0) (qab rfl)<|ln (hK41 _ _ ?_)
 refine Wc.seq fun _ hK42=>?_
 refine Wc.seq fun _ hK43=>rg<|lp (.pointer (some ((⟨g4,0,none⟩:Addr).add 0))) (qag (sz:=1) underlying24 rfl sizeOf22 (by decide) rfl e1)<|lv (.slice p d.length g) (qam (hC.bx (i:=4) rfl) isAgg22 rfl rfl)<|lp (iv (d.length:Int)) (qao (A:=p) (n:=d.length) (m:=g) underlying22 rfl)<|lp (iv 0) (qaa rfl)<|ln (hK43 _ _ ?_)
 replace hC:=hC.nil 67 (.pr si si)
 obtain ⟨o45,hl0,f45,hf45,hb⟩:=bn hb
 refine Wc.cut (fun E wv=> ∃(C:List (Int×Int)) (c:Int) (z:Option Addr) (D B:Nat),E 2=.slice none 0 0∧E 5=.slice z D B∧I64 c∧Cx (fun _=>False) O0 w wv [.own 67 (.pr si si) (.slice z D B) C]∧f45 (C,c)=some r) (fun _ hK46=>?_) ?_
 refine Wc.block ?_
 refine Wc.loop (fun m E wv=> ∃(C:List (Int×Int)) (c:Int) (z:Option Addr) (D B:Nat),E 1=pg g4∧E 2=.slice none 0 0∧E 3=.func (.func 73) #[] #[pg gr24]∧E 4=.func (.func 73) #[] #[pg gr35]∧E 5=.slice z D B∧E 21=iv (d.length:Int)∧E 22=iv c∧I64 c∧Cx (fun _=>False) O0 w wv [.box g4 24 [.slice p d.length g,.slice y f.length l],.ro (.sl si) [.slice p d.length g] d,.ro (.sl si) [.slice y f.length l] f,.box gr24 22 [.slice A20 y18.length c22],.own 3 si (.slice A20 y18.length c22) y18,.box gr35 22 [.slice A31 y29.length c33],.own 3 si (.slice A31 y29.length c33) y29,.own 67 (.pr si si) (.slice z D B) C]∧loopN m (F.qem n d f y18 y29) (C,c)=some o45) n ⟨([]:List (Int×Int)),0,none,0,0,e1,e2,e3,e4,rfl,rfl,rfl,(show I64 0 from by unfold I64; omega),hC.sE [5,7,6,4,3,2,1,0],hl0⟩ ?_
 have hbK0:=hb
 clear hb hC hl0
 rintro m48 E50 w49 ⟨C,c,z,D,B,e1,e2,e3,e4,e5,e21,e22,J,hC,hl0⟩ K47 hK47
 obtain ⟨m48',o51,rfl,hb,hl0⟩:=qan hl0
 unfold F.qem at hb
 obtain ⟨rfl,P,Q⟩:=(hC.ow (i:=7) rfl).qad
 refine Wc.seq fun _ hK52=>rg<|lp _ (qap e22 e21)<|ln (hK52 _ _ ?_)
 refine Wc.seq fun _ hK53=>?_
 refine Wc.cond (t:=(decide (c<(d.length:Int)))) (rfl) (fun hq54=>?_) (fun hq54=>?_)
 replace hb:=tt hq54 hb
 refine Wc.skip (hK53 _ _ ?_)
 refine Wc.seq fun _ hK55=>?_
 refine Wc.block<|Wc.seq fun _ hK56=>rg<|lp _ (qaa e22)<|lp (iv c) (qab rfl)<|ln (hK56 _ _ ?_)
 refine Wc.seq fun _ hK57=>?_
 refine Wc.regionMix [] (frm [] ([]:List Fact) ([]:List Fact)) (fun _=>rfl) mixed (by decide+kernel) (by decide+kernel) fun w59 hw58=>?_
 replace hC:=hC.step (Fr.qbb hw58)
 have hM:=Fr.refl (fun k=>k∈blocks ([]:List Fact)) w59
 clear hw58
 have hS:=hC
 refine mp (.pointer (some ((⟨g4,0,none⟩:Addr).add 0))) (qag (sz:=1) underlying24 rfl sizeOf22 (by decide) rfl e1)<|mixE.load hM (v:=.slice p d.length g) (fun _ hF=>qam (hS.bx2 (i:=0) rfl [] (by decide) hF) isAgg22 rfl rfl)<|mp (iv c) (qaa rfl) ?_
 obtain ⟨x60,h61,hb⟩:=bd hb
 obtain ⟨ad62,cs63,hA,ho66,hc64,hr65⟩:=hS.elr2 (i:=1) rfl (qac h61).2 []
 subst hA
 refine mp (.pointer (some (ad62.add (c.toNat*1)))) (qaf (a:=c) underlying22 sizeOf3 rfl rfl (qac h61).1) ?_
 obtain ⟨rfl,hr65'⟩:=hr65
 refine mixE.load hM (v:=iv x60) (fun _ hF=>qaj isAgg3 rfl (hF.cell (hc64 0 _ rfl) (off1 ho66)))<|mp (.pointer (some ((⟨g4,0,none⟩:Addr).add 1))) (qag (sz:=1) underlying24 rfl sizeOf22 (by decide) rfl e1)<|mixE.load hM (v:=.slice y f.length l) (fun _ hF=>qam (hS.bx2 (i:=0) rfl [] (by decide) hF) isAgg22 rfl rfl)<|mp (iv c) (qaa rfl) ?_
 obtain ⟨x67,h68,hb⟩:=bd hb
 obtain ⟨ad69,cs70,hA,ho73,hc71,hr72⟩:=hS.elr2 (i:=2) rfl (qac h68).2 []
 subst hA
 refine mp (.pointer (some (ad69.add (c.toNat*1)))) (qaf (a:=c) underlying22 sizeOf3 rfl rfl (qac h68).1) ?_
 obtain ⟨rfl,hr72'⟩:=hr72
 refine mixE.load hM (v:=iv x67) (fun _ hF=>qaj isAgg3 rfl (hF.cell (hc71 0 _ rfl) (off1 ho73)))<|mp (iv (min x60 x67)) (pu_min (a:=x60) (b:=x67) rfl rfl) ?_
 obtain ⟨z74,h75,hb⟩:=bd hb
 refine mp (iv z74) (qal (a:=(min x60 x67)) (b:=1) rfl rfl h75)<|mp (iv z74) (qab rfl)<|mixE.nil ?_
 clear hS hM
 refine hK57 _ _<|Wc.fresh fun E76 hE=>?_
 have e1:=cg hE 1 e1
 have e2:=cg hE 2 e2
 have e3:=cg hE 3 e3
 have e4:=cg hE 4 e4
 have e5:=cg hE 5 e5
 have e6:E76 6=iv c:=cg hE 6 rfl
 have e7:E76 7=iv z74:=cg hE 7 rfl
 have e21:=cg hE 21 e21
 have e22:=cg hE 22 e22
 have e23:E76 23=.bool (decide (c<(d.length:Int))):=cg hE 23 rfl
 clear hE
 obtain ⟨o77,hl1,hb⟩:=bd hb
 refine Wc.cut (fun E wv=> ∃(o:List (Int×Int)) (j:Int) (u:Option Addr) (G x:Nat),E 1=pg g4∧E 2=.slice none 0 0∧E 3=.func (.func 73) #[] #[pg gr24]∧E 4=.func (.func 73) #[] #[pg gr35]∧E 5=.slice u G x∧E 6=iv c∧E 7=iv j∧E 21=iv (d.length:Int)∧E 22=iv c∧E 23=.bool (decide (c<(d.length:Int)))∧I64 j∧Cx (fun _=>False) O0 w wv [.box g4 24 [.slice (some ad62) d.length g,.slice (some ad69) f.length l],.ro (.sl si) [.slice (some ad62) d.length g] d,.ro (.sl si) [.slice (some ad69) f.length l] f,.box gr24 22 [.slice A20 y18.length c22],.own 3 si (.slice A20 y18.length c22) y18,.box gr35 22 [.slice A31 y29.length c33],.own 3 si (.slice A31 y29.length c33) y29,.own 67 (.pr si si) (.slice u G x) o]∧((chk (c+1)).bind fun z140=>some (.inl (o,z140)):Option (((List (Int×Int))×Int)⊕(((List (Int×Int))×Int))))=some o51) (fun _ hK78=>?_) ?_
 refine Wc.block ?_
 refine Wc.loop (fun m E wv=> ∃(o:List (Int×Int)) (j:Int) (u:Option Addr) (G x:Nat),E 1=pg g4∧E 2=.slice none 0 0∧E 3=.func (.func 73) #[] #[pg gr24]∧E 4=.func (.func 73) #[] #[pg gr35]∧E 5=.slice u G x∧E 6=iv c∧E 7=iv j∧E 21=iv (d.length:Int)∧E 22=iv c∧E 23=.bool (decide (c<(d.length:Int)))∧I64 j∧Cx (fun _=>False) O0 w wv [.box g4 24 [.slice (some ad62) d.length g,.slice (some ad69) f.length l],.ro (.sl si) [.slice (some ad62) d.length g] d,.ro (.sl si) [.slice (some ad69) f.length l] f,.box gr24 22 [.slice A20 y18.length c22],.own 3 si (.slice A20 y18.length c22) y18,.box gr35 22 [.slice A31 y29.length c33],.own 3 si (.slice A31 y29.length c33) y29,.own 67 (.pr si si) (.slice u G x) o]∧loopN m (F.qel n d f y18 y29 c) (o,j)=some o77) n ⟨C,z74,z,C.length,B,e1,e2,e3,e4,e5,e6,e7,e21,e22,e23,(qai h75),hC.sE [0,1,2,3,4,5,6,7],hl1⟩ ?_
 have hbK1:=hb
 clear hb hC hl1
 rintro m80 E82 w81 ⟨o,j,u,G,x,e1,e2,e3,e4,e5,e6,e7,e21,e22,e23,H,hC,hl1⟩ K79 hK79
 obtain ⟨m80',o83,rfl,hb,hl1⟩:=qan hl1
 unfold F.qel at hb
 obtain ⟨rfl,R,S⟩:=(hC.ow (i:=7) rfl).qad
 refine Wc.seq fun _ hK84=>?_
 refine Wc.seq fun _ hK85=>?_
 refine Wc.regionMix [] (frm [] ([]:List Fact) ([]:List Fact)) (fun _=>rfl) mixed (by decide+kernel) (by decide+kernel) fun w87 hw86=>?_
 replace hC:=hC.step (Fr.qbb hw86)
 have hM:=Fr.refl (fun k=>k∈blocks ([]:List Fact)) w87
 clear hw86
 have hS:=hC
 refine mp (iv j) (qaa e7)<|mp (.pointer (some ((⟨g4,0,none⟩:Addr).add 0))) (qag (sz:=1) underlying24 rfl sizeOf22 (by decide) rfl e1)<|mixE.load hM (v:=.slice (some ad62) d.length g) (fun _ hF=>qam (hS.bx2 (i:=0) rfl [] (by decide) hF) isAgg22 rfl rfl)<|mp (iv c) (qaa e6) ?_
 obtain ⟨x88,h89,hb⟩:=bd hb
 obtain ⟨ad90,cs91,hA,ho94,hc92,hr93⟩:=hS.elr2 (i:=1) rfl (qac h89).2 []
 obtain rfl:=Option.some.inj hA
 refine mp (.pointer (some (ad62.add (c.toNat*1)))) (qaf (a:=c) underlying22 sizeOf3 rfl rfl (qac h89).1) ?_
 obtain ⟨rfl,hr93'⟩:=hr93
 refine mixE.load hM (v:=iv x88) (fun _ hF=>qaj isAgg3 rfl (hF.cell (hc92 0 _ rfl) (off1 ho94)))<|mp (.pointer (some ((⟨g4,0,none⟩:Addr).add 1))) (qag (sz:=1) underlying24 rfl sizeOf22 (by decide) rfl e1)<|mixE.load hM (v:=.slice (some ad69) f.length l) (fun _ hF=>qam (hS.bx2 (i:=0) rfl [] (by decide) hF) isAgg22 rfl rfl)<|mp (iv c) (qaa e6) ?_
 obtain ⟨x95,h96,hb⟩:=bd hb
 obtain ⟨ad97,cs98,hA,ho101,hc99,hr100⟩:=hS.elr2 (i:=2) rfl (qac h96).2 []
 obtain rfl:=Option.some.inj hA
 refine mp (.pointer (some (ad69.add (c.toNat*1)))) (qaf (a:=c) underlying22 sizeOf3 rfl rfl (qac h96).1) ?_
 obtain ⟨rfl,hr100'⟩:=hr100
 refine mixE.load hM (v:=iv x95) (fun _ hF=>qaj isAgg3 rfl (hF.cell (hc99 0 _ rfl) (off1 ho101)))<|mp (iv (max x88 x95)) (pu_max (a:=x88) (b:=x95) rfl rfl)<|mp (.bool (decide (j<(max x88 x95)))) (qap (k:=.i64) (a:=j) (b:=(max x88 x95)) rfl rfl)<|mixE.nil ?_
 clear hS hM
 refine hK85 _ _<|Wc.cond (t:=(decide (j<(max x88 x95)))) (rfl) (fun hq102=>?_) (fun hq102=>?_)
 replace hb:=tt hq102 hb
 refine Wc.skip (hK84 _ _ ?_)
 refine Wc.fresh fun E103 hE=>?_
 have e1:=cg hE 1 e1
 have e2:=cg hE 2 e2
 have e3:=cg hE 3 e3
 have e4:=cg hE 4 e4
 have e5:=cg hE 5 e5
 have e6:=cg hE 6 e6
 have e7:=cg hE 7 e7
 have e21:=cg hE 21 e21
 have e22:=cg hE 22 e22
 have e23:=cg hE 23 e23
 have e49:E103 49=.bool (decide (j<(max x88 x95))):=cg hE 49 rfl
 clear hE
 refine Wc.seq fun _ hK104=>?_
 refine Wc.block<|Wc.seq fun _ hK105=>rg<|lp _ (qaa e3)<|lp _ (qaa e7) ?_
 replace hC:Cx (fun _=>False) O0 w w87 ([.box gr24 22 [.slice A20 y18.length c22]]++[.box g4 24 [.slice (some ad62) d.length g,.slice (some ad69) f.length l],.ro (.sl si) [.slice (some ad62) d.length g] d,.ro (.sl si) [.slice (some ad69) f.length l] f,.own 3 si (.slice A20 y18.length c22) y18,.box gr35 22 [.slice A31 y29.length c33],.own 3 si (.slice A31 y29.length c33) y29,.own 67 (.pr si si) (.slice u o.length x) o]):=hC.sE [3,0,1,2,4,5,6,7]
 obtain ⟨y106,h107,hb⟩:=bd hb
 refine lex.cl (⟨_,_,qft (vs:=[iv j,pg gr24]) (ca:=#[pg gr24]) call73 rfl rfl rfl,grid_columns_c1_ok n (hC.lentLt [.slice A20 y18.length c22]) H ((hC.ow (i:=4) rfl).lend (vs:=[.slice A20 y18.length c22]) (by simp)) (hC.give.lent [.slice A20 y18.length c22] (hC.apart (List.forall_mem_cons.2 ⟨blk_in (i:=3) rfl,fun _ h=>absurd h List.not_mem_nil⟩))) h107⟩) ?_
 rintro _ w109 ⟨rfl,hr108,hK⟩
 replace hC:=hC.back (hK.flatTk rfl hC.lt)
 clear hK
 refine lp _ (qaa e4)<|lp _ (qaa e7) ?_
 replace hC:Cx (fun _=>False) O0 w w109 ([.box gr35 22 [.slice A31 y29.length c33]]++[.box gr24 22 [.slice A20 y18.length c22],.box g4 24 [.slice (some ad62) d.length g,.slice (some ad69) f.length l],.ro (.sl si) [.slice (some ad62) d.length g] d,.ro (.sl si) [.slice (some ad69) f.length l] f,.own 3 si (.slice A20 y18.length c22) y18,.own 3 si (.slice A31 y29.length c33) y29,.own 67 (.pr si si) (.slice u o.length x) o]):=hC.sE [5,0,1,2,3,4,6,7]
 obtain ⟨y110,h111,hb⟩:=bd hb
 refine lex.cl (⟨_,_,qft (vs:=[iv j,pg gr35]) (ca:=#[pg gr35]) call73 rfl rfl rfl,grid_columns_c1_ok n (hC.lentLt [.slice A31 y29.length c33]) H ((hC.ow (i:=6) rfl).lend (vs:=[.slice A31 y29.length c33]) (by simp)) (hC.give.lent [.slice A31 y29.length c33] (hC.apart (List.forall_mem_cons.2 ⟨blk_in (i:=5) rfl,fun _ h=>absurd h List.not_mem_nil⟩))) h111⟩) ?_
 rintro _ w113 ⟨rfl,hr112,hK⟩
 replace hC:=hC.back (hK.flatTk rfl hC.lt)
 clear hK
 refine lp (iv y106) (qab rfl)<|lp (iv y110) (qab rfl)<|ln (hK105 _ _ ?_)
 refine Wc.seq fun _ hK114=>rg<|lp (iv y106) (qaa rfl)<|lp (iv y110) (qaa rfl)<|lp (iv (min y106 y110)) (pu_min (a:=y106) (b:=y110) rfl rfl)<|lp _ (qaa e6)<|lp (.bool (decide ((min y106 y110)<c))) (qap (k:=.i64) (a:=(min y106 y110)) (b:=c) rfl rfl)<|lp (.bool (decide ((min y106 y110)<c))) (qaa rfl) ?_
 rcases bS (decide ((min y106 y110)<c)) with hq115 | hq115
 replace hb:=tt hq115 hb
 refine gp rfl rfl (decide ((min y106 y110)<c)) rfl hq115 (iv c) (qaa e6)<|gp rfl rfl (decide ((min y106 y110)<c)) rfl hq115 (iv y106) (qaa rfl)<|gp rfl rfl (decide ((min y106 y110)<c)) rfl hq115 (iv y110) (qaa rfl)<|gp rfl rfl (decide ((min y106 y110)<c)) rfl hq115 (iv (max y106 y110)) (pu_max (a:=y106) (b:=y110) rfl rfl)<|gp rfl rfl (decide ((min y106 y110)<c)) rfl hq115 (.bool (decide (c<(max y106 y110)))) (qap (k:=.i64) (a:=c) (b:=(max y106 y110)) rfl rfl)<|lp (.bool (decide (c<(max y106 y110)))) (qbg (q:=(decide ((min y106 y110)<c))) rfl hq115 rfl)<|ln (hK114 _ _ ?_)
 refine Wc.fresh fun E116 hE=>?_
 have e1:=cg hE 1 e1
 have e2:=cg hE 2 e2
 have e3:=cg hE 3 e3
 have e4:=cg hE 4 e4
 have e5:=cg hE 5 e5
 have e6:=cg hE 6 e6
 have e7:=cg hE 7 e7
 have e8:E116 8=iv y106:=cg hE 8 rfl
 have e9:E116 9=iv y110:=cg hE 9 rfl
 have e21:=cg hE 21 e21
 have e22:=cg hE 22 e22
 have e23:=cg hE 23 e23
 have e49:=cg hE 49 e49
 have e69:E116 69=.bool (decide (c<(max y106 y110))):=cg hE 69 rfl
 clear hE
 refine Wc.cond (t:=(decide (c<(max y106 y110)))) (e69) (fun hq117=>?_) (fun hq117=>?_)
 replace hb:=tt hq117 hb
 refine rg<|lp _ (qaa e5)<|lp _ (qaa e6)<|lp _ (qaa e7)<|lp (.agg #[iv c,iv j]) (pu_builda (pv:=[(0,iv c),(1,iv j)]) (sz:=1) type67 underlying67 rfl type3 rfl rfl (by simp [Instr.fill,Value.cells]))<|lex.op (hC.lit (s:=(.pr si si)) (vs:=[.agg #[iv c,iv j]]) (xs:=[(c,j)]) underlying33 type67 rfl rfl (nb rfl) rfl rfl (by simp [Value.cells,Sh.n]) rfl (show Elems _ _ (.pr si si) ([iv c,iv j]++([])) ([(c,j)]:List (Int×Int)) from Elems.cons (⟨[iv c],[iv j],rfl,⟨rfl,I64.wr J⟩,⟨rfl,I64.wr H⟩⟩) (Elems.nil _ _ _))) ?_
 rintro _ w122 ⟨A118,c119,rfl,hl120,hc121,hC,-,-⟩
 obtain ⟨u124,h125,hb⟩:=bd hb
 refine lex.op (hC.app (i:=8) (s:=(.pr si si)) (xs:=o) (ys:=([(c,j)]:List (Int×Int))) (m:=((([(c,j)]:List (Int×Int))).length)) rfl underlying33 underlying33 type67 rfl rfl rfl (hC.srco (i:=0) rfl) rfl rfl (by have:=qaw h125; simp at this⊢ <;>omega) (by decide)) ?_
 rintro _ w130 ⟨A126,c127,rfl,hl128,hc129,hC,-,-⟩
 refine lp (.slice A126 ((o++([(c,j)]:List (Int×Int))).length) c127) (qab rfl)<|ln (hK104 _ _ ?_)
 refine rg<|lp _ (qaa e7) ?_
 obtain ⟨z131,h132,hb⟩:=bd hb
 refine lp (iv z131) (qal (a:=j) (b:=1) rfl rfl h132)<|lp (iv z131) (qab rfl)<|ln ?_
 obtain rfl:=os hb
 exact hK79 m80' _ _ (Nat.lt_succ_self _) ⟨(o++([(c,j)]:List (Int×Int))),z131,A126,(o++([(c,j)]:List (Int×Int))).length,c127,e1,e2,e3,e4,rfl,e6,rfl,e21,e22,e23,(qai h132),hC.sE [3,4,5,2,6,1,7,8],lN hl1⟩
 replace hb:=tf hq117 hb
 refine Wc.skip (hK104 _ _ ?_)
 refine rg<|lp _ (qaa e7) ?_
 obtain ⟨z133,h134,hb⟩:=bd hb
 refine lp (iv z133) (qal (a:=j) (b:=1) rfl rfl h134)<|lp (iv z133) (qab rfl)<|ln ?_
 obtain rfl:=os hb
 exact hK79 m80' _ _ (Nat.lt_succ_self _) ⟨o,z133,u,o.length,x,e1,e2,e3,e4,e5,e6,rfl,e21,e22,e23,(qai h134),hC.sE [2,3,4,1,5,0,6,7],lN hl1⟩
 replace hb:=tf hq115 hb
 refine gs rfl rfl (decide ((min y106 y110)<c)) rfl hq115<|gs rfl rfl (decide ((min y106 y110)<c)) rfl hq115<|gs rfl rfl (decide ((min y106 y110)<c)) rfl hq115<|gs rfl rfl (decide ((min y106 y110)<c)) rfl hq115<|gs rfl rfl (decide ((min y106 y110)<c)) rfl hq115<|lp (.bool false) (qbc (q:=(decide ((min y106 y110)<c))) rfl hq115 rfl)<|ln (hK114 _ _ ?_)
 refine Wc.fresh fun E135 hE=>?_
 have e1:=cg hE 1 e1
 have e2:=cg hE 2 e2
 have e3:=cg hE 3 e3
 have e4:=cg hE 4 e4
 have e5:=cg hE 5 e5
 have e6:=cg hE 6 e6
 have e7:=cg hE 7 e7
 have e8:E135 8=iv y106:=cg hE 8 rfl
 have e9:E135 9=iv y110:=cg hE 9 rfl
 have e21:=cg hE 21 e21
 have e22:=cg hE 22 e22
 have e23:=cg hE 23 e23
 have e49:=cg hE 49 e49
 have e69:E135 69=.bool false:=cg hE 69 rfl
 clear hE
 refine Wc.cond_false (e69) ?_
 refine Wc.skip (hK104 _ _ ?_)
 refine rg<|lp _ (qaa e7) ?_
 obtain ⟨z136,h137,hb⟩:=bd hb
 refine lp (iv z136) (qal (a:=j) (b:=1) rfl rfl h137)<|lp (iv z136) (qab rfl)<|ln ?_
 obtain rfl:=os hb
 exact hK79 m80' _ _ (Nat.lt_succ_self _) ⟨o,z136,u,o.length,x,e1,e2,e3,e4,e5,e6,rfl,e21,e22,e23,(qai h137),hC.sE [2,3,4,1,5,0,6,7],lN hl1⟩
 replace hb:=tf hq102 hb
 refine Wc.exit rfl ?_
 obtain rfl:=os hb
 obtain rfl:=(lX hl1).symm
 exact hK78 _ _ ⟨o,j,u,o.length,x,e1,e2,e3,e4,e5,e6,e7,e21,e22,e23,H,hC.sE [0,1,2,3,4,5,6,7],hbK1⟩
 clear hb hC hl1
 rintro E139 w138 ⟨o,j,u,G,x,e1,e2,e3,e4,e5,e6,e7,e21,e22,e23,H,hC,hb⟩
 obtain ⟨rfl,R,S⟩:=(hC.ow (i:=7) rfl).qad
 refine hK55 _ _<|rg ?_
 obtain ⟨z140,h141,hb⟩:=bd hb
 refine lp (iv z140) (qal (a:=c) (b:=1) e22 rfl h141)<|lp (iv z140) (qaa rfl)<|ln ?_
 obtain rfl:=os hb
 exact hK47 m48' _ _ (Nat.lt_succ_self _) ⟨o,z140,u,o.length,x,e1,e2,e3,e4,e5,e21,rfl,(qai h141),hC.sE [0,1,2,3,4,5,6,7],lN hl0⟩
 replace hb:=tf hq54 hb
 refine Wc.exit rfl ?_
 obtain rfl:=os hb
 obtain rfl:=(lX hl0).symm
 exact hK46 _ _ ⟨C,c,z,C.length,B,e2,e5,J,hC.sE [7],hbK0⟩
 clear hb hC hl0
 rintro E143 w142 ⟨C,c,z,D,B,e2,e5,J,hC,hb⟩
 subst hf45
 obtain ⟨rfl,P,Q⟩:=(hC.ow (i:=0) rfl).qad
 refine hK42 _ _<|Wc.seq fun _ hK144=>rg<|lp _ (qaa e5)<|lp (.slice z C.length B) (qab rfl)<|ln (hK144 _ _ ?_)
 obtain rfl:=os hb
 refine Wc.ret (hKR _ _ ?_)
 refine ⟨_,res1 results27 (tV (.slice z C.length B) rfl),_,rfl,z,C.length,B,rfl,hC.sE [0]⟩
