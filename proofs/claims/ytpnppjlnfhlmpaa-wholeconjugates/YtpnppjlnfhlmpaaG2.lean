import Derived.Test.YtpnppjlnfhlmpaaS
import Derived.Test.YtpnppjlnfhlmpaaG0
import Derived.Test.YtpnppjlnfhlmpaaG1
set_option linter.all false
namespace Go.Proofs.Ytpnppjlnfhlmpaa
open Ev Try
set_option maxRecDepth 100000
set_option maxHeartbeats 4000000
theorem qfo (n:Nat) {w:World} {O0:List Nat} (hO: ∀k∈O0,k<w.heap.size) {x:Int} (Z:I64 x) {f:Nat} {j:Option Addr} {J l:Nat} {c:List Int} (M:Rep O0 w (.sl si) [.slice j J l] c) {o:Option Addr} {K p:Nat} {d:List Int} (N:Rep O0 w (.sl si) [.slice o K p] d) {u:Int} (P:I64 u) (hio:Tk O0 w [.box f 32 [.slice j J l,.slice o K p,iv u]]) {r:(List (List Int))} (hb:F.qbn n x c d u=some r):
    Calls prog 31 #[iv x,.func (.func 44) #[] #[pg f],.func (.func 45) #[] #[pg f]] w fun e w'=> ∃v,e=.returned v∧∃(A0:Option Addr) (m0 c0:Nat),v=.slice A0 m0 c0∧Cx (fun k=>k∈blocks [.box f 32 [.slice j J l,.slice o K p,iv u]]) O0 w w' [.own 22 (.sl si) (.slice A0 m0 c0) r,.box f 32 [.slice j J l,.slice o K p,iv u]]:=by
 unfold F.qbn at hb
 have hC:=Cx.startTk hO hio
 have hsub:=hio.2.2
 replace hC:=hC.argTk (by first | exact hsub | exact fun k hk=>hsub k (by simpa [blocks,Fact.blk] using hk)) M
 replace hC:=hC.argTk (by first | exact hsub | exact fun k hk=>hsub k (by simpa [blocks,Fact.blk] using hk)) N
 clear hO
 obtain ⟨rfl,S,T⟩:=M.qae
 obtain ⟨rfl,U,V⟩:=N.qae
 clear hio hsub
 obtain ⟨I,hI,hC⟩: ∃I:Nat→Prop,I=(fun k=>k∈blocks [.box f 32 [.slice j c.length l,.slice o d.length p,iv u]])∧Cx I O0 w w ([.ro (.sl si) [.slice o d.length p] d,.ro (.sl si) [.slice j c.length l] c,.box f 32 [.slice j c.length l,.slice o d.length p,iv u]]):=⟨_,rfl,hC⟩
 refine qao func31 rfl (by rw [ntmps31]; exact nb rfl) fun KR hKR=>?_
 refine Wc.seq fun _ hK4=>rg<|lp (.slice none 0 0) (qab rfl)<|ln (hK4 _ _ ?_)
 refine Wc.seq fun _ hK5=>rg<|lp (.slice none 0 0) (qab rfl)<|ln (hK5 _ _ ?_)
 refine Wc.seq fun _ hK6=>rg<|lp (iv x) (qaa rfl) ?_
 obtain ⟨u7,h8,hb⟩:=bd hb
 refine lex.op (hC.make (s:=.bool) (n:=x) underlying80 type4 rfl rfl rfl rfl rfl (qaj h8).1 (qaj h8).2 (by decide)) ?_
 rintro _ w13 ⟨A9,c10,rfl,hl11,hc12,hC,-,-⟩
 refine lp (.slice A9 (((List.replicate x.toNat false)).length) c10) (qab rfl)<|ln (hK6 _ _ ?_)
 refine Wc.seq fun _ hK15=>?_
 refine Wc.seq fun _ hK16=>rg<|lp (iv x) (qaa rfl)<|lp (iv 0) (qaa rfl)<|ln (hK16 _ _ ?_)
 replace hC:=hC.nil 22 (.sl si)
 obtain ⟨o18,hl0,f18,hf18,hb⟩:=bn hb
 refine Wc.cut (fun E wv=> ∃(z:List (List Int)) (y:Int) (D:List Bool) (B:Option Addr) (L C:Nat),E 6=.slice none 0 0∧E 7=.slice B L C∧I64 y∧Cx I O0 w wv [.own 22 (.sl si) (.slice B L C) z,.box f 32 [.slice j c.length l,.slice o d.length p,iv u],.ro (.sl si) [.slice j c.length l] c,.ro (.sl si) [.slice o d.length p] d]∧f18 (z,y,D)=some r) (fun _ hK19=>?_) ?_
 refine Wc.block ?_
 refine Wc.loop (fun m E wv=> ∃(z:List (List Int)) (y:Int) (D:List Bool) (B:Option Addr) (L C:Nat),E 1=.func (.func 44) #[] #[pg f]∧E 2=.func (.func 45) #[] #[pg f]∧E 6=.slice none 0 0∧E 7=.slice B L C∧E 8=.slice A9 (((List.replicate x.toNat false)).length) c10∧E 15=iv x∧E 16=iv y∧I64 y∧Cx I O0 w wv [.box f 32 [.slice j c.length l,.slice o d.length p,iv u],.ro (.sl si) [.slice j c.length l] c,.ro (.sl si) [.slice o d.length p] d,.own 22 (.sl si) (.slice B L C) z,.own 4 .bool (.slice A9 (((List.replicate x.toNat false)).length) c10) D]∧loopN m (F.qaz n x c d u) (z,y,D)=some o18) n ⟨([]:List (List Int)),0,(List.replicate x.toNat false),none,0,0,rfl,rfl,rfl,rfl,rfl,rfl,rfl,(show I64 0 from by unfold I64; omega),hC.sE [4,3,2,0,1],hl0⟩ ?_
 have hbK0:=hb
 clear hb hC hl0
 rintro m21 E23 w22 ⟨z,y,D,B,L,C,e1,e2,e6,e7,e8,e15,e16,Q,hC,hl0⟩ K20 hK20
 obtain ⟨m21',o24,rfl,hb,hl0⟩:=qax hl0
 unfold F.qaz at hb
 obtain ⟨rfl,X,Y⟩:=(hC.ow (i:=3) rfl).qae
 refine Wc.seq fun _ hK25=>rg<|lp _ (qbj e16 e15)<|ln (hK25 _ _ ?_)
 refine Wc.seq fun _ hK26=>?_
 refine Wc.cond (t:=(decide (y<x))) (rfl) (fun hq27=>?_) (fun hq27=>?_)
 replace hb:=tt hq27 hb
 refine Wc.skip (hK26 _ _ ?_)
 refine Wc.seq fun _ hK28=>?_
 refine Wc.block<|Wc.seq fun _ hK29=>rg<|lp _ (qaa e16)<|lp (iv y) (qab rfl)<|ln (hK29 _ _ ?_)
 refine Wc.seq fun _ hK30=>?_
 refine Wc.seq fun _ hK31=>rg<|lp _ (qaa e8)<|lp (iv y) (qaa rfl) ?_
 obtain ⟨x32,h33,hb⟩:=bd hb
 obtain ⟨ad34,cs35,hA,hc36,hr37⟩:=hC.elo (i:=4) rfl (qad h33).2
 subst hA
 refine lp (.pointer (some (ad34.add (y.toNat*1)))) (qar (a:=y) underlying80 sizeOf4 rfl rfl (by rw [(hC.ow (i:=4) rfl).qae.1]; exact (qad h33).1)) ?_
 obtain rfl:=(show _=_ from hr37)
 refine lv (.bool x32) (qaw isAgg4 rfl (hc36 0 _ rfl))<|lp (.bool x32) (qaa rfl) ?_
 rcases bS x32 with hq38 | hq38
 replace hb:=tt hq38 hb
 refine gs rfl rfl x32 rfl hq38<|gs rfl rfl x32 rfl hq38<|gs rfl rfl x32 rfl hq38<|gs rfl rfl x32 rfl hq38<|lp (.bool true) (qap (q:=x32) rfl hq38 rfl)<|ln (hK31 _ _ ?_)
 refine Wc.cond_true (rfl) ?_
 refine Wc.exit rfl ?_
 refine hK28 _ _<|rg ?_
 obtain ⟨z39,h40,hb⟩:=bd hb
 refine lp (iv z39) (qau (a:=y) (b:=1) e16 rfl h40)<|lp (iv z39) (qaa rfl)<|ln ?_
 obtain rfl:=os hb
 exact hK20 m21' _ _ (Nat.lt_succ_self _) ⟨z,z39,D,B,z.length,C,e1,e2,e6,e7,e8,e15,rfl,(qah h40),hC.sE [0,1,2,3,4],lN hl0⟩
 replace hb:=tf hq38 hb
 refine gp rfl rfl x32 rfl hq38 (.func (.func 44) #[] #[pg f]) (qaa e1)<|gp rfl rfl x32 rfl hq38 (iv y) (qaa rfl) ?_
 replace hC:Cx I O0 w w22 ([.box f 32 [.slice j c.length l,.slice o d.length p,iv u]]++[.ro (.sl si) [.slice j c.length l] c,.ro (.sl si) [.slice o d.length p] d,.own 22 (.sl si) (.slice B z.length C) z,.own 4 .bool (.slice (some ad34) (((List.replicate x.toNat false)).length) c10) D]):=hC.sE [0,1,2,3,4]
 obtain ⟨y41,h42,hb⟩:=bd hb
 refine lex.gcl (qdp rfl rfl (show _=Value.bool x32 from rfl) hq38) (⟨_,_,qco (vs:=[iv y,pg f]) (ca:=#[pg f]) call44 rfl rfl rfl,diagram_Strands_c1_ok n hC.lt Q (hC.rd (i:=1) rfl) (hC.rd (i:=2) rfl) P hC.give h42⟩) ?_
 rintro _ w43 ⟨rfl,hK⟩
 replace hC:=hC.back hK
 clear hK
 refine gp rfl rfl x32 rfl hq38 (.bool (!y41)) (qbt (q:=y41) rfl)<|lp (.bool (!y41)) (qak (q:=x32) rfl hq38 rfl)<|ln (hK31 _ _ ?_)
 refine Wc.cond (t:=(!y41)) (rfl) (fun hq44=>?_) (fun hq44=>?_)
 replace hb:=tt hq44 hb
 refine Wc.exit rfl ?_
 refine hK28 _ _<|rg ?_
 obtain ⟨z45,h46,hb⟩:=bd hb
 refine lp (iv z45) (qau (a:=y) (b:=1) e16 rfl h46)<|lp (iv z45) (qaa rfl)<|ln ?_
 obtain rfl:=os hb
 exact hK20 m21' _ _ (Nat.lt_succ_self _) ⟨z,z45,D,B,z.length,C,e1,e2,e6,e7,e8,e15,rfl,(qah h46),hC.sE [0,1,2,3,4],lN hl0⟩
 replace hb:=tf hq44 hb
 refine Wc.skip (hK30 _ _ ?_)
 refine Wc.fresh fun E47 hE=>?_
 have e1:=cg hE 1 e1
 have e2:=cg hE 2 e2
 have e6:=cg hE 6 e6
 have e7:=cg hE 7 e7
 have e8:=cg hE 8 e8
 have e9:E47 9=iv y:=cg hE 9 rfl
 have e15:=cg hE 15 e15
 have e16:=cg hE 16 e16
 have e17:E47 17=.bool (decide (y<x)):=cg hE 17 rfl
 have e28:E47 28=.bool (!y41):=cg hE 28 rfl
 clear hE
 refine Wc.seq fun _ hK48=>rg<|lp _ (qaa e9)<|lp _ (qaa e2) ?_
 replace hC:Cx I O0 w w43 ([.box f 32 [.slice j c.length l,.slice o d.length p,iv u]]++[.ro (.sl si) [.slice j c.length l] c,.ro (.sl si) [.slice o d.length p] d,.own 22 (.sl si) (.slice B z.length C) z,.own 4 .bool (.slice (some ad34) (((List.replicate x.toNat false)).length) c10) D]):=hC.sE [0,1,2,3,4]
 obtain ⟨y49,h50,hb⟩:=bd hb
 refine lex.cl (⟨_,_,qam (vs:=[iv y,.func (.func 45) #[] #[pg f]]) call47 rfl rfl rfl,qhm n hC.lt Q (hC.rd (i:=1) rfl) (hC.rd (i:=2) rfl) P hC.give h50⟩) ?_
 rintro _ w55 ⟨A51,m52,c53,rfl,hK⟩
 replace hC:=hC.back hK
 clear hK
 obtain ⟨rfl,hl56,hc57⟩:=(hC.ow (i:=0) rfl).qae
 refine lp (.slice A51 y49.length c53) (qab rfl)<|ln (hK48 _ _ ?_)
 refine Wc.seq fun _ hK58=>?_
 refine Wc.seq fun _ hK59=>rg<|lp (.slice A51 y49.length c53) (qaa rfl)<|lp (iv (y49.length:Int)) (qay (A:=A51) (n:=y49.length) (m:=c53) underlying22 rfl)<|lp (iv 0) (qaa rfl)<|ln (hK59 _ _ ?_)
 obtain ⟨o60,hl1,hb⟩:=bd hb
 refine Wc.cut (fun E wv=> ∃(G:Int) (H:List Bool),E 1=.func (.func 44) #[] #[pg f]∧E 2=.func (.func 45) #[] #[pg f]∧E 6=.slice none 0 0∧E 7=.slice B z.length C∧E 8=.slice (some ad34) (((List.replicate x.toNat false)).length) c10∧E 9=iv y∧E 10=.slice A51 y49.length c53∧E 15=iv x∧E 16=iv y∧E 17=.bool (decide (y<x))∧E 28=.bool (!y41)∧E 32=.slice A51 y49.length c53∧E 33=iv (y49.length:Int)∧E 34=iv G∧I64 G∧Cx I O0 w wv [.box f 32 [.slice j c.length l,.slice o d.length p,iv u],.ro (.sl si) [.slice j c.length l] c,.ro (.sl si) [.slice o d.length p] d,.own 22 (.sl si) (.slice B z.length C) z,.own 4 .bool (.slice (some ad34) (((List.replicate x.toNat false)).length) c10) H,.own 3 si (.slice A51 y49.length c53) y49]∧((lim (z.length+([y49]:List (List Int)).length)).bind fun u95=>(chk (y+1)).bind fun z102=>some (.inl ((z++([y49]:List (List Int))),z102,H)):Option (((List (List Int))×Int×(List Bool))⊕(((List (List Int))×Int×(List Bool)))))=some o24) (fun _ hK61=>?_) ?_
 refine Wc.block ?_
 refine Wc.loop (fun m E wv=> ∃(G:Int) (H:List Bool),E 1=.func (.func 44) #[] #[pg f]∧E 2=.func (.func 45) #[] #[pg f]∧E 6=.slice none 0 0∧E 7=.slice B z.length C∧E 8=.slice (some ad34) (((List.replicate x.toNat false)).length) c10∧E 9=iv y∧E 10=.slice A51 y49.length c53∧E 15=iv x∧E 16=iv y∧E 17=.bool (decide (y<x))∧E 28=.bool (!y41)∧E 32=.slice A51 y49.length c53∧E 33=iv (y49.length:Int)∧E 34=iv G∧I64 G∧Cx I O0 w wv [.box f 32 [.slice j c.length l,.slice o d.length p,iv u],.ro (.sl si) [.slice j c.length l] c,.ro (.sl si) [.slice o d.length p] d,.own 22 (.sl si) (.slice B z.length C) z,.own 4 .bool (.slice (some ad34) (((List.replicate x.toNat false)).length) c10) H,.own 3 si (.slice A51 y49.length c53) y49]∧loopN m (F.qba n y49) (G,H)=some o60) n ⟨0,D,e1,e2,e6,e7,e8,e9,rfl,e15,e16,e17,e28,rfl,rfl,rfl,(show I64 0 from by unfold I64; omega),hC.sE [1,2,3,4,5,0],hl1⟩ ?_
 have hbK1:=hb
 clear hb hC hl1
 rintro m63 E65 w64 ⟨G,H,e1,e2,e6,e7,e8,e9,e10,e15,e16,e17,e28,e32,e33,e34,R,hC,hl1⟩ K62 hK62
 obtain ⟨m63',o66,rfl,hb,hl1⟩:=qax hl1
 unfold F.qba at hb
 refine Wc.seq fun _ hK67=>rg<|lp _ (qbj e34 e33)<|ln (hK67 _ _ ?_)
 refine Wc.seq fun _ hK68=>?_
 refine Wc.cond (t:=(decide (G<(y49.length:Int)))) (rfl) (fun hq69=>?_) (fun hq69=>?_)
 replace hb:=tt hq69 hb
 refine Wc.skip (hK68 _ _ ?_)
 refine Wc.seq fun _ hK70=>?_
 refine Wc.block<|Wc.seq fun _ hK71=>rg ?_
 obtain ⟨x72,h73,hb⟩:=bd hb
 obtain ⟨ad74,cs75,hA,hc76,hr77⟩:=hC.elo (i:=5) rfl (qad h73).2
 subst hA
 refine lp (.pointer (some (ad74.add (G.toNat*1)))) (qar (a:=G) underlying22 sizeOf3 e32 e34 (qad h73).1) ?_
 obtain ⟨rfl,hr77'⟩:=hr77
 refine lv (iv x72) (qaw isAgg3 rfl (hc76 0 _ rfl))<|lp (iv x72) (qab rfl)<|ln (hK71 _ _ ?_)
 refine rg<|lp _ (qaa e8)<|lp (iv x72) (qaa rfl) ?_
 obtain ⟨x78,h79,hb⟩:=bd hb
 obtain ⟨ad80,cs81,hA,hc82,hr83⟩:=hC.elo (i:=4) rfl (qad h79).2
 obtain rfl:=Option.some.inj hA
 refine lp (.pointer (some (ad34.add (x72.toNat*1)))) (qar (a:=x72) underlying80 sizeOf4 rfl rfl (by rw [(hC.ow (i:=4) rfl).qae.1]; exact (qad h79).1))<|lex.sk (hC.put (i:=4) rfl rfl sizeOf4 (k:=x72.toNat) (a:=true) (by have:=(qad h79).1; simp at this⊢; omega) (show Rep _ _ .bool _ _ from rfl) rfl rfl rfl) ?_
 rintro w84 ⟨hC,hF⟩
 refine ln (hK70 _ _ ?_)
 refine rg ?_
 obtain ⟨z85,h86,hb⟩:=bd hb
 refine lp (iv z85) (qau (a:=G) (b:=1) e34 rfl h86)<|lp (iv z85) (qaa rfl)<|ln ?_
 obtain rfl:=os hb
 exact hK62 m63' _ _ (Nat.lt_succ_self _) ⟨z85,(H.set x72.toNat true),e1,e2,e6,e7,e8,e9,e10,e15,e16,e17,e28,e32,e33,rfl,(qah h86),hC.sE [0,1,2,3,4,5],lN hl1⟩
 replace hb:=tf hq69 hb
 refine Wc.exit rfl ?_
 obtain rfl:=os hb
 obtain rfl:=(lX hl1).symm
 exact hK61 _ _ ⟨G,H,e1,e2,e6,e7,e8,e9,e10,e15,e16,e17,e28,e32,e33,e34,R,hC.sE [0,1,2,3,4,5],hbK1⟩
 clear hb hC hl1
 rintro E88 w87 ⟨G,H,e1,e2,e6,e7,e8,e9,e10,e15,e16,e17,e28,e32,e33,e34,R,hC,hb⟩
 refine hK58 _ _<|rg<|lp _ (qaa e7)<|lp _ (qaa e10) ?_
 replace hC:=hC.freeze (i:=5) rfl (hC.qgo hI (i:=5) rfl (List.forall_mem_cons.2 ⟨fun g hg=>⟨0,_,rfl,by decide,hg⟩,fun _ h=>absurd h List.not_mem_nil⟩))
 refine lex.op (hC.lit (s:=(.sl si)) (vs:=[.slice A51 y49.length c53]) (xs:=[y49]) underlying44 type22 rfl rfl (nb rfl) rfl rfl (by simp [Value.cells,Sh.n]) rfl (show Elems _ _ (.sl si) ([.slice A51 y49.length c53]++([])) ([y49]:List (List Int)) from Elems.cons (hC.rd (i:=5) rfl) (Elems.nil _ _ _))) ?_
 rintro _ w93 ⟨A89,c90,rfl,hl91,hc92,hC,-,-⟩
 obtain ⟨u95,h96,hb⟩:=bd hb
 refine lex.op (hC.app (i:=4) (s:=(.sl si)) (xs:=z) (ys:=([y49]:List (List Int))) (m:=((([y49]:List (List Int))).length)) rfl underlying44 underlying44 type22 rfl rfl rfl (hC.srco (i:=0) rfl) rfl rfl (by have:=qew h96; simp at this⊢ <;>omega) (by decide)) ?_
 rintro _ w101 ⟨A97,c98,rfl,hl99,hc100,hC,-,-⟩
 refine lp (.slice A97 ((z++([y49]:List (List Int))).length) c98) (qab rfl)<|ln (hK28 _ _ ?_)
 refine rg ?_
 obtain ⟨z102,h103,hb⟩:=bd hb
 refine lp (iv z102) (qau (a:=y) (b:=1) e16 rfl h103)<|lp (iv z102) (qaa rfl)<|ln ?_
 obtain rfl:=os hb
 exact hK20 m21' _ _ (Nat.lt_succ_self _) ⟨(z++([y49]:List (List Int))),z102,H,A97,(z++([y49]:List (List Int))).length,c98,e1,e2,e6,rfl,e8,e15,rfl,(qah h103),hC.sE [1,2,3,4,5],lN hl0⟩
 replace hb:=tf hq27 hb
 refine Wc.exit rfl ?_
 obtain rfl:=os hb
 obtain rfl:=(lX hl0).symm
 exact hK19 _ _ ⟨z,y,D,B,z.length,C,e6,e7,Q,hC.sE [3,0,1,2],hbK0⟩
 clear hb hC hl0
 rintro E105 w104 ⟨z,y,D,B,L,C,e6,e7,Q,hC,hb⟩
 subst hf18
 obtain ⟨rfl,X,Y⟩:=(hC.ow (i:=0) rfl).qae
 refine hK15 _ _<|Wc.seq fun _ hK106=>rg<|lp _ (qaa e7)<|lp (.slice B z.length C) (qab rfl)<|ln (hK106 _ _ ?_)
 obtain rfl:=os hb
 subst hI
 refine Wc.ret (hKR _ _ ?_)
 refine ⟨_,res1 results31 (tV (.slice B z.length C) rfl),_,rfl,B,z.length,C,rfl,hC.sE [0,1]⟩

theorem diagram_Strands_ok (n:Nat) {w:World} {O0:List Nat} (hO: ∀k∈O0,k<w.heap.size) {d:Option Addr} {j f:Nat} {g:List Int} (l:Rep O0 w (.sl si) [.slice d j f] g) {b:Option Addr} {o c:Nat} {a:List Int} (p:Rep O0 w (.sl si) [.slice b o c] a) {h:Int} (s:I64 h) {r:(List (List Int))} (hb:F.qfw n g a h=some r):
    Calls prog 29 #[.agg #[.slice d j f,.slice b o c,iv h]] w fun e w'=> ∃v,e=.returned v∧∃(A0:Option Addr) (m0 c0:Nat),v=.slice A0 m0 c0∧Cx (fun _=>False) O0 w w' [.own 22 (.sl si) (.slice A0 m0 c0) r]:=by
 unfold F.qfw at hb
 have hC:=Cx.start hO
 replace hC:=hC.arg rfl l
 replace hC:=hC.arg rfl p
 clear hO
 obtain ⟨rfl,y,z⟩:=l.qae
 obtain ⟨rfl,u,x⟩:=p.qae
 refine qao func29 rfl (by rw [ntmps29]; exact nb rfl) fun KR hKR=>?_
 refine Wc.seq fun _ hK3=>rg<|lex.op (hC.box (cs:=[.slice d g.length f,.slice b a.length c,iv h]) rfl rfl) ?_
 rintro _ w5 ⟨g4,rfl,hC,hF,-⟩
 refine lp (.slice none 0 0) (qab rfl)<|ln (hK3 _ _ ?_)
 refine Wc.seq fun _ hK7=>?_
 refine Wc.seq fun _ hK8=>rg<|lv (.agg #[.slice d g.length f,.slice b a.length c,iv h]) (qaq (hC.bx (i:=0) rfl) isAgg32 sizeOf32 rfl) ?_
 obtain ⟨y9,h10,hb⟩:=bd hb
 refine lex.cl (⟨_,_,qam (vs:=[.agg #[.slice d g.length f,.slice b a.length c,iv h]]) call11 rfl rfl rfl,qdm n hC.lt (hC.rd (i:=2) rfl) (hC.rd (i:=1) rfl) s h10⟩) ?_
 rintro _ w11 ⟨rfl,hK⟩
 replace hC:=hC.merge hK
 clear hK
 refine lp (.bool (!y9)) (qbt (q:=y9) rfl)<|ln (hK8 _ _ ?_)
 refine Wc.cond (t:=(!y9)) (rfl) (fun hq12=>?_) (fun hq12=>?_)
 replace hb:=tt hq12 hb
 refine Wc.seq fun _ hK13=>rg<|lp (.slice none 0 0) (qab rfl)<|ln (hK13 _ _ ?_)
 replace hC:=hC.nil 22 (.sl si)
 obtain rfl:=os hb
 refine Wc.ret (hKR _ _ ?_)
 refine ⟨_,res1 results29 (tV (.slice none 0 0) rfl),_,rfl,none,0,0,rfl,hC.sE [0]⟩
 replace hb:=tf hq12 hb
 refine Wc.skip (hK7 _ _ ?_)
 refine Wc.seq fun _ hK15=>rg<|lp (.func (.func 44) #[] #[pg g4]) (qga rfl)<|lp (.func (.func 44) #[] #[pg g4]) (qab rfl)<|ln (hK15 _ _ ?_)
 refine Wc.seq fun _ hK16=>rg<|lp (.pointer (some ((⟨g4,0,none⟩:Addr).add 1))) (qaf (sz:=1) underlying32 rfl sizeOf22 (by decide) rfl rfl)<|lv (.slice b a.length c) (qal (hC.bx (i:=0) rfl) isAgg22 rfl rfl)<|lp (iv (a.length:Int)) (qay (A:=b) (n:=a.length) (m:=c) underlying22 rfl)<|lp (.func (.func 44) #[] #[pg g4]) (qaa rfl)<|lp (.func (.func 45) #[] #[pg g4]) (qga rfl) ?_
 replace hC:Cx (fun _=>False) O0 w w11 ([.box g4 32 [.slice d g.length f,.slice b a.length c,iv h]]++[.ro (.sl si) [.slice b a.length c] a,.ro (.sl si) [.slice d g.length f] g]):=hC.sE [0,1,2]
 obtain ⟨y17,h18,hb⟩:=bd hb
 refine lex.cl (⟨_,_,qam (vs:=[iv (a.length:Int),.func (.func 44) #[] #[pg g4],.func (.func 45) #[] #[pg g4]]) call31 rfl rfl rfl,qfo n hC.lt (I64.len u x) (hC.rd (i:=2) rfl) (hC.rd (i:=1) rfl) s hC.give h18⟩) ?_
 rintro _ w23 ⟨A19,m20,c21,rfl,hK⟩
 replace hC:=hC.back hK
 clear hK
 obtain ⟨rfl,hl24,hc25⟩:=(hC.ow (i:=0) rfl).qae
 refine lp (.slice A19 y17.length c21) (qab rfl)<|ln (hK16 _ _ ?_)
 obtain rfl:=os hb
 refine Wc.ret (hKR _ _ ?_)
 refine ⟨_,res1 results29 (tV (.slice A19 y17.length c21) rfl),_,rfl,A19,y17.length,c21,rfl,hC.sE [0]⟩

theorem qhu (n:Nat) {w:World} {O0:List Nat} (hO: ∀k∈O0,k<w.heap.size) {d:Option Addr} {o f:Nat} {j:List Int} (p:Rep O0 w (.sl si) [.slice d o f] j) {g:Option Addr} {s h:Nat} {l:List Int} (u:Rep O0 w (.sl si) [.slice g s h] l) {c:Int} (x:I64 c) {r:Int} (hb:F.qem n j l c=some r):
    Calls prog 12 #[.agg #[.slice d o f,.slice g s h,iv c]] w fun e w'=> ∃v,e=.returned v∧v=iv r∧I64 r∧Cx (fun _=>False) O0 w w' []:=by
 unfold F.qem at hb
 have hC:=Cx.start hO
 replace hC:=hC.arg rfl p
 replace hC:=hC.arg rfl u
 clear hO
 obtain ⟨rfl,y,z⟩:=p.qae
 obtain ⟨rfl,B,C⟩:=u.qae
 refine qao func12 rfl (by rw [ntmps12]; exact nb rfl) fun KR hKR=>?_
 refine Wc.seq fun _ hK3=>rg<|lex.op (hC.box (cs:=[.slice d j.length f,.slice g l.length h,iv c]) rfl rfl) ?_
 rintro _ w5 ⟨g4,rfl,hC,hF,-⟩
 refine lp (iv 0) (qab rfl)<|ln (hK3 _ _ ?_)
 refine Wc.seq fun _ hK7=>?_
 refine Wc.seq fun _ hK8=>rg<|lv (.agg #[.slice d j.length f,.slice g l.length h,iv c]) (qaq (hC.bx (i:=0) rfl) isAgg32 sizeOf32 rfl) ?_
 obtain ⟨y9,h10,hb⟩:=bd hb
 refine lex.cl (⟨_,_,qam (vs:=[.agg #[.slice d j.length f,.slice g l.length h,iv c]]) call11 rfl rfl rfl,qdm n hC.lt (hC.rd (i:=2) rfl) (hC.rd (i:=1) rfl) x h10⟩) ?_
 rintro _ w11 ⟨rfl,hK⟩
 replace hC:=hC.merge hK
 clear hK
 refine lp (.bool (!y9)) (qbt (q:=y9) rfl)<|ln (hK8 _ _ ?_)
 refine Wc.cond (t:=(!y9)) (rfl) (fun hq12=>?_) (fun hq12=>?_)
 replace hb:=tt hq12 hb
 refine Wc.seq fun _ hK13=>rg<|lp (iv 0) (qab rfl)<|ln (hK13 _ _ ?_)
 obtain rfl:=os hb
 refine Wc.ret (hKR _ _ ?_)
 refine ⟨_,res1 results12 (tV (iv 0) rfl),_,rfl,rfl,(show I64 0 from by unfold I64; omega),hC.sE []⟩
 replace hb:=tf hq12 hb
 refine Wc.skip (hK7 _ _ ?_)
 refine Wc.seq fun _ hK14=>?_
 refine Wc.regionMix [] (frm [] ([]:List Fact) ([]:List Fact)) (fun _=>rfl) mixed (by decide+kernel) (by decide+kernel) fun w16 hw15=>?_
 replace hC:=hC.step (Fr.qcx hw15)
 have hM:=Fr.refl (fun k=>k∈blocks ([]:List Fact)) w16
 clear hw15
 have hS:=hC
 refine mixE.load hM (v:=.agg #[.slice d j.length f,.slice g l.length h,iv c]) (fun _ hF=>qaq (hS.bx2 (i:=0) rfl [] (by decide) hF) isAgg32 sizeOf32 rfl) ?_
 obtain ⟨y17,h18,hb⟩:=bd hb
 refine mixE.cl hM (⟨_,_,qam (vs:=[.agg #[.slice d j.length f,.slice g l.length h,iv c]]) call29 rfl rfl rfl,diagram_Strands_ok n hC.lt (hC.rd (i:=2) rfl) (hC.rd (i:=1) rfl) x h18⟩) ?_
 rintro _ w23 ⟨A19,m20,c21,rfl,hK⟩
 have hBf22:=Beside.cl (i:=0) hM hK rfl
 replace hM:=hM.none hK.fr
 refine ⟨hM,?_⟩
 replace hC:=hC.merge hK
 clear hK
 obtain ⟨rfl,hl24,hc25⟩:=(hC.ow (i:=0) rfl).qae
 refine mp (iv (y17.length:Int)) (qay (A:=A19) (n:=y17.length) (m:=c21) underlying44 rfl)<|mp (.pointer (some ((⟨g4,0,none⟩:Addr).add 2))) (qaf (sz:=1) underlying32 rfl sizeOf3 (by decide) rfl rfl)<|mixE.load hM (v:=iv c) (fun _ hF=>qal (hS.bx2 (i:=0) rfl [] (by decide) hF) isAgg3 rfl rfl) ?_
 obtain ⟨z26,h27,hb⟩:=bd hb
 refine mp (iv z26) (qau (a:=(y17.length:Int)) (b:=c) rfl rfl h27)<|mp (iv z26) (qab rfl)<|mixE.nil ?_
 clear hS hM
 refine hK14 _ _ ?_
 obtain rfl:=os hb
 refine Wc.ret (hKR _ _ ?_)
 refine ⟨_,res1 results12 (tV (iv z26) rfl),_,rfl,rfl,(qah h27),hC.sE []⟩

theorem diagram_Faces_c1_ok (n:Nat) {w:World} {O0:List Nat} (hO: ∀k∈O0,k<w.heap.size) {a:Int} (b:I64 a) {r:Bool} (hb:F.qhs n a=some r):
    Calls prog 30 #[iv a] w fun e w'=> ∃v,e=.returned v∧v=.bool r∧Cx (fun _=>False) O0 w w' []:=by
 unfold F.qhs at hb
 have hC:=Cx.start hO
 clear hO
 refine qao func30 rfl (by rw [ntmps30]; exact nb rfl) fun KR hKR=>?_
 refine Wc.seq fun _ hK1=>rg<|lp (.bool false) (qab rfl)<|ln (hK1 _ _ ?_)
 refine Wc.seq fun _ hK2=>rg<|lp (.bool true) (qab rfl)<|ln (hK2 _ _ ?_)
 obtain rfl:=os hb
 refine Wc.ret (hKR _ _ ?_)
 refine ⟨_,res1 results30 (tV (.bool true) rfl),_,rfl,rfl,hC.sE []⟩

theorem diagram_Faces_c2_ok (n:Nat) {w:World} {O0:List Nat} (hO: ∀k∈O0,k<w.heap.size) {p:Int} (A:I64 p) {l:Nat} {d:Option Addr} {m f:Nat} {j:List Int} (q:Rep O0 w (.sl si) [.slice d m f] j) {b:Option Addr} {o c:Nat} {g:List Int} (s:Rep O0 w (.sl si) [.slice b o c] g) {h:Int} (z:I64 h) (hio:Tk O0 w [.box l 32 [.slice d m f,.slice b o c,iv h]]) {r:Int} (hb:F.qha n p j g h=some r):
    Calls prog 32 #[iv p,pg l] w fun e w'=> ∃v,e=.returned v∧v=iv r∧I64 r∧Cx (fun k=>k∈blocks [.box l 32 [.slice d m f,.slice b o c,iv h]]) O0 w w' [.box l 32 [.slice d m f,.slice b o c,iv h]]:=by
 unfold F.qha at hb
 have hC:=Cx.startTk hO hio
 have hsub:=hio.2.2
 replace hC:=hC.argTk (by first | exact hsub | exact fun k hk=>hsub k (by simpa [blocks,Fact.blk] using hk)) q
 replace hC:=hC.argTk (by first | exact hsub | exact fun k hk=>hsub k (by simpa [blocks,Fact.blk] using hk)) s
 clear hO
 obtain ⟨rfl,t,u⟩:=q.qae
 obtain ⟨rfl,x,y⟩:=s.qae
 clear hio hsub
 obtain ⟨I,hI,hC⟩: ∃I:Nat→Prop,I=(fun k=>k∈blocks [.box l 32 [.slice d j.length f,.slice b g.length c,iv h]])∧Cx I O0 w w ([.ro (.sl si) [.slice b g.length c] g,.ro (.sl si) [.slice d j.length f] j,.box l 32 [.slice d j.length f,.slice b g.length c,iv h]]):=⟨_,rfl,hC⟩
 refine qao func32 rfl (by rw [ntmps32]; exact nb rfl) fun KR hKR=>?_
 refine Wc.seq fun _ hK4=>rg<|lp (iv 0) (qab rfl)<|ln (hK4 _ _ ?_)
 refine Wc.seq fun _ hK5=>rg<|lp (.pointer (some ((⟨l,0,none⟩:Addr).add 1))) (qaf (sz:=1) underlying32 rfl sizeOf22 (by decide) rfl rfl)<|lv (.slice b g.length c) (qal (hC.bx (i:=2) rfl) isAgg22 rfl rfl)<|lp (iv p) (qaa rfl) ?_
 obtain ⟨x6,h7,hb⟩:=bd hb
 obtain ⟨ad8,cs9,hA,hc10,hr11⟩:=hC.elr (i:=0) rfl (qad h7).2
 subst hA
 refine lp (.pointer (some (ad8.add (p.toNat*1)))) (qar (a:=p) underlying22 sizeOf3 rfl rfl (qad h7).1) ?_
 obtain ⟨rfl,hr11'⟩:=hr11
 refine lv (iv x6) (qaw isAgg3 rfl (hc10 0 _ rfl)) ?_
 obtain ⟨y12,h13,hb⟩:=bd hb
 refine lex.cl (⟨_,_,qam (vs:=[iv x6,iv (-1)]) call33 rfl rfl rfl,qhj n hC.lt (qbi hr11') (show I64 (-1) from by unfold I64; omega) h13⟩) ?_
 rintro _ w15 ⟨rfl,hr14,hK⟩
 replace hC:=hC.merge hK
 clear hK
 refine lp (iv y12) (qab rfl)<|ln (hK5 _ _ ?_)
 obtain rfl:=os hb
 subst hI
 refine Wc.ret (hKR _ _ ?_)
 refine ⟨_,res1 results32 (tV (iv y12) rfl),_,rfl,rfl,hr14,hC.sE [2]⟩

theorem qhr (n:Nat) {w:World} {O0:List Nat} (hO: ∀k∈O0,k<w.heap.size) {o:Int} (J:I64 o) {l:Nat} {f:Option Addr} {z g:Nat} {c:List Int} (C:Rep O0 w (.sl si) [.slice f z g] c) {h:Option Addr} {A j:Nat} {d:List Int} (D:Rep O0 w (.sl si) [.slice h A j] d) {p:Int} (G:I64 p) (hio:Tk O0 w [.box l 32 [.slice f z g,.slice h A j,iv p]]) {r:(List Int)} (hb:F.qeu n o c d p=some r):
    Calls prog 47 #[iv o,.func (.func 32) #[] #[pg l]] w fun e w'=> ∃v,e=.returned v∧∃(A0:Option Addr) (m0 c0:Nat),v=.slice A0 m0 c0∧Cx (fun k=>k∈blocks [.box l 32 [.slice f z g,.slice h A j,iv p]]) O0 w w' [.own 3 si (.slice A0 m0 c0) r,.box l 32 [.slice f z g,.slice h A j,iv p]]:=by
 unfold F.qeu at hb
 have hC:=Cx.startTk hO hio
 have hsub:=hio.2.2
 replace hC:=hC.argTk (by first | exact hsub | exact fun k hk=>hsub k (by simpa [blocks,Fact.blk] using hk)) C
 replace hC:=hC.argTk (by first | exact hsub | exact fun k hk=>hsub k (by simpa [blocks,Fact.blk] using hk)) D
 clear hO
 obtain ⟨rfl,K,L⟩:=C.qae
 obtain ⟨rfl,M,N⟩:=D.qae
 clear hio hsub
 obtain ⟨I,hI,hC⟩: ∃I:Nat→Prop,I=(fun k=>k∈blocks [.box l 32 [.slice f c.length g,.slice h d.length j,iv p]])∧Cx I O0 w w ([.ro (.sl si) [.slice h d.length j] d,.ro (.sl si) [.slice f c.length g] c,.box l 32 [.slice f c.length g,.slice h d.length j,iv p]]):=⟨_,rfl,hC⟩
 refine qao func47 rfl (by rw [ntmps47]; exact nb rfl) fun KR hKR=>?_
 refine Wc.seq fun _ hK4=>rg<|lp (.slice none 0 0) (qab rfl)<|ln (hK4 _ _ ?_)
 refine Wc.seq fun _ hK5=>rg<|lp (iv o) (qaa rfl)<|lex.op (hC.lit (s:=si) (vs:=[iv o]) (xs:=[o]) underlying22 type3 rfl rfl (nb rfl) rfl rfl (by simp [Value.cells,Sh.n]) rfl (show Elems _ _ si ([iv o]++([])) ([o]:List Int) from Elems.cons (⟨rfl,I64.wr J⟩) (Elems.nil _ _ _))) ?_
 rintro _ w10 ⟨A6,c7,rfl,hl8,hc9,hC,-,-⟩
 refine lp (.slice A6 ((([o]:List Int)).length) c7) (qab rfl)<|ln (hK5 _ _ ?_)
 refine Wc.seq fun _ hK12=>?_
 refine Wc.seq fun _ hK13=>rg<|lp (.func (.func 32) #[] #[pg l]) (qaa rfl)<|lp (iv o) (qaa rfl) ?_
 replace hC:Cx I O0 w w10 ([.box l 32 [.slice f c.length g,.slice h d.length j,iv p]]++[.own 3 si (.slice A6 ((([o]:List Int)).length) c7) ([o]:List Int),.ro (.sl si) [.slice h d.length j] d,.ro (.sl si) [.slice f c.length g] c]):=hC.sE [3,0,1,2]
 obtain ⟨y14,h15,hb⟩:=bd hb
 refine lex.cl (⟨_,_,qco (vs:=[iv o,pg l]) (ca:=#[pg l]) call32 rfl rfl rfl,diagram_Faces_c2_ok n hC.lt J (hC.rd (i:=3) rfl) (hC.rd (i:=2) rfl) G hC.give h15⟩) ?_
 rintro _ w17 ⟨rfl,hr16,hK⟩
 replace hC:=hC.back hK
 clear hK
 refine lp (iv y14) (qab rfl)<|ln (hK13 _ _ ?_)
 obtain ⟨o18,hl0,f18,hf18,hb⟩:=bn hb
 refine Wc.cut (fun E wv=> ∃(u:List Int) (q:Int) (x:Option Addr) (B y:Nat),E 4=.slice none 0 0∧E 5=.slice x B y∧I64 q∧Cx I O0 w wv [.own 3 si (.slice x B y) u,.box l 32 [.slice f c.length g,.slice h d.length j,iv p],.ro (.sl si) [.slice f c.length g] c,.ro (.sl si) [.slice h d.length j] d]∧f18 (u,q)=some r) (fun _ hK19=>?_) ?_
 refine Wc.block ?_
 refine Wc.loop (fun m E wv=> ∃(u:List Int) (q:Int) (x:Option Addr) (B y:Nat),E 0=iv o∧E 1=.func (.func 32) #[] #[pg l]∧E 4=.slice none 0 0∧E 5=.slice x B y∧E 6=iv q∧I64 q∧Cx I O0 w wv [.box l 32 [.slice f c.length g,.slice h d.length j,iv p],.ro (.sl si) [.slice f c.length g] c,.ro (.sl si) [.slice h d.length j] d,.own 3 si (.slice x B y) u]∧loopN m (F.qdz n o c d p) (u,q)=some o18) n ⟨([o]:List Int),y14,A6,(([o]:List Int)).length,c7,rfl,rfl,rfl,rfl,rfl,hr16,hC.sE [0,3,2,1],hl0⟩ ?_
 have hbK0:=hb
 clear hb hC hl0
 rintro m21 E23 w22 ⟨u,q,x,B,y,e0,e1,e4,e5,e6,H,hC,hl0⟩ K20 hK20
 obtain ⟨m21',o24,rfl,hb,hl0⟩:=qax hl0
 unfold F.qdz at hb
 obtain ⟨rfl,P,Q⟩:=(hC.ow (i:=3) rfl).qae
 refine Wc.seq fun _ hK25=>?_
 refine Wc.seq fun _ hK26=>rg<|lp _ (qaa e6)<|lp _ (qaa e0)<|lp (.bool (!(decide (q=o)))) (pu_neq (k:=.i64) (a:=q) (b:=o) rfl rfl)<|ln (hK26 _ _ ?_)
 refine Wc.cond (t:=(!(decide (q=o)))) (rfl) (fun hq27=>?_) (fun hq27=>?_)
 replace hb:=tt hq27 hb
 refine Wc.skip (hK25 _ _ ?_)
 refine Wc.seq fun _ hK28=>?_
 refine Wc.block<|rg<|lp _ (qaa e5)<|lp _ (qaa e6)<|lex.op (hC.lit (s:=si) (vs:=[iv q]) (xs:=[q]) underlying22 type3 rfl rfl (nb rfl) rfl rfl (by simp [Value.cells,Sh.n]) rfl (show Elems _ _ si ([iv q]++([])) ([q]:List Int) from Elems.cons (⟨rfl,I64.wr H⟩) (Elems.nil _ _ _))) ?_
 rintro _ w33 ⟨A29,c30,rfl,hl31,hc32,hC,-,-⟩
 obtain ⟨u35,h36,hb⟩:=bd hb
 refine lex.op (hC.app (i:=4) (s:=si) (xs:=u) (ys:=([q]:List Int)) (m:=((([q]:List Int)).length)) rfl underlying22 underlying22 type3 rfl rfl rfl (hC.srco (i:=0) rfl) rfl rfl (by have:=qew h36; simp at this⊢ <;>omega) (by decide)) ?_
 rintro _ w41 ⟨A37,c38,rfl,hl39,hc40,hC,-,-⟩
 refine lp (.slice A37 ((u++([q]:List Int)).length) c38) (qab rfl)<|ln (hK28 _ _ ?_)
 refine rg<|lp _ (qaa e1)<|lp _ (qaa e6) ?_
 replace hC:Cx I O0 w w41 ([.box l 32 [.slice f c.length g,.slice h d.length j,iv p]]++[.own 3 si (.slice A29 ((([q]:List Int)).length) c30) ([q]:List Int),.ro (.sl si) [.slice f c.length g] c,.ro (.sl si) [.slice h d.length j] d,.own 3 si (.slice A37 ((u++([q]:List Int)).length) c38) (u++([q]:List Int))]):=hC.sE [1,0,2,3,4]
 obtain ⟨y42,h43,hb⟩:=bd hb
 refine lex.cl (⟨_,_,qco (vs:=[iv q,pg l]) (ca:=#[pg l]) call32 rfl rfl rfl,diagram_Faces_c2_ok n hC.lt H (hC.rd (i:=2) rfl) (hC.rd (i:=3) rfl) G hC.give h43⟩) ?_
 rintro _ w45 ⟨rfl,hr44,hK⟩
 replace hC:=hC.back hK
 clear hK
 refine lp (iv y42) (qab rfl)<|ln ?_
 obtain rfl:=os hb
 exact hK20 m21' _ _ (Nat.lt_succ_self _) ⟨(u++([q]:List Int)),y42,A37,(u++([q]:List Int)).length,c38,e0,e1,e4,rfl,rfl,hr44,hC.sE [0,2,3,4],lN hl0⟩
 replace hb:=tf hq27 hb
 refine Wc.exit rfl ?_
 obtain rfl:=os hb
 obtain rfl:=(lX hl0).symm
 exact hK19 _ _ ⟨u,q,x,u.length,y,e4,e5,H,hC.sE [3,0,1,2],hbK0⟩
 clear hb hC hl0
 rintro E47 w46 ⟨u,q,x,B,y,e4,e5,H,hC,hb⟩
 subst hf18
 obtain ⟨rfl,P,Q⟩:=(hC.ow (i:=0) rfl).qae
 refine hK12 _ _<|Wc.seq fun _ hK48=>rg<|lp _ (qaa e5)<|lp (.slice x u.length y) (qab rfl)<|ln (hK48 _ _ ?_)
 obtain rfl:=os hb
 subst hI
 refine Wc.ret (hKR _ _ ?_)
 refine ⟨_,res1 results47 (tV (.slice x u.length y) rfl),_,rfl,x,u.length,y,rfl,hC.sE [0,1]⟩

theorem qgb (n:Nat) {w:World} {O0:List Nat} (hO: ∀k∈O0,k<w.heap.size) {p:Int} (Z:I64 p) {x:Nat} {f:Option Addr} {J j:Nat} {c:List Int} (N:Rep O0 w (.sl si) [.slice f J j] c) {l:Option Addr} {K o:Nat} {d:List Int} (P:Rep O0 w (.sl si) [.slice l K o] d) {y:Int} (Q:I64 y) (hio:Tk O0 w [.box x 32 [.slice f J j,.slice l K o,iv y]]) {r:(List (List Int))} (hb:F.qck n p c d y=some r):
    Calls prog 31 #[iv p,.func (.func 30) #[] #[],.func (.func 32) #[] #[pg x]] w fun e w'=> ∃v,e=.returned v∧∃(A0:Option Addr) (m0 c0:Nat),v=.slice A0 m0 c0∧Cx (fun k=>k∈blocks [.box x 32 [.slice f J j,.slice l K o,iv y]]) O0 w w' [.own 22 (.sl si) (.slice A0 m0 c0) r,.box x 32 [.slice f J j,.slice l K o,iv y]]:=by
 unfold F.qck at hb
 have hC:=Cx.startTk hO hio
 have hsub:=hio.2.2
 replace hC:=hC.argTk (by first | exact hsub | exact fun k hk=>hsub k (by simpa [blocks,Fact.blk] using hk)) N
 replace hC:=hC.argTk (by first | exact hsub | exact fun k hk=>hsub k (by simpa [blocks,Fact.blk] using hk)) P
 clear hO
 obtain ⟨rfl,S,T⟩:=N.qae
 obtain ⟨rfl,U,V⟩:=P.qae
 clear hio hsub
 obtain ⟨I,hI,hC⟩: ∃I:Nat→Prop,I=(fun k=>k∈blocks [.box x 32 [.slice f c.length j,.slice l d.length o,iv y]])∧Cx I O0 w w ([.ro (.sl si) [.slice l d.length o] d,.ro (.sl si) [.slice f c.length j] c,.box x 32 [.slice f c.length j,.slice l d.length o,iv y]]):=⟨_,rfl,hC⟩
 refine qao func31 rfl (by rw [ntmps31]; exact nb rfl) fun KR hKR=>?_
 refine Wc.seq fun _ hK4=>rg<|lp (.slice none 0 0) (qab rfl)<|ln (hK4 _ _ ?_)
 refine Wc.seq fun _ hK5=>rg<|lp (.slice none 0 0) (qab rfl)<|ln (hK5 _ _ ?_)
 refine Wc.seq fun _ hK6=>rg<|lp (iv p) (qaa rfl) ?_
 obtain ⟨u7,h8,hb⟩:=bd hb
 refine lex.op (hC.make (s:=.bool) (n:=p) underlying80 type4 rfl rfl rfl rfl rfl (qaj h8).1 (qaj h8).2 (by decide)) ?_
 rintro _ w13 ⟨A9,c10,rfl,hl11,hc12,hC,-,-⟩
 refine lp (.slice A9 (((List.replicate p.toNat false)).length) c10) (qab rfl)<|ln (hK6 _ _ ?_)
 refine Wc.seq fun _ hK15=>?_
 refine Wc.seq fun _ hK16=>rg<|lp (iv p) (qaa rfl)<|lp (iv 0) (qaa rfl)<|ln (hK16 _ _ ?_)
 replace hC:=hC.nil 22 (.sl si)
 obtain ⟨o18,hl0,f18,hf18,hb⟩:=bn hb
 refine Wc.cut (fun E wv=> ∃(z:List (List Int)) (u:Int) (D:List Bool) (B:Option Addr) (L C:Nat),E 6=.slice none 0 0∧E 7=.slice B L C∧I64 u∧Cx I O0 w wv [.own 22 (.sl si) (.slice B L C) z,.box x 32 [.slice f c.length j,.slice l d.length o,iv y],.ro (.sl si) [.slice f c.length j] c,.ro (.sl si) [.slice l d.length o] d]∧f18 (z,u,D)=some r) (fun _ hK19=>?_) ?_
 refine Wc.block ?_
 refine Wc.loop (fun m E wv=> ∃(z:List (List Int)) (u:Int) (D:List Bool) (B:Option Addr) (L C:Nat),E 1=.func (.func 30) #[] #[]∧E 2=.func (.func 32) #[] #[pg x]∧E 6=.slice none 0 0∧E 7=.slice B L C∧E 8=.slice A9 (((List.replicate p.toNat false)).length) c10∧E 15=iv p∧E 16=iv u∧I64 u∧Cx I O0 w wv [.box x 32 [.slice f c.length j,.slice l d.length o,iv y],.ro (.sl si) [.slice f c.length j] c,.ro (.sl si) [.slice l d.length o] d,.own 22 (.sl si) (.slice B L C) z,.own 4 .bool (.slice A9 (((List.replicate p.toNat false)).length) c10) D]∧loopN m (F.qcf n p c d y) (z,u,D)=some o18) n ⟨([]:List (List Int)),0,(List.replicate p.toNat false),none,0,0,rfl,rfl,rfl,rfl,rfl,rfl,rfl,(show I64 0 from by unfold I64; omega),hC.sE [4,3,2,0,1],hl0⟩ ?_
 have hbK0:=hb
 clear hb hC hl0
 rintro m21 E23 w22 ⟨z,u,D,B,L,C,e1,e2,e6,e7,e8,e15,e16,M,hC,hl0⟩ K20 hK20
 obtain ⟨m21',o24,rfl,hb,hl0⟩:=qax hl0
 unfold F.qcf at hb
 obtain ⟨rfl,X,Y⟩:=(hC.ow (i:=3) rfl).qae
 refine Wc.seq fun _ hK25=>rg<|lp _ (qbj e16 e15)<|ln (hK25 _ _ ?_)
 refine Wc.seq fun _ hK26=>?_
 refine Wc.cond (t:=(decide (u<p))) (rfl) (fun hq27=>?_) (fun hq27=>?_)
 replace hb:=tt hq27 hb
 refine Wc.skip (hK26 _ _ ?_)
 refine Wc.seq fun _ hK28=>?_
 refine Wc.block<|Wc.seq fun _ hK29=>rg<|lp _ (qaa e16)<|lp (iv u) (qab rfl)<|ln (hK29 _ _ ?_)
 refine Wc.seq fun _ hK30=>?_
 refine Wc.seq fun _ hK31=>rg<|lp _ (qaa e8)<|lp (iv u) (qaa rfl) ?_
 obtain ⟨x32,h33,hb⟩:=bd hb
 obtain ⟨ad34,cs35,hA,hc36,hr37⟩:=hC.elo (i:=4) rfl (qad h33).2
 subst hA
 refine lp (.pointer (some (ad34.add (u.toNat*1)))) (qar (a:=u) underlying80 sizeOf4 rfl rfl (by rw [(hC.ow (i:=4) rfl).qae.1]; exact (qad h33).1)) ?_
 obtain rfl:=(show _=_ from hr37)
 refine lv (.bool x32) (qaw isAgg4 rfl (hc36 0 _ rfl))<|lp (.bool x32) (qaa rfl) ?_
 rcases bS x32 with hq38 | hq38
 replace hb:=tt hq38 hb
 refine gs rfl rfl x32 rfl hq38<|gs rfl rfl x32 rfl hq38<|gs rfl rfl x32 rfl hq38<|gs rfl rfl x32 rfl hq38<|lp (.bool true) (qap (q:=x32) rfl hq38 rfl)<|ln (hK31 _ _ ?_)
 refine Wc.cond_true (rfl) ?_
 refine Wc.exit rfl ?_
 refine hK28 _ _<|rg ?_
 obtain ⟨z39,h40,hb⟩:=bd hb
 refine lp (iv z39) (qau (a:=u) (b:=1) e16 rfl h40)<|lp (iv z39) (qaa rfl)<|ln ?_
 obtain rfl:=os hb
 exact hK20 m21' _ _ (Nat.lt_succ_self _) ⟨z,z39,D,B,z.length,C,e1,e2,e6,e7,e8,e15,rfl,(qah h40),hC.sE [0,1,2,3,4],lN hl0⟩
 replace hb:=tf hq38 hb
 refine gp rfl rfl x32 rfl hq38 (.func (.func 30) #[] #[]) (qaa e1)<|gp rfl rfl x32 rfl hq38 (iv u) (qaa rfl) ?_
 obtain ⟨y41,h42,hb⟩:=bd hb
 refine lex.gcl (qdp rfl rfl (show _=Value.bool x32 from rfl) hq38) (⟨_,_,qco (vs:=[iv u]) (ca:=#[]) call30 rfl rfl rfl,diagram_Faces_c1_ok n hC.lt M h42⟩) ?_
 rintro _ w43 ⟨rfl,hK⟩
 replace hC:=hC.merge hK
 clear hK
 refine gp rfl rfl x32 rfl hq38 (.bool (!y41)) (qbt (q:=y41) rfl)<|lp (.bool (!y41)) (qak (q:=x32) rfl hq38 rfl)<|ln (hK31 _ _ ?_)
 refine Wc.cond (t:=(!y41)) (rfl) (fun hq44=>?_) (fun hq44=>?_)
 replace hb:=tt hq44 hb
 refine Wc.exit rfl ?_
 refine hK28 _ _<|rg ?_
 obtain ⟨z45,h46,hb⟩:=bd hb
 refine lp (iv z45) (qau (a:=u) (b:=1) e16 rfl h46)<|lp (iv z45) (qaa rfl)<|ln ?_
 obtain rfl:=os hb
 exact hK20 m21' _ _ (Nat.lt_succ_self _) ⟨z,z45,D,B,z.length,C,e1,e2,e6,e7,e8,e15,rfl,(qah h46),hC.sE [0,1,2,3,4],lN hl0⟩
 replace hb:=tf hq44 hb
 refine Wc.skip (hK30 _ _ ?_)
 refine Wc.fresh fun E47 hE=>?_
 have e1:=cg hE 1 e1
 have e2:=cg hE 2 e2
 have e6:=cg hE 6 e6
 have e7:=cg hE 7 e7
 have e8:=cg hE 8 e8
 have e9:E47 9=iv u:=cg hE 9 rfl
 have e15:=cg hE 15 e15
 have e16:=cg hE 16 e16
 have e17:E47 17=.bool (decide (u<p)):=cg hE 17 rfl
 have e28:E47 28=.bool (!y41):=cg hE 28 rfl
 clear hE
 refine Wc.seq fun _ hK48=>rg<|lp _ (qaa e9)<|lp _ (qaa e2) ?_
 replace hC:Cx I O0 w w43 ([.box x 32 [.slice f c.length j,.slice l d.length o,iv y]]++[.ro (.sl si) [.slice f c.length j] c,.ro (.sl si) [.slice l d.length o] d,.own 22 (.sl si) (.slice B z.length C) z,.own 4 .bool (.slice (some ad34) (((List.replicate p.toNat false)).length) c10) D]):=hC.sE [0,1,2,3,4]
 obtain ⟨y49,h50,hb⟩:=bd hb
 refine lex.cl (⟨_,_,qam (vs:=[iv u,.func (.func 32) #[] #[pg x]]) call47 rfl rfl rfl,qhr n hC.lt M (hC.rd (i:=1) rfl) (hC.rd (i:=2) rfl) Q hC.give h50⟩) ?_
 rintro _ w55 ⟨A51,m52,c53,rfl,hK⟩
 replace hC:=hC.back hK
 clear hK
 obtain ⟨rfl,hl56,hc57⟩:=(hC.ow (i:=0) rfl).qae
 refine lp (.slice A51 y49.length c53) (qab rfl)<|ln (hK48 _ _ ?_)
 refine Wc.seq fun _ hK58=>?_
 refine Wc.seq fun _ hK59=>rg<|lp (.slice A51 y49.length c53) (qaa rfl)<|lp (iv (y49.length:Int)) (qay (A:=A51) (n:=y49.length) (m:=c53) underlying22 rfl)<|lp (iv 0) (qaa rfl)<|ln (hK59 _ _ ?_)
 obtain ⟨o60,hl1,hb⟩:=bd hb
 refine Wc.cut (fun E wv=> ∃(G:Int) (H:List Bool),E 1=.func (.func 30) #[] #[]∧E 2=.func (.func 32) #[] #[pg x]∧E 6=.slice none 0 0∧E 7=.slice B z.length C∧E 8=.slice (some ad34) (((List.replicate p.toNat false)).length) c10∧E 9=iv u∧E 10=.slice A51 y49.length c53∧E 15=iv p∧E 16=iv u∧E 17=.bool (decide (u<p))∧E 28=.bool (!y41)∧E 32=.slice A51 y49.length c53∧E 33=iv (y49.length:Int)∧E 34=iv G∧I64 G∧Cx I O0 w wv [.box x 32 [.slice f c.length j,.slice l d.length o,iv y],.ro (.sl si) [.slice f c.length j] c,.ro (.sl si) [.slice l d.length o] d,.own 22 (.sl si) (.slice B z.length C) z,.own 4 .bool (.slice (some ad34) (((List.replicate p.toNat false)).length) c10) H,.own 3 si (.slice A51 y49.length c53) y49]∧((lim (z.length+([y49]:List (List Int)).length)).bind fun u95=>(chk (u+1)).bind fun z102=>some (.inl ((z++([y49]:List (List Int))),z102,H)):Option (((List (List Int))×Int×(List Bool))⊕(((List (List Int))×Int×(List Bool)))))=some o24) (fun _ hK61=>?_) ?_
 refine Wc.block ?_
 refine Wc.loop (fun m E wv=> ∃(G:Int) (H:List Bool),E 1=.func (.func 30) #[] #[]∧E 2=.func (.func 32) #[] #[pg x]∧E 6=.slice none 0 0∧E 7=.slice B z.length C∧E 8=.slice (some ad34) (((List.replicate p.toNat false)).length) c10∧E 9=iv u∧E 10=.slice A51 y49.length c53∧E 15=iv p∧E 16=iv u∧E 17=.bool (decide (u<p))∧E 28=.bool (!y41)∧E 32=.slice A51 y49.length c53∧E 33=iv (y49.length:Int)∧E 34=iv G∧I64 G∧Cx I O0 w wv [.box x 32 [.slice f c.length j,.slice l d.length o,iv y],.ro (.sl si) [.slice f c.length j] c,.ro (.sl si) [.slice l d.length o] d,.own 22 (.sl si) (.slice B z.length C) z,.own 4 .bool (.slice (some ad34) (((List.replicate p.toNat false)).length) c10) H,.own 3 si (.slice A51 y49.length c53) y49]∧loopN m (F.qch n y49) (G,H)=some o60) n ⟨0,D,e1,e2,e6,e7,e8,e9,rfl,e15,e16,e17,e28,rfl,rfl,rfl,(show I64 0 from by unfold I64; omega),hC.sE [1,2,3,4,5,0],hl1⟩ ?_
 have hbK1:=hb
 clear hb hC hl1
 rintro m63 E65 w64 ⟨G,H,e1,e2,e6,e7,e8,e9,e10,e15,e16,e17,e28,e32,e33,e34,R,hC,hl1⟩ K62 hK62
 obtain ⟨m63',o66,rfl,hb,hl1⟩:=qax hl1
 unfold F.qch at hb
 refine Wc.seq fun _ hK67=>rg<|lp _ (qbj e34 e33)<|ln (hK67 _ _ ?_)
 refine Wc.seq fun _ hK68=>?_
 refine Wc.cond (t:=(decide (G<(y49.length:Int)))) (rfl) (fun hq69=>?_) (fun hq69=>?_)
 replace hb:=tt hq69 hb
 refine Wc.skip (hK68 _ _ ?_)
 refine Wc.seq fun _ hK70=>?_
 refine Wc.block<|Wc.seq fun _ hK71=>rg ?_
 obtain ⟨x72,h73,hb⟩:=bd hb
 obtain ⟨ad74,cs75,hA,hc76,hr77⟩:=hC.elo (i:=5) rfl (qad h73).2
 subst hA
 refine lp (.pointer (some (ad74.add (G.toNat*1)))) (qar (a:=G) underlying22 sizeOf3 e32 e34 (qad h73).1) ?_
 obtain ⟨rfl,hr77'⟩:=hr77
 refine lv (iv x72) (qaw isAgg3 rfl (hc76 0 _ rfl))<|lp (iv x72) (qab rfl)<|ln (hK71 _ _ ?_)
 refine rg<|lp _ (qaa e8)<|lp (iv x72) (qaa rfl) ?_
 obtain ⟨x78,h79,hb⟩:=bd hb
 obtain ⟨ad80,cs81,hA,hc82,hr83⟩:=hC.elo (i:=4) rfl (qad h79).2
 obtain rfl:=Option.some.inj hA
 refine lp (.pointer (some (ad34.add (x72.toNat*1)))) (qar (a:=x72) underlying80 sizeOf4 rfl rfl (by rw [(hC.ow (i:=4) rfl).qae.1]; exact (qad h79).1))<|lex.sk (hC.put (i:=4) rfl rfl sizeOf4 (k:=x72.toNat) (a:=true) (by have:=(qad h79).1; simp at this⊢; omega) (show Rep _ _ .bool _ _ from rfl) rfl rfl rfl) ?_
 rintro w84 ⟨hC,hF⟩
 refine ln (hK70 _ _ ?_)
 refine rg ?_
 obtain ⟨z85,h86,hb⟩:=bd hb
 refine lp (iv z85) (qau (a:=G) (b:=1) e34 rfl h86)<|lp (iv z85) (qaa rfl)<|ln ?_
 obtain rfl:=os hb
 exact hK62 m63' _ _ (Nat.lt_succ_self _) ⟨z85,(H.set x72.toNat true),e1,e2,e6,e7,e8,e9,e10,e15,e16,e17,e28,e32,e33,rfl,(qah h86),hC.sE [0,1,2,3,4,5],lN hl1⟩
 replace hb:=tf hq69 hb
 refine Wc.exit rfl ?_
 obtain rfl:=os hb
 obtain rfl:=(lX hl1).symm
 exact hK61 _ _ ⟨G,H,e1,e2,e6,e7,e8,e9,e10,e15,e16,e17,e28,e32,e33,e34,R,hC.sE [0,1,2,3,4,5],hbK1⟩
 clear hb hC hl1
 rintro E88 w87 ⟨G,H,e1,e2,e6,e7,e8,e9,e10,e15,e16,e17,e28,e32,e33,e34,R,hC,hb⟩
 refine hK58 _ _<|rg<|lp _ (qaa e7)<|lp _ (qaa e10) ?_
 replace hC:=hC.freeze (i:=5) rfl (hC.qgo hI (i:=5) rfl (List.forall_mem_cons.2 ⟨fun g hg=>⟨0,_,rfl,by decide,hg⟩,fun _ h=>absurd h List.not_mem_nil⟩))
 refine lex.op (hC.lit (s:=(.sl si)) (vs:=[.slice A51 y49.length c53]) (xs:=[y49]) underlying44 type22 rfl rfl (nb rfl) rfl rfl (by simp [Value.cells,Sh.n]) rfl (show Elems _ _ (.sl si) ([.slice A51 y49.length c53]++([])) ([y49]:List (List Int)) from Elems.cons (hC.rd (i:=5) rfl) (Elems.nil _ _ _))) ?_
 rintro _ w93 ⟨A89,c90,rfl,hl91,hc92,hC,-,-⟩
 obtain ⟨u95,h96,hb⟩:=bd hb
 refine lex.op (hC.app (i:=4) (s:=(.sl si)) (xs:=z) (ys:=([y49]:List (List Int))) (m:=((([y49]:List (List Int))).length)) rfl underlying44 underlying44 type22 rfl rfl rfl (hC.srco (i:=0) rfl) rfl rfl (by have:=qew h96; simp at this⊢ <;>omega) (by decide)) ?_
 rintro _ w101 ⟨A97,c98,rfl,hl99,hc100,hC,-,-⟩
 refine lp (.slice A97 ((z++([y49]:List (List Int))).length) c98) (qab rfl)<|ln (hK28 _ _ ?_)
 refine rg ?_
 obtain ⟨z102,h103,hb⟩:=bd hb
 refine lp (iv z102) (qau (a:=u) (b:=1) e16 rfl h103)<|lp (iv z102) (qaa rfl)<|ln ?_
 obtain rfl:=os hb
 exact hK20 m21' _ _ (Nat.lt_succ_self _) ⟨(z++([y49]:List (List Int))),z102,H,A97,(z++([y49]:List (List Int))).length,c98,e1,e2,e6,rfl,e8,e15,rfl,(qah h103),hC.sE [1,2,3,4,5],lN hl0⟩
 replace hb:=tf hq27 hb
 refine Wc.exit rfl ?_
 obtain rfl:=os hb
 obtain rfl:=(lX hl0).symm
 exact hK19 _ _ ⟨z,u,D,B,z.length,C,e6,e7,M,hC.sE [3,0,1,2],hbK0⟩
 clear hb hC hl0
 rintro E105 w104 ⟨z,u,D,B,L,C,e6,e7,M,hC,hb⟩
 subst hf18
 obtain ⟨rfl,X,Y⟩:=(hC.ow (i:=0) rfl).qae
 refine hK15 _ _<|Wc.seq fun _ hK106=>rg<|lp _ (qaa e7)<|lp (.slice B z.length C) (qab rfl)<|ln (hK106 _ _ ?_)
 obtain rfl:=os hb
 subst hI
 refine Wc.ret (hKR _ _ ?_)
 refine ⟨_,res1 results31 (tV (.slice B z.length C) rfl),_,rfl,B,z.length,C,rfl,hC.sE [0,1]⟩
