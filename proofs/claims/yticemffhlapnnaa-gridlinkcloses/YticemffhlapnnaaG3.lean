import Derived.Test.YticemffhlapnnaaS
import Derived.Test.YticemffhlapnnaaG0
import Derived.Test.YticemffhlapnnaaG1
import Derived.Test.YticemffhlapnnaaG2
set_option linter.all false
namespace Go.Proofs.Yticemffhlapnnaa
open Ev Try
set_option maxRecDepth 100000
set_option maxHeartbeats 4000000
theorem gridlink_join_c1_ok (n:Nat) {w:World} {O0:List Nat} (hO: ∀k∈O0,k<w.heap.size) {l:Int} (s:I64 l) {h:Nat} {d:Option Addr} {g f:Nat} {c:List (Int×Int)} (o:Rep O0 w (.sl (.pr si si)) [.slice d g f] c) (hio:Tk O0 w [.box h 56 [.slice d g f]]) {r:Int} (hb:F.qfi n l c=some r):
    Calls prog 69 #[iv l,pg h] w fun e w'=> ∃v,e=.returned v∧v=iv r∧I64 r∧Cx (fun k=>k∈blocks [.box h 56 [.slice d g f]]) O0 w w' [.box h 56 [.slice d g f]]:=by
 unfold F.qfi at hb
 have hC:=Cx.startTk hO hio
 have hsub:=hio.2.2
 replace hC:=hC.argTk (by first | exact hsub | exact fun k hk=>hsub k (by simpa [blocks,Fact.blk] using hk)) o
 clear hO
 obtain ⟨rfl,p,q⟩:=o.qad
 clear hio hsub
 obtain ⟨I,hI,hC⟩: ∃I:Nat→Prop,I=(fun k=>k∈blocks [.box h 56 [.slice d c.length f]])∧Cx I O0 w w ([.ro (.sl (.pr si si)) [.slice d c.length f] c,.box h 56 [.slice d c.length f]]):=⟨_,rfl,hC⟩
 refine qaq func69 rfl (by rw [ntmps69]; exact nb rfl) fun KR hKR=>?_
 refine Wc.seq fun _ hK3=>rg<|lp (iv 0) (qab rfl)<|ln (hK3 _ _ ?_)
 refine Wc.seq fun _ hK4=>rg<|lp (iv l) (qaa rfl) ?_
 obtain ⟨z5,h6,hb⟩:=bd hb
 refine lp (iv z5) (qal (a:=l) (b:=1) rfl rfl h6)<|lv (.slice d c.length f) (qaj isAgg56 rfl ((hC.bx (i:=1) rfl).cell (j:=0) rfl))<|lp (iv (c.length:Int)) (qao (A:=d) (n:=c.length) (m:=f) underlying56 rfl) ?_
 obtain ⟨u7,h8,hb⟩:=bd hb
 refine lp (iv (Int.tmod z5 (c.length:Int))) (pu_remc (a:=z5) (b:=(c.length:Int)) rfl rfl h8)<|lp (iv (Int.tmod z5 (c.length:Int))) (qab rfl)<|ln (hK4 _ _ ?_)
 obtain rfl:=os hb
 subst hI
 refine Wc.ret (hKR _ _ ?_)
 refine ⟨_,res1 results69 (tV (iv (Int.tmod z5 (c.length:Int))) rfl),_,rfl,rfl,(I64.rem (qai h6)),hC.sE [1]⟩

theorem gridlink_join_ok (n:Nat) {w:World} {O0:List Nat} (hO: ∀k∈O0,k<w.heap.size) {o:Nat} {p:Option Addr} {C q:Nat} {s:List Int} (J:Rep O0 w (.sl si) [.slice p C q] s) {d:Option Addr} {B f:Nat} {g:List Int} {z:Int} (L:I64 z) {l:Option Addr} {G h:Nat} {c:List (Int×Int)} (H:Rep O0 w (.sl (.pr si si)) [.slice l G h] c) (hio:Tk O0 w [.own 3 si (.slice d B f) g,.box o 28 [.slice p C q,.slice d B f,iv z]]) {r:(List Int)×Int} (hb:F.qfm n s g z c=some r):
    Calls prog 41 #[pg o,.slice l G h] w fun e w'=> ∃v,e=.returned v∧v=.tuple #[]∧I64 r.2∧Cx (fun k=>k∈blocks [.own 3 si (.slice d B f) g,.box o 28 [.slice p C q,.slice d B f,iv z]]) O0 w w' [.own 3 si (.slice d B f) r.1,.box o 28 [.slice p C q,.slice d B f,iv r.2]]:=by
 unfold F.qfm at hb
 have hC:=Cx.startTk hO hio
 have hsub:=hio.2.2
 replace hC:=hC.argTk (by first | exact hsub | exact fun k hk=>hsub k (by simpa [blocks,Fact.blk] using hk)) J
 replace hC:=hC.argTk (by first | exact hsub | exact fun k hk=>hsub k (by simpa [blocks,Fact.blk] using hk)) H
 clear hO
 obtain ⟨rfl,P,Q⟩:=J.qad
 obtain ⟨rfl,M,N⟩:=H.qad
 obtain ⟨rfl,R,S⟩:=(hC.ow (i:=2) rfl).qad
 clear hio hsub
 obtain ⟨I,hI,hC⟩: ∃I:Nat→Prop,I=(fun k=>k∈blocks [.own 3 si (.slice d g.length f) g,.box o 28 [.slice p s.length q,.slice d g.length f,iv z]])∧Cx I O0 w w ([.ro (.sl (.pr si si)) [.slice l c.length h] c,.ro (.sl si) [.slice p s.length q] s,.own 3 si (.slice d g.length f) g,.box o 28 [.slice p s.length q,.slice d g.length f,iv z]]):=⟨_,rfl,hC⟩
 refine qaq func41 rfl (by rw [ntmps41]; exact nb rfl) fun KR hKR=>?_
 refine Wc.seq fun _ hK5=>rg<|lex.op (hC.box (cs:=[.slice l c.length h]) rfl rfl) ?_
 rintro _ w7 ⟨g6,rfl,hC,hF,-⟩
 refine ln (hK5 _ _ ?_)
 refine Wc.seqJ (fun E wv=> ∃(y:Int),E 0=pg o∧E 3=pg g6∧I64 y∧Cx I O0 w wv [.box o 28 [.slice p s.length q,.slice d g.length f,iv y],.ro (.sl si) [.slice p s.length q] s,.own 3 si (.slice d g.length f) g,.box g6 56 [.slice l c.length h],.ro (.sl (.pr si si)) [.slice l c.length h] c]∧F.qfh n g c y=some r) (fun _ hK9=>?_) ?_
 refine Wc.seq fun _ hK10=>rg<|lv (.slice l c.length h) (qaj isAgg56 rfl ((hC.bx (i:=0) rfl).cell (j:=0) rfl))<|lp (iv (c.length:Int)) (qao (A:=l) (n:=c.length) (m:=h) underlying56 rfl)<|lp (.bool (decide ((c.length:Int)=0))) (qef (k:=.i64) (a:=(c.length:Int)) (b:=0) rfl rfl)<|ln (hK10 _ _ ?_)
 refine Wc.cond (t:=(decide ((c.length:Int)=0))) (rfl) (fun hq11=>?_) (fun hq11=>?_)
 replace hb:=tt hq11 hb
 refine rg<|lp (pg o) (qaa rfl)<|lp (pg o) (pu_nilp rfl)<|lp (.pointer (some ((⟨o,0,none⟩:Addr).add 2))) (qag (sz:=1) underlying28 rfl sizeOf3 (by decide) rfl rfl)<|lv (iv z) (qam (hC.bx (i:=4) rfl) isAgg3 rfl rfl) ?_
 obtain ⟨z12,h13,hb⟩:=bd hb
 refine lp (iv z12) (qal (a:=z) (b:=1) rfl rfl h13)<|lp (pg o) (pu_nilp rfl)<|lp (.pointer (some ((⟨o,0,none⟩:Addr).add 2))) (qag (sz:=1) underlying28 rfl sizeOf3 (by decide) rfl rfl)<|lex.sk (hC.setf (i:=4) (k:=2) (v:=iv z12) rfl sizeOf3 rfl rfl rfl rfl) ?_
 rintro w14 ⟨hC,hF⟩
 refine ln ?_
 exact hK9 _ _ ⟨z12,rfl,rfl,(qai h13),hC.sE [4,2,3,0,1],hb⟩
 replace hb:=tf hq11 hb
 refine Wc.skip ?_
 exact hK9 _ _ ⟨z,rfl,rfl,L,hC.sE [4,2,3,0,1],hb⟩
 clear hb hC
 rintro E16 w15 ⟨y,e0,e3,K,hC,hb⟩
 unfold F.qfh at hb
 refine Wc.seq fun _ hK17=>rg<|lp (.func (.func 69) #[] #[pg g6]) (pu_funcc (map_of (qey e3 m2_nil)))<|lp (.func (.func 69) #[] #[pg g6]) (qab rfl)<|ln (hK17 _ _ ?_)
 refine Wc.seq fun _ hK18=>rg<|lv (.slice l c.length h) (qaj isAgg56 e3 ((hC.bx (i:=3) rfl).cell (j:=0) rfl))<|lp (iv (c.length:Int)) (qao (A:=l) (n:=c.length) (m:=h) underlying56 rfl)<|lp (iv 0) (qaa rfl)<|ln (hK18 _ _ ?_)
 obtain ⟨o19,hl1,hb⟩:=bd hb
 refine Wc.cut (fun E wv=> ∃(u:Int) (x:List Int),I64 u∧Cx I O0 w wv [.own 3 si (.slice d g.length f) x,.box o 28 [.slice p s.length q,.slice d g.length f,iv y],.ro (.sl si) [.slice p s.length q] s]∧(some (x,y):Option ((List Int)×Int))=some r) (fun _ hK20=>?_) ?_
 refine Wc.block ?_
 refine Wc.loop (fun m E wv=> ∃(u:Int) (x:List Int),E 0=pg o∧E 3=pg g6∧E 4=.func (.func 69) #[] #[pg g6]∧E 19=.slice l c.length h∧E 20=iv (c.length:Int)∧E 21=iv u∧I64 u∧Cx I O0 w wv [.box o 28 [.slice p s.length q,.slice d g.length f,iv y],.ro (.sl si) [.slice p s.length q] s,.own 3 si (.slice d g.length f) x,.box g6 56 [.slice l c.length h],.ro (.sl (.pr si si)) [.slice l c.length h] c]∧loopN m (F.qdv n c) (u,x)=some o19) n ⟨0,g,e0,e3,rfl,rfl,rfl,rfl,(show I64 0 from by unfold I64; omega),hC.sE [0,1,2,3,4],hl1⟩ ?_
 have hbK1:=hb
 clear hb hC hl1
 rintro m22 E24 w23 ⟨u,x,e0,e3,e4,e19,e20,e21,D,hC,hl1⟩ K21 hK21
 obtain ⟨m22',o25,rfl,hb,hl1⟩:=qan hl1
 unfold F.qdv at hb
 refine Wc.seq fun _ hK26=>rg<|lp _ (qap e21 e20)<|ln (hK26 _ _ ?_)
 refine Wc.seq fun _ hK27=>?_
 refine Wc.cond (t:=(decide (u<(c.length:Int)))) (rfl) (fun hq28=>?_) (fun hq28=>?_)
 replace hb:=tt hq28 hb
 refine Wc.skip (hK27 _ _ ?_)
 refine Wc.seq fun _ hK29=>?_
 refine Wc.block<|Wc.seq fun _ hK30=>rg<|lp _ (qaa e21) ?_
 obtain ⟨x31,h32,hb⟩:=bd hb
 obtain ⟨ad33,cs34,hA,hc35,hr36⟩:=hC.elr (i:=4) rfl (qac h32).2
 subst hA
 refine lp (.pointer (some (ad33.add (u.toNat*2)))) (qaf (a:=u) underlying56 sizeOf58 e19 e21 (qac h32).1) ?_
 obtain ⟨k37,k38,rfl,hr39,hr40⟩:=hr36
 obtain ⟨rfl,hr39⟩:=hr39
 obtain ⟨rfl,hr40⟩:=hr40
 refine lv (.agg #[iv x31.1,iv x31.2]) (ld_agg isAgg58 sizeOf58 rfl rfl hc35)<|lex.op (hC.alloc (cs:=[iv 0,iv 0]) zeroValue58 rfl) ?_
 rintro _ w42 ⟨g41,rfl,hC,hF,-⟩
 refine lp (iv u) (qab rfl)<|lex.sk (hC.seta (i:=0) (ds:=[iv x31.1,iv x31.2]) rfl type58 rfl rfl rfl rfl rfl) ?_
 rintro w44 ⟨hC,hF⟩
 refine ln (hK30 _ _ ?_)
 refine Wc.seq fun _ hK45=>?_
 refine Wc.regionMix [] (frm [] ([]:List Fact) ([]:List Fact)) (fun _=>rfl) mixed (by decide+kernel) (by decide+kernel) fun w47 hw46=>?_
 replace hC:=hC.step (Fr.qbb hw46)
 have hM:=Fr.refl (fun k=>k∈blocks ([]:List Fact)) w47
 clear hw46
 have hS:=hC
 refine mixE.load hM (v:=.slice (some ad33) c.length h) (fun _ hF=>qaj isAgg56 e3 ((hS.bx2 (i:=4) rfl [] (by decide) hF).cell (j:=0) rfl))<|mp (.func (.func 69) #[] #[pg g6]) (qaa e4)<|mp (iv u) (qaa rfl) ?_
 replace hC:Cx I O0 w w47 ([.box g6 56 [.slice (some ad33) c.length h]]++[.box g41 58 [iv x31.1,iv x31.2],.box o 28 [.slice p s.length q,.slice d g.length f,iv y],.ro (.sl si) [.slice p s.length q] s,.own 3 si (.slice d g.length f) x,.ro (.sl (.pr si si)) [.slice (some ad33) c.length h] c]):=hC.sE [4,0,1,2,3,5]
 obtain ⟨y48,h49,hb⟩:=bd hb
 refine mixE.cl hM (⟨_,_,qft (vs:=[iv u,pg g6]) (ca:=#[pg g6]) call69 rfl rfl rfl,gridlink_join_c1_ok n hC.lt D (hC.rd (i:=5) rfl) hC.give h49⟩) ?_
 rintro _ w51 ⟨rfl,hr50,hK⟩
 replace hM:=hM.none (Cx.still (hC.bx (i:=0) rfl) hK)
 refine ⟨hM,?_⟩
 replace hC:=hC.back hK
 clear hK
 obtain ⟨x52,h53,hb⟩:=bd hb
 obtain ⟨ad54,cs55,hA,ho58,hc56,hr57⟩:=hS.elr2 (i:=5) rfl (qac h53).2 []
 obtain rfl:=Option.some.inj hA
 refine mp (.pointer (some (ad33.add (y48.toNat*2)))) (qaf (a:=y48) underlying56 sizeOf58 rfl rfl (qac h53).1) ?_
 obtain ⟨k59,k60,rfl,hr61,hr62⟩:=hr57
 obtain ⟨rfl,hr61⟩:=hr61
 obtain ⟨rfl,hr62⟩:=hr62
 refine mp (.pointer (some ((ad33.add (y48.toNat*2)).add 0))) (qag (A:=(ad33.add (y48.toNat*2))) (off:=0) (sz:=1) underlying58 rfl sizeOf3 (by decide) rfl rfl)<|mixE.load hM (v:=iv x52.1) (fun _ hF=>qaj isAgg3 rfl (hF.cell (hc56 0 _ rfl) (off2 ho58)))<|mp (iv x52.1) (qab rfl)<|mixE.nil ?_
 clear hS hM
 refine hK45 _ _<|Wc.fresh fun E63 hE=>?_
 have e0:=cg hE 0 e0
 have e3:=cg hE 3 e3
 have e4:=cg hE 4 e4
 have e5:E63 5=iv u:=cg hE 5 rfl
 have e6:E63 6=pg g41:=cg hE 6 rfl
 have e7:E63 7=iv x52.1:=cg hE 7 rfl
 have e19:=cg hE 19 e19
 have e20:=cg hE 20 e20
 have e21:=cg hE 21 e21
 have e22:E63 22=.bool (decide (u<(c.length:Int))):=cg hE 22 rfl
 clear hE
 refine Wc.regionMix [36,38,42,46] (frm [36,38,42,46] ([]:List Fact) [.own 3 si (.slice d g.length f) x]) (fun _=>rfl) mixed (by decide+kernel) (by decide+kernel) fun w65 hw64=>?_
 replace hC:=hC.step (Fr.qbb hw64)
 have hM:=Fr.refl (fun k=>k∈blocks ([]:List Fact)) w65
 clear hw64
 have hS:=hC
 have hD:Fr (fun k=>k∈blocks (([]:List Fact)++[.own 3 si (.slice d g.length f) x])) w65 w65:=hM.wide
 have hUf3:Beside (([]:List Fact)++[.own 3 si (.slice d g.length f) x]) w65 (.slice d g.length f):=Beside.of (i:=0) rfl
 refine mp (pg o) (qaa e0)<|mp (pg o) (pu_nilp rfl)<|mp (.pointer (some ((⟨o,0,none⟩:Addr).add 1))) (qag (sz:=1) underlying28 rfl sizeOf22 (by decide) rfl rfl)<|mixE.steady hD (v:=.slice d g.length f) (fun _ hF=>qam (hS.bx2 (i:=2) rfl [4] (by decide) hF) isAgg22 rfl rfl)<|mp (.pointer (some ((⟨g41,0,none⟩:Addr).add 1))) (qag (sz:=1) underlying58 rfl sizeOf3 (by decide) rfl e6)<|mixE.steady hD (v:=iv x31.2) (fun _ hF=>qam (hS.bx2 (i:=1) rfl [4] (by decide) hF) isAgg3 rfl rfl)<|mp (pg o) (qaa e0)<|mp (pg o) (pu_nilp rfl)<|mp (.pointer (some ((⟨o,0,none⟩:Addr).add 1))) (qag (sz:=1) underlying28 rfl sizeOf22 (by decide) rfl rfl)<|mixE.steady hD (v:=.slice d g.length f) (fun _ hF=>qam (hS.bx2 (i:=2) rfl [4] (by decide) hF) isAgg22 rfl rfl)<|mp (iv x52.1) (qaa e7)<|mp (iv x52.1) (qaa e7)<|mp (.pointer (some ((⟨g41,0,none⟩:Addr).add 1))) (qag (sz:=1) underlying58 rfl sizeOf3 (by decide) rfl e6)<|mixE.steady hD (v:=iv x31.2) (fun _ hF=>qam (hS.bx2 (i:=1) rfl [4] (by decide) hF) isAgg3 rfl rfl) ?_
 obtain ⟨x66,h67,hb⟩:=bd hb
 obtain ⟨ad68,cs69,hA,ho72,hc70,hr71⟩:=hS.elo2 (i:=4) rfl (qac h67).2 [] (by decide)
 subst hA
 refine mp (.pointer (some (ad68.add (x31.2.toNat*1)))) (qaf (a:=x31.2) underlying22 sizeOf3 rfl rfl (by rw [(hC.ow (i:=4) rfl).qad.1]; exact (qac h67).1))<|mixE.sk hD (hC.put (i:=4) rfl rfl sizeOf3 (k:=x31.2.toNat) (a:=x52.1) (by have:=(qac h67).1; simp at this⊢; omega) (⟨rfl,I64.wr (qay hr61)⟩) rfl rfl rfl) ?_
 rintro w73 ⟨hC,hF⟩
 replace hD:=hD.beside hUf3 hF
 clear hF
 refine ⟨hD,?_⟩
 obtain ⟨x74,h75,hb⟩:=bd hb
 obtain ⟨ad76,cs77,hA,hc78,hr79⟩:=hC.elo (i:=4) rfl (qac h75).2
 obtain rfl:=Option.some.inj hA
 refine mp (.pointer (some (ad68.add (x52.1.toNat*1)))) (qaf (a:=x52.1) underlying22 sizeOf3 rfl rfl (by rw [(hC.ow (i:=4) rfl).qad.1]; exact (qac h75).1))<|mixE.sk hD (hC.put (i:=4) rfl rfl sizeOf3 (k:=x52.1.toNat) (a:=x31.2) (by have:=(qac h75).1; simp at this⊢; omega) (⟨rfl,I64.wr (qay hr40)⟩) rfl rfl rfl) ?_
 rintro w80 ⟨hC,hF⟩
 replace hD:=hD.beside hUf3 hF
 clear hF
 refine ⟨hD,?_⟩
 refine mixE.nil ?_
 clear hS hM
 clear hD
 refine hK29 _ _<|rg ?_
 obtain ⟨z81,h82,hb⟩:=bd hb
 refine lp (iv z81) (qal (a:=u) (b:=1) e21 rfl h82)<|lp (iv z81) (qaa rfl)<|ln ?_
 obtain rfl:=os hb
 exact hK21 m22' _ _ (Nat.lt_succ_self _) ⟨z81,((x.set x31.2.toNat x52.1).set x52.1.toNat x31.2),e0,e3,e4,e19,e20,rfl,(qai h82),hC.sE [2,3,4,0,5],lN hl1⟩
 replace hb:=tf hq28 hb
 refine Wc.exit rfl ?_
 obtain rfl:=os hb
 obtain rfl:=(lX hl1).symm
 exact hK20 _ _ ⟨u,x,D,hC.sE [2,0,1],hbK1⟩
 clear hb hC hl1
 rintro E84 w83 ⟨u,x,D,hC,hb⟩
 obtain rfl:=os hb
 subst hI
 refine hKR _ _ ?_
 refine ⟨_,res0 results41,_,rfl,rfl,K,hC.sE [0,1]⟩

theorem gridlink_Diagram_ok (n:Nat) {w:World} {O0:List Nat} (hO: ∀k∈O0,k<w.heap.size) {p:Option Addr} {a3 u:Nat} {c:List Int} (a4:Rep O0 w (.sl si) [.slice p a3 u] c) {C:Option Addr} {a5 D:Nat} {y:List Int} (a6:Rep O0 w (.sl si) [.slice C a5 D] y) {r:(List Int)×(List Int)×Int×Int} (hb:F.qex n c y=some r):
    Calls prog 13 #[.agg #[.slice p a3 u,.slice C a5 D]] w fun e w'=> ∃v,e=.returned v∧∃(A0:Option Addr) (m0 c0:Nat) (A1:Option Addr) (m1 c1:Nat),v=.tuple #[.agg #[.slice A0 m0 c0,.slice A1 m1 c1,iv r.2.2.1],iv r.2.2.2]∧I64 r.2.2.1∧I64 r.2.2.2∧Cx (fun _=>False) O0 w w' [.own 3 si (.slice A0 m0 c0) r.1,.own 3 si (.slice A1 m1 c1) r.2.1]:=by
 unfold F.qex at hb
 have hC:=Cx.start hO
 replace hC:=hC.arg rfl a4
 replace hC:=hC.arg rfl a6
 clear hO
 obtain ⟨rfl,b1,b2⟩:=a4.qad
 obtain ⟨rfl,b3,b4⟩:=a6.qad
 refine qaq func13 rfl (by rw [ntmps13]; exact nb rfl) fun KR hKR=>?_
 refine Wc.seq fun _ hK3=>rg<|lex.op (hC.box (cs:=[.slice p c.length u,.slice C y.length D]) rfl rfl) ?_
 rintro _ w5 ⟨g4,rfl,hC,hF,-⟩
 refine lex.op (hC.alloc (cs:=[.slice none 0 0,.slice none 0 0,iv 0]) zeroValue28 rfl) ?_
 rintro _ w8 ⟨g7,rfl,hC,hF,-⟩
 refine lp (iv 0) (qab rfl)<|ln (hK3 _ _ ?_)
 refine Wc.seq fun _ hK10=>?_
 refine Wc.seq fun _ hK11=>rg<|lv (.agg #[.slice p c.length u,.slice C y.length D]) (qbs (hC.bx (i:=1) rfl) isAgg24 sizeOf24 rfl) ?_
 obtain ⟨y12,h13,hb⟩:=bd hb
 refine lex.cl (⟨_,_,qas (vs:=[.agg #[.slice p c.length u,.slice C y.length D]]) call26 rfl rfl rfl,grid_Valid_ok n hC.lt (hC.rd (i:=3) rfl) (hC.rd (i:=2) rfl) h13⟩) ?_
 rintro _ w14 ⟨rfl,hK⟩
 replace hC:=hC.merge hK
 clear hK
 refine lp (.bool (!y12)) (pu_not (q:=y12) rfl)<|ln (hK11 _ _ ?_)
 refine Wc.cond (t:=(!y12)) (rfl) (fun hq15=>?_) (fun hq15=>?_)
 replace hb:=tt hq15 hb
 refine Wc.seq fun _ hK16=>rg<|lp (.agg #[.slice none 0 0,.slice none 0 0,iv 0]) (qbr (places:=[(0,1),(1,1),(2,1)]) (pv:=[]) type28 underlying28 rfl (qar type22 (qar type22 (qar type3 qco rfl rfl) rfl rfl) rfl rfl) rfl (by simp [Instr.fill,Value.cells]))<|lex.sk (hC.seta (i:=0) (ds:=[.slice none 0 0,.slice none 0 0,iv 0]) rfl type28 rfl rfl rfl rfl rfl) ?_
 rintro w17 ⟨hC,hF⟩
 refine lp (iv 1) (qab rfl)<|ln (hK16 _ _ ?_)
 replace hC:=hC.nil 3 si
 replace hC:=hC.nil 3 si
 obtain rfl:=os hb
 refine Wc.ret (hKR _ _ ?_)
 refine ⟨_,res2 results13 ⟨_,rfl,qch (hC.bx (i:=2) rfl) isAgg28 sizeOf28⟩ (tV (iv 1) rfl),_,rfl,none,0,0,none,0,0,rfl,(show I64 0 from by unfold I64; omega),(show I64 1 from by unfold I64; omega),hC.sE [1,0]⟩
 replace hb:=tf hq15 hb
 refine Wc.skip (hK10 _ _ ?_)
 refine Wc.seq fun _ hK20=>rg<|lv (.agg #[.slice p c.length u,.slice C y.length D]) (qbs (hC.bx (i:=1) rfl) isAgg24 sizeOf24 rfl) ?_
 obtain ⟨y21,h22,hb⟩:=bd hb
 refine lex.cl (⟨_,_,qas (vs:=[.agg #[.slice p c.length u,.slice C y.length D]]) call27 rfl rfl rfl,grid_Crossings_ok n hC.lt (hC.rd (i:=3) rfl) (hC.rd (i:=2) rfl) h22⟩) ?_
 rintro _ w27 ⟨A23,m24,c25,rfl,hK⟩
 replace hC:=hC.merge hK
 clear hK
 obtain ⟨rfl,hl28,hc29⟩:=(hC.ow (i:=0) rfl).qad
 refine lp (.slice A23 y21.length c25) (qab rfl)<|ln (hK20 _ _ ?_)
 refine Wc.seq fun _ hK30=>?_
 refine Wc.seq fun _ hK31=>rg<|lp (.slice A23 y21.length c25) (qaa rfl)<|lp (iv (y21.length:Int)) (qao (A:=A23) (n:=y21.length) (m:=c25) underlying33 rfl)<|lp (.bool (decide (64<(y21.length:Int)))) (qed (k:=.i64) (a:=(y21.length:Int)) (b:=64) rfl rfl)<|ln (hK31 _ _ ?_)
 refine Wc.fresh fun E32 hE=>?_
 have e1:E32 1=pg g4:=cg hE 1 rfl
 have e2:E32 2=pg g7:=cg hE 2 rfl
 have e3:E32 3=iv 0:=cg hE 3 rfl
 have e4:E32 4=.slice A23 y21.length c25:=cg hE 4 rfl
 have e26:E32 26=.bool (decide (64<(y21.length:Int))):=cg hE 26 rfl
 clear hE
 refine Wc.cond (t:=(decide (64<(y21.length:Int)))) (e26) (fun hq33=>?_) (fun hq33=>?_)
 replace hb:=tt hq33 hb
 refine Wc.seq fun _ hK34=>rg<|lp (.agg #[.slice none 0 0,.slice none 0 0,iv 0]) (qbr (places:=[(0,1),(1,1),(2,1)]) (pv:=[]) type28 underlying28 rfl (qar type22 (qar type22 (qar type3 qco rfl rfl) rfl rfl) rfl rfl) rfl (by simp [Instr.fill,Value.cells]))<|lex.sk (hC.seta (i:=1) (ds:=[.slice none 0 0,.slice none 0 0,iv 0]) rfl type28 rfl rfl rfl e2 rfl) ?_
 rintro w35 ⟨hC,hF⟩
 refine lp (iv 5) (qab rfl)<|ln (hK34 _ _ ?_)
 replace hC:=hC.nil 3 si
 replace hC:=hC.nil 3 si
 obtain rfl:=os hb
 refine Wc.ret (hKR _ _ ?_)
 refine ⟨_,res2 results13 ⟨_,e2,qch (hC.bx (i:=3) rfl) isAgg28 sizeOf28⟩ (tV (iv 5) rfl),_,rfl,none,0,0,none,0,0,rfl,(show I64 0 from by unfold I64; omega),(show I64 5 from by unfold I64; omega),hC.sE [1,0]⟩
 replace hb:=tf hq33 hb
 refine Wc.skip (hK30 _ _ ?_)
 refine Wc.seq fun _ hK38=>rg<|lv (.agg #[.slice p c.length u,.slice C y.length D]) (qbs (hC.bx (i:=2) rfl) isAgg24 sizeOf24 e1)<|lp _ (qaa e4) ?_
 replace hC:=hC.freeze (i:=0) rfl (hC.own_new (i:=0) rfl)
 obtain ⟨y39,h40,hb⟩:=bd hb
 refine lex.cl (⟨_,_,qas (vs:=[.agg #[.slice p c.length u,.slice C y.length D],.slice A23 y21.length c25]) call37 rfl rfl rfl,gridlink_segments_ok n hC.lt (hC.rd (i:=4) rfl) (hC.rd (i:=3) rfl) (hC.rd (i:=0) rfl) h40⟩) ?_
 rintro _ w53 ⟨A41,m42,c43,A45,m46,c47,A49,m50,c51,rfl,hK⟩
 replace hC:=hC.merge hK
 clear hK
 obtain ⟨rfl,hl54,hc55⟩:=(hC.ow (i:=0) rfl).qad
 obtain ⟨rfl,hl56,hc57⟩:=(hC.rd (i:=1) rfl).qad
 obtain ⟨rfl,hl58,hc59⟩:=(hC.rd (i:=2) rfl).qad
 refine lp (.tuple #[.slice A41 y39.1.length c43,.slice A45 y39.2.1.length c47,.slice A49 y39.2.2.length c51]) (qaa rfl)<|lp (.slice A41 y39.1.length c43) (qbt rfl rfl)<|lp (.slice A45 y39.2.1.length c47) (qbt rfl rfl)<|lp (.slice A49 y39.2.2.length c51) (qbt rfl rfl)<|lex.op (hC.alloc (cs:=[.slice none 0 0]) zeroValue51 rfl) ?_
 rintro _ w61 ⟨g60,rfl,hC,hF,-⟩
 refine lex.op (hC.alloc (cs:=[.slice none 0 0]) zeroValue51 rfl) ?_
 rintro _ w64 ⟨g63,rfl,hC,hF,-⟩
 refine lp (.slice A41 y39.1.length c43) (qab rfl)<|lex.sk (hC.setf (i:=1) (k:=0) (v:=.slice A45 y39.2.1.length c47) rfl sizeOf51 rfl (by rw [Addr.add_zero']; exact rfl) rfl rfl) ?_
 rintro w66 ⟨hC,hF⟩
 refine lex.sk (hC.setf (i:=0) (k:=0) (v:=.slice A49 y39.2.2.length c51) rfl sizeOf51 rfl (by rw [Addr.add_zero']; exact rfl) rfl rfl) ?_
 rintro w67 ⟨hC,hF⟩
 refine ln (hK38 _ _ ?_)
 refine Wc.fresh fun E68 hE=>?_
 have e1:=cg hE 1 e1
 have e2:=cg hE 2 e2
 have e3:=cg hE 3 e3
 have e4:=cg hE 4 e4
 have e5:E68 5=.slice A41 y39.1.length c43:=cg hE 5 rfl
 have e6:E68 6=pg g60:=cg hE 6 rfl
 have e7:E68 7=pg g63:=cg hE 7 rfl
 clear hE
 refine Wc.seq fun _ hK69=>rg<|lp _ (qaa e5)<|lp _ (qaa e4)<|lp (iv (y21.length:Int)) (qao (A:=A23) (n:=y21.length) (m:=c25) underlying33 rfl) ?_
 obtain ⟨z70,h71,hb⟩:=bd hb
 refine lp (iv z70) (qbx (a:=4) (b:=(y21.length:Int)) rfl rfl h71) ?_
 obtain ⟨u72,h73,hb⟩:=bd hb
 refine lex.op (hC.make (s:=si) (n:=z70) underlying22 type3 rfl rfl rfl rfl rfl (qah h73).1 (qah h73).2 (by decide)) ?_
 rintro _ w78 ⟨A74,c75,rfl,hl76,hc77,hC,-,-⟩
 refine lp (.agg #[.slice A41 y39.1.length c43,.slice A74 (((rZ z70)).length) c75,iv 0]) (qbr (places:=[(0,1),(1,1),(2,1)]) (pv:=[(0,.slice A41 y39.1.length c43),(1,.slice A74 (((rZ z70)).length) c75)]) type28 underlying28 rfl (qar type22 (qar type22 (qar type3 qco rfl rfl) rfl rfl) rfl rfl) rfl (by simp [Instr.fill,Value.cells]))<|lex.op (hC.alloc (cs:=[.slice none 0 0,.slice none 0 0,iv 0]) zeroValue28 rfl) ?_
 rintro _ w81 ⟨g80,rfl,hC,hF,-⟩
 refine lex.sk (hC.seta (i:=0) (ds:=[.slice A41 y39.1.length c43,.slice A74 (((rZ z70)).length) c75,iv 0]) rfl type28 rfl rfl rfl rfl rfl) ?_
 rintro w83 ⟨hC,hF⟩
 refine ln (hK69 _ _ ?_)
 refine Wc.seq fun _ hK84=>rg<|lp (.pointer (some ((⟨g4,0,none⟩:Addr).add 0))) (qag (sz:=1) underlying24 rfl sizeOf22 (by decide) rfl e1)<|lv (.slice p c.length u) (qam (hC.bx (i:=9) rfl) isAgg22 rfl rfl) ?_
 obtain ⟨y85,h86,hb⟩:=bd hb
 refine lex.cl (⟨_,_,qas (vs:=[.slice p c.length u]) call38 rfl rfl rfl,qgm n hC.lt (hC.rd (i:=11) rfl) h86⟩) ?_
 rintro _ w91 ⟨A87,m88,c89,rfl,hK⟩
 replace hC:=hC.merge hK
 clear hK
 obtain ⟨rfl,hl92,hc93⟩:=(hC.ow (i:=0) rfl).qad
 refine lex.op (hC.alloc (cs:=[.slice none 0 0]) zeroValue22 rfl) ?_
 rintro _ w95 ⟨g94,rfl,hC,hF,-⟩
 refine lex.sk (hC.setf (i:=0) (k:=0) (v:=.slice A87 y85.length c89) rfl sizeOf22 rfl (by rw [Addr.add_zero']; exact rfl) rfl rfl) ?_
 rintro w97 ⟨hC,hF⟩
 refine ln (hK84 _ _ ?_)
 refine Wc.fresh fun E98 hE=>?_
 have e1:=cg hE 1 e1
 have e2:=cg hE 2 e2
 have e3:=cg hE 3 e3
 have e6:=cg hE 6 e6
 have e7:=cg hE 7 e7
 have e8:E98 8=pg g80:=cg hE 8 rfl
 have e9:E98 9=pg g94:=cg hE 9 rfl
 clear hE
 refine Wc.seq fun _ hK99=>rg<|lp (.pointer (some ((⟨g4,0,none⟩:Addr).add 0))) (qag (sz:=1) underlying24 rfl sizeOf22 (by decide) rfl e1)<|lv (.slice p c.length u) (qam (hC.bx (i:=11) rfl) isAgg22 rfl rfl)<|lp (iv (c.length:Int)) (qao (A:=p) (n:=c.length) (m:=u) underlying22 rfl) ?_
 obtain ⟨u100,h101,hb⟩:=bd hb
 refine lex.op (hC.make (s:=.bool) (n:=(c.length:Int)) underlying55 type4 rfl rfl rfl rfl rfl (qah h101).1 (qah h101).2 (by decide)) ?_
 rintro _ w106 ⟨A102,c103,rfl,hl104,hc105,hC,-,-⟩
 refine lex.op (hC.alloc (cs:=[.slice none 0 0]) zeroValue55 rfl) ?_
 rintro _ w109 ⟨g108,rfl,hC,hF,-⟩
 refine lex.sk (hC.setf (i:=0) (k:=0) (v:=.slice A102 (((List.replicate (c.length:Int).toNat false)).length) c103) rfl sizeOf55 rfl (by rw [Addr.add_zero']; exact rfl) rfl rfl) ?_
 rintro w111 ⟨hC,hF⟩
 refine ln (hK99 _ _ ?_)
 refine Wc.seq fun _ hK112=>?_
 refine Wc.seq fun _ hK113=>rg<|lp (.pointer (some ((⟨g4,0,none⟩:Addr).add 0))) (qag (sz:=1) underlying24 rfl sizeOf22 (by decide) rfl e1)<|lv (.slice p c.length u) (qam (hC.bx (i:=13) rfl) isAgg22 rfl rfl)<|lp (iv (c.length:Int)) (qao (A:=p) (n:=c.length) (m:=u) underlying22 rfl)<|lp (iv 0) (qaa rfl)<|ln (hK113 _ _ ?_)
 replace hC:=hC.freeze (i:=3) rfl (hC.own_new (i:=3) rfl)
 obtain ⟨o114,hl0,f114,hf114,hb⟩:=bn hb
 refine Wc.cut (fun E wv=> ∃(z:Int) (L:List Int) (x:Int) (d:List Int) (R:List Bool) (l:Option Addr) (T o:Nat),E 2=pg g7∧E 3=iv 0∧E 8=pg g80∧I64 z∧I64 x∧Cx (fun _=>False) O0 w wv [.box g7 28 [.slice none 0 0,.slice none 0 0,iv 0],.box g80 28 [.slice A41 y39.1.length c43,.slice A74 (((rZ z70)).length) c75,iv x],.own 3 si (.slice A41 y39.1.length c43) y39.1,.own 3 si (.slice A74 (((rZ z70)).length) c75) L]∧f114 (z,L,x,d,R)=some r) (fun _ hK115=>?_) ?_
 refine Wc.block ?_
 refine Wc.loop (fun m E wv=> ∃(z:Int) (L:List Int) (x:Int) (d:List Int) (R:List Bool) (l:Option Addr) (T o:Nat),E 1=pg g4∧E 2=pg g7∧E 3=iv 0∧E 6=pg g60∧E 7=pg g63∧E 8=pg g80∧E 9=pg g94∧E 10=pg g108∧E 50=iv (c.length:Int)∧E 51=iv z∧I64 z∧I64 x∧Cx (fun _=>False) O0 w wv [.box g4 24 [.slice p c.length u,.slice C y.length D],.ro (.sl si) [.slice p c.length u] c,.ro (.sl si) [.slice C y.length D] y,.box g7 28 [.slice none 0 0,.slice none 0 0,iv 0],.box g60 51 [.slice A45 y39.2.1.length c47],.ro (.sl (.sl (.pr si si))) [.slice A45 y39.2.1.length c47] y39.2.1,.box g63 51 [.slice A49 y39.2.2.length c51],.ro (.sl (.sl (.pr si si))) [.slice A49 y39.2.2.length c51] y39.2.2,.box g80 28 [.slice A41 y39.1.length c43,.slice A74 (((rZ z70)).length) c75,iv x],.own 3 si (.slice A41 y39.1.length c43) y39.1,.own 3 si (.slice A74 (((rZ z70)).length) c75) L,.box g94 22 [.slice l T o],.ro (.sl si) [.slice l T o] d,.box g108 55 [.slice A102 (((List.replicate (c.length:Int).toNat false)).length) c103],.own 4 .bool (.slice A102 (((List.replicate (c.length:Int).toNat false)).length) c103) R]∧loopN m (F.qcy n c y y39) (z,L,x,d,R)=some o114) n ⟨0,(rZ z70),0,y85,(List.replicate (c.length:Int).toNat false),A87,y85.length,c89,e1,e2,e3,e6,e7,e8,e9,rfl,rfl,rfl,(show I64 0 from by unfold I64; omega),(show I64 0 from by unfold I64; omega),hC.sE [13,15,14,12,7,9,6,10,4,8,5,2,3,0,1],hl0⟩ ?_
 have hbK0:=hb
 clear hb hC hl0
 rintro m117 E119 w118 ⟨z,L,x,d,R,l,T,o,e1,e2,e3,e6,e7,e8,e9,e10,e50,e51,a0,S,hC,hl0⟩ K116 hK116
 obtain ⟨m117',o120,rfl,hb,hl0⟩:=qan hl0
 unfold F.qcy at hb
 obtain ⟨rfl,a9,b0⟩:=(hC.rd (i:=12) rfl).qad
 refine Wc.seq fun _ hK121=>rg<|lp _ (qap e51 e50)<|ln (hK121 _ _ ?_)
 refine Wc.seq fun _ hK122=>?_
 refine Wc.cond (t:=(decide (z<(c.length:Int)))) (rfl) (fun hq123=>?_) (fun hq123=>?_)
 replace hb:=tt hq123 hb
 refine Wc.skip (hK122 _ _ ?_)
 refine Wc.seq fun _ hK124=>?_
 refine Wc.block<|Wc.seq fun _ hK125=>rg<|lp _ (qaa e51)<|lp (iv z) (qab rfl)<|ln (hK125 _ _ ?_)
 refine Wc.seq fun _ hK126=>?_
 refine Wc.seq fun _ hK127=>rg<|lv (.slice A102 (((List.replicate (c.length:Int).toNat false)).length) c103) (qaj isAgg55 e10 ((hC.bx (i:=13) rfl).cell (j:=0) rfl))<|lp (iv z) (qaa rfl) ?_
 obtain ⟨x128,h129,hb⟩:=bd hb
 obtain ⟨ad130,cs131,hA,hc132,hr133⟩:=hC.elo (i:=14) rfl (qac h129).2
 subst hA
 refine lp (.pointer (some (ad130.add (z.toNat*1)))) (qaf (a:=z) underlying55 sizeOf4 rfl rfl (by rw [(hC.ow (i:=14) rfl).qad.1]; exact (qac h129).1)) ?_
 obtain rfl:=(show _=_ from hr133)
 refine lv (.bool x128) (qaj isAgg4 rfl (hc132 0 _ rfl))<|ln (hK127 _ _ ?_)
 refine Wc.cond (t:=x128) (rfl) (fun hq134=>?_) (fun hq134=>?_)
 replace hb:=tt hq134 hb
 refine Wc.exit rfl ?_
 refine hK124 _ _<|rg ?_
 obtain ⟨z135,h136,hb⟩:=bd hb
 refine lp (iv z135) (qal (a:=z) (b:=1) e51 rfl h136)<|lp (iv z135) (qaa rfl)<|ln ?_
 obtain rfl:=os hb
 exact hK116 m117' _ _ (Nat.lt_succ_self _) ⟨z135,L,x,d,R,l,d.length,o,e1,e2,e3,e6,e7,e8,e9,e10,e50,rfl,(qai h136),S,hC.sE [0,1,2,3,4,5,6,7,8,9,10,11,12,13,14],lN hl0⟩
 replace hb:=tf hq134 hb
 refine Wc.skip (hK126 _ _ ?_)
 refine Wc.seq fun _ hK137=>rg<|lp (iv z) (qaa rfl)<|lex.op (hC.alloc (cs:=[iv 0]) zeroValue3 rfl) ?_
 rintro _ w139 ⟨g138,rfl,hC,hF,-⟩
 refine lex.sk (hC.setf (i:=0) (k:=0) (v:=iv z) rfl sizeOf3 rfl (by rw [Addr.add_zero']; exact rfl) rfl rfl) ?_
 rintro w141 ⟨hC,hF⟩
 refine ln (hK137 _ _ ?_)
 refine Wc.seq fun _ hK142=>rg<|lex.op (hC.alloc (cs:=[.slice none 0 0]) zeroValue56 rfl) ?_
 rintro _ w144 ⟨g143,rfl,hC,hF,-⟩
 refine ln (hK142 _ _ ?_)
 refine Wc.fresh fun E146 hE=>?_
 have e1:=cg hE 1 e1
 have e2:=cg hE 2 e2
 have e3:=cg hE 3 e3
 have e6:=cg hE 6 e6
 have e7:=cg hE 7 e7
 have e8:=cg hE 8 e8
 have e9:=cg hE 9 e9
 have e10:=cg hE 10 e10
 have e11:E146 11=iv z:=cg hE 11 rfl
 have e12:E146 12=pg g138:=cg hE 12 rfl
 have e13:E146 13=pg g143:=cg hE 13 rfl
 have e50:=cg hE 50 e50
 have e51:=cg hE 51 e51
 have e52:E146 52=.bool (decide (z<(c.length:Int))):=cg hE 52 rfl
 have e57:E146 57=.bool x128:=cg hE 57 rfl
 clear hE
 refine Wc.seq fun _ hK147=>rg<|lp (.func (.func 39) #[] #[pg g143,pg g108,pg g138,pg g4,pg g60,pg g63,pg g94]) (pu_funcc (map_of (qey e13 (qey e10 (qey e12 (qey e1 (qey e6 (qey e7 (qey e9 m2_nil)))))))))<|lp (.func (.func 39) #[] #[pg g143,pg g108,pg g138,pg g4,pg g60,pg g63,pg g94]) (qab rfl)<|ln (hK147 _ _ ?_)
 refine Wc.seq fun _ hK148=>rg<|lp (.slice none 0 0) (qab rfl)<|ln (hK148 _ _ ?_)
 refine Wc.seq fun _ hK149=>?_
 refine Wc.seq fun _ hK150=>rg<|lp (.func (.func 39) #[] #[pg g143,pg g108,pg g138,pg g4,pg g60,pg g63,pg g94]) (qaa rfl) ?_
 replace hC:Cx (fun _=>False) O0 w w144 ([.own 4 .bool (.slice (some ad130) (((List.replicate (c.length:Int).toNat false)).length) c103) R,.box g143 56 [.slice none 0 0],.box g108 55 [.slice (some ad130) (((List.replicate (c.length:Int).toNat false)).length) c103],.box g138 3 [iv z],.box g4 24 [.slice p c.length u,.slice C y.length D],.box g60 51 [.slice A45 y39.2.1.length c47],.box g63 51 [.slice A49 y39.2.2.length c51],.box g94 22 [.slice l d.length o]]++[.ro (.sl si) [.slice p c.length u] c,.ro (.sl si) [.slice C y.length D] y,.box g7 28 [.slice none 0 0,.slice none 0 0,iv 0],.ro (.sl (.sl (.pr si si))) [.slice A45 y39.2.1.length c47] y39.2.1,.ro (.sl (.sl (.pr si si))) [.slice A49 y39.2.2.length c51] y39.2.2,.box g80 28 [.slice A41 y39.1.length c43,.slice A74 (((rZ z70)).length) c75,iv x],.own 3 si (.slice A41 y39.1.length c43) y39.1,.own 3 si (.slice A74 (((rZ z70)).length) c75) L,.ro (.sl si) [.slice l d.length o] d]):=hC.sE [16,0,15,1,2,6,8,13,3,4,5,7,9,10,11,12,14]
 obtain ⟨y151,h152,hb⟩:=bd hb
 refine lex.cl (⟨_,_,qft (vs:=[pg g143,pg g108,pg g138,pg g4,pg g60,pg g63,pg g94]) (ca:=#[pg g143,pg g108,pg g138,pg g4,pg g60,pg g63,pg g94]) call39 rfl rfl rfl,qgq n hC.lt ((show Rep _ _ (.sl (.pr si si)) [.slice none 0 0] ([]:List (Int×Int)) from ⟨none,0,rfl,Nat.le_refl _,by omega,fun h=>absurd h (by simp)⟩)) a0 (hC.rd (i:=8) rfl) (hC.rd (i:=9) rfl) (hC.rd (i:=11) rfl) (hC.rd (i:=12) rfl) (hC.rd (i:=16) rfl) hC.give h152⟩) ?_
 rintro _ w160 ⟨A155,m156,c157,rfl,hr153,hr154,hr159,hK⟩
 replace hC:=hC.back hK
 clear hK
 obtain ⟨rfl,hl161,hc162⟩:=(hC.rd (i:=1) rfl).qad
 refine lp (.tuple #[.agg #[iv y151.1,iv y151.2.1],.bool y151.2.2.1]) (qaa rfl)<|lp (.agg #[iv y151.1,iv y151.2.1]) (qbt rfl rfl)<|lp (.bool y151.2.2.1) (qbt rfl rfl)<|lex.op (hC.alloc (cs:=[iv 0,iv 0]) zeroValue58 rfl) ?_
 rintro _ w164 ⟨g163,rfl,hC,hF,-⟩
 refine lex.sk (hC.seta (i:=0) (ds:=[iv y151.1,iv y151.2.1]) rfl type58 rfl rfl rfl rfl rfl) ?_
 rintro w166 ⟨hC,hF⟩
 refine lp (.bool y151.2.2.1) (qab rfl)<|ln (hK150 _ _ ?_)
 refine Wc.fresh fun E167 hE=>?_
 have e1:=cg hE 1 e1
 have e2:=cg hE 2 e2
 have e3:=cg hE 3 e3
 have e6:=cg hE 6 e6
 have e7:=cg hE 7 e7
 have e8:=cg hE 8 e8
 have e9:=cg hE 9 e9
 have e10:=cg hE 10 e10
 have e11:=cg hE 11 e11
 have e12:=cg hE 12 e12
 have e13:=cg hE 13 e13
 have e14:E167 14=.func (.func 39) #[] #[pg g143,pg g108,pg g138,pg g4,pg g60,pg g63,pg g94]:=cg hE 14 rfl
 have e15:E167 15=.slice none 0 0:=cg hE 15 rfl
 have e16:E167 16=pg g163:=cg hE 16 rfl
 have e17:E167 17=.bool y151.2.2.1:=cg hE 17 rfl
 have e50:=cg hE 50 e50
 have e51:=cg hE 51 e51
 have e52:=cg hE 52 e52
 have e57:=cg hE 57 e57
 clear hE
 replace hC:=hC.nil 58 (.pr si si)
 obtain ⟨o171,hl1,hb⟩:=bd hb
 refine Wc.cut (fun E wv=> ∃(gP16:Nat) (J:List (Int×Int)) (V:Bool) (P:List Bool) (K:Int) (B:List (Int×Int)) (f:Int) (g:Int) (M:Option Addr) (U N:Nat) (G:Option Addr) (Q H:Nat),E 1=pg g4∧E 2=pg g7∧E 3=iv 0∧E 6=pg g60∧E 7=pg g63∧E 8=pg g80∧E 9=pg g94∧E 10=pg g108∧E 11=iv z∧E 12=pg g138∧E 13=pg g143∧E 14=.func (.func 39) #[] #[pg g143,pg g108,pg g138,pg g4,pg g60,pg g63,pg g94]∧E 15=.slice M U N∧E 16=pg gP16∧E 17=.bool V∧E 50=iv (c.length:Int)∧E 51=iv z∧E 52=.bool (decide (z<(c.length:Int)))∧E 57=.bool x128∧I64 K∧I64 f∧I64 g∧Cx (fun _=>False) O0 w wv [.box g4 24 [.slice p c.length u,.slice C y.length D],.ro (.sl si) [.slice p c.length u] c,.ro (.sl si) [.slice C y.length D] y,.box g7 28 [.slice none 0 0,.slice none 0 0,iv 0],.box g60 51 [.slice A45 y39.2.1.length c47],.ro (.sl (.sl (.pr si si))) [.slice A45 y39.2.1.length c47] y39.2.1,.box g63 51 [.slice A49 y39.2.2.length c51],.ro (.sl (.sl (.pr si si))) [.slice A49 y39.2.2.length c51] y39.2.2,.box g80 28 [.slice A41 y39.1.length c43,.slice A74 (((rZ z70)).length) c75,iv x],.own 3 si (.slice A41 y39.1.length c43) y39.1,.own 3 si (.slice A74 (((rZ z70)).length) c75) L,.box g94 22 [.slice l d.length o],.ro (.sl si) [.slice l d.length o] d,.box g108 55 [.slice (some ad130) (((List.replicate (c.length:Int).toNat false)).length) c103],.own 4 .bool (.slice (some ad130) (((List.replicate (c.length:Int).toNat false)).length) c103) P,.box g138 3 [iv K],.box g143 56 [.slice G Q H],.ro (.sl (.pr si si)) [.slice G Q H] B,.own 58 (.pr si si) (.slice M U N) J,.box gP16 58 [iv f,iv g]]∧((F.qfm n y39.1 L x J).bind fun y217=>(chk (z+1)).bind fun z221=>some (.inl (z221,y217.1,y217.2,d,P)):Option ((Int×(List Int)×Int×(List Int)×(List Bool))⊕((Int×(List Int)×Int×(List Int)×(List Bool)))))=some o120) (fun _ hK172=>?_) ?_
 refine Wc.block ?_
 refine Wc.loop (fun m E wv=> ∃(gP16:Nat) (J:List (Int×Int)) (V:Bool) (P:List Bool) (K:Int) (B:List (Int×Int)) (f:Int) (g:Int) (M:Option Addr) (U N:Nat) (G:Option Addr) (Q H:Nat),E 1=pg g4∧E 2=pg g7∧E 3=iv 0∧E 6=pg g60∧E 7=pg g63∧E 8=pg g80∧E 9=pg g94∧E 10=pg g108∧E 11=iv z∧E 12=pg g138∧E 13=pg g143∧E 14=.func (.func 39) #[] #[pg g143,pg g108,pg g138,pg g4,pg g60,pg g63,pg g94]∧E 15=.slice M U N∧E 16=pg gP16∧E 17=.bool V∧E 50=iv (c.length:Int)∧E 51=iv z∧E 52=.bool (decide (z<(c.length:Int)))∧E 57=.bool x128∧I64 K∧I64 f∧I64 g∧Cx (fun _=>False) O0 w wv [.box g4 24 [.slice p c.length u,.slice C y.length D],.ro (.sl si) [.slice p c.length u] c,.ro (.sl si) [.slice C y.length D] y,.box g7 28 [.slice none 0 0,.slice none 0 0,iv 0],.box g60 51 [.slice A45 y39.2.1.length c47],.ro (.sl (.sl (.pr si si))) [.slice A45 y39.2.1.length c47] y39.2.1,.box g63 51 [.slice A49 y39.2.2.length c51],.ro (.sl (.sl (.pr si si))) [.slice A49 y39.2.2.length c51] y39.2.2,.box g80 28 [.slice A41 y39.1.length c43,.slice A74 (((rZ z70)).length) c75,iv x],.own 3 si (.slice A41 y39.1.length c43) y39.1,.own 3 si (.slice A74 (((rZ z70)).length) c75) L,.box g94 22 [.slice l d.length o],.ro (.sl si) [.slice l d.length o] d,.box g108 55 [.slice (some ad130) (((List.replicate (c.length:Int).toNat false)).length) c103],.own 4 .bool (.slice (some ad130) (((List.replicate (c.length:Int).toNat false)).length) c103) P,.box g138 3 [iv K],.box g143 56 [.slice G Q H],.ro (.sl (.pr si si)) [.slice G Q H] B,.own 58 (.pr si si) (.slice M U N) J,.box gP16 58 [iv f,iv g]]∧loopN m (F.qbo n c y y39 d) (J,V,P,K,B,f,g)=some o171) n ⟨g163,([]:List (Int×Int)),y151.2.2.1,y151.2.2.2.1,y151.2.2.2.2.2,y151.2.2.2.2.1,y151.1,y151.2.1,none,0,0,A155,y151.2.2.2.2.1.length,c157,e1,e2,e3,e6,e7,e8,e9,e10,e11,e12,e13,e14,e15,e16,e17,e50,e51,e52,e57,hr159,hr153,hr154,hC.sE [7,11,12,13,8,14,9,15,16,17,18,10,19,5,2,6,4,3,0,1],hl1⟩ ?_
 have hbK1:=hb
 clear hb hC hl1
 rintro m174 E176 w175 ⟨gP16,J,V,P,K,B,f,g,M,U,N,G,Q,H,e1,e2,e3,e6,e7,e8,e9,e10,e11,e12,e13,e14,e15,e16,e17,e50,e51,e52,e57,X,Y,Z,hC,hl1⟩ K173 hK173
 obtain ⟨m174',o177,rfl,hb,hl1⟩:=qan hl1
 unfold F.qbo at hb
 obtain ⟨rfl,a7,a8⟩:=(hC.ow (i:=18) rfl).qad
 obtain ⟨rfl,a1,a2⟩:=(hC.rd (i:=17) rfl).qad
 refine Wc.seq fun _ hK178=>?_
 refine Wc.seq fun _ hK179=>rg<|lp _ (qaa e17)<|ln (hK179 _ _ ?_)
 refine Wc.cond (t:=V) (rfl) (fun hq180=>?_) (fun hq180=>?_)
 replace hb:=tt hq180 hb
 refine Wc.skip (hK178 _ _ ?_)
 refine Wc.seq fun _ hK181=>?_
 refine Wc.block<|rg<|lp _ (qaa e15)<|lv (.agg #[iv f,iv g]) (qbs (hC.bx (i:=19) rfl) isAgg58 sizeOf58 e16)<|lex.op (hC.lit (s:=(.pr si si)) (vs:=[.agg #[iv f,iv g]]) (xs:=[(f,g)]) underlying56 type58 rfl rfl (nb rfl) rfl rfl (by simp [Value.cells,Sh.n]) rfl (show Elems _ _ (.pr si si) ([iv f,iv g]++([])) ([(f,g)]:List (Int×Int)) from Elems.cons (⟨[iv f],[iv g],rfl,⟨rfl,I64.wr Y⟩,⟨rfl,I64.wr Z⟩⟩) (Elems.nil _ _ _))) ?_
 rintro _ w186 ⟨A182,c183,rfl,hl184,hc185,hC,-,-⟩
 obtain ⟨u188,h189,hb⟩:=bd hb
 refine lex.op (hC.app (i:=19) (s:=(.pr si si)) (xs:=J) (ys:=([(f,g)]:List (Int×Int))) (m:=((([(f,g)]:List (Int×Int))).length)) rfl underlying56 underlying56 type58 rfl rfl rfl (hC.srco (i:=0) rfl) rfl rfl (by have:=qaw h189; simp at this⊢ <;>omega) (by decide)) ?_
 rintro _ w194 ⟨A190,c191,rfl,hl192,hc193,hC,-,-⟩
 refine lp (.slice A190 ((J++([(f,g)]:List (Int×Int))).length) c191) (qab rfl)<|ln (hK181 _ _ ?_)
 refine Wc.seq fun _ hK195=>?_
 refine Wc.seq fun _ hK196=>rg<|lv (.agg #[iv f,iv g]) (qbs (hC.bx (i:=20) rfl) isAgg58 sizeOf58 e16)<|ln (hK196 _ _ ?_)
 refine rg<|lex.op (hC.alloc (cs:=[iv 0,iv 0]) zeroValue58 rfl) ?_
 rintro _ w198 ⟨g197,rfl,hC,hF,-⟩
 refine lex.sk (hC.seta (i:=0) (ds:=[iv f,iv g]) rfl type58 rfl rfl rfl rfl rfl) ?_
 rintro w200 ⟨hC,hF⟩
 refine ln (hK195 _ _ ?_)
 refine rg<|lp _ (qaa e14) ?_
 replace hC:Cx (fun _=>False) O0 w w200 ([.own 4 .bool (.slice (some ad130) (((List.replicate (c.length:Int).toNat false)).length) c103) P,.box g143 56 [.slice G B.length H],.box g108 55 [.slice (some ad130) (((List.replicate (c.length:Int).toNat false)).length) c103],.box g138 3 [iv K],.box g4 24 [.slice p c.length u,.slice C y.length D],.box g60 51 [.slice A45 y39.2.1.length c47],.box g63 51 [.slice A49 y39.2.2.length c51],.box g94 22 [.slice l d.length o]]++[.box g197 58 [iv f,iv g],.own 58 (.pr si si) (.slice A182 ((([(f,g)]:List (Int×Int))).length) c183) ([(f,g)]:List (Int×Int)),.ro (.sl si) [.slice p c.length u] c,.ro (.sl si) [.slice C y.length D] y,.box g7 28 [.slice none 0 0,.slice none 0 0,iv 0],.ro (.sl (.sl (.pr si si))) [.slice A45 y39.2.1.length c47] y39.2.1,.ro (.sl (.sl (.pr si si))) [.slice A49 y39.2.2.length c51] y39.2.2,.box g80 28 [.slice A41 y39.1.length c43,.slice A74 (((rZ z70)).length) c75,iv x],.own 3 si (.slice A41 y39.1.length c43) y39.1,.own 3 si (.slice A74 (((rZ z70)).length) c75) L,.ro (.sl si) [.slice l d.length o] d,.ro (.sl (.pr si si)) [.slice G B.length H] B,.own 58 (.pr si si) (.slice A190 ((J++([(f,g)]:List (Int×Int))).length) c191) (J++([(f,g)]:List (Int×Int))),.box gP16 58 [iv f,iv g]]):=hC.sE [16,18,15,17,2,6,8,13,0,1,3,4,5,7,9,10,11,12,14,19,20,21]
 obtain ⟨y201,h202,hb⟩:=bd hb
 refine lex.cl (⟨_,_,qft (vs:=[pg g143,pg g108,pg g138,pg g4,pg g60,pg g63,pg g94]) (ca:=#[pg g143,pg g108,pg g138,pg g4,pg g60,pg g63,pg g94]) call39 rfl rfl rfl,qgq n hC.lt (hC.rd (i:=19) rfl) X (hC.rd (i:=10) rfl) (hC.rd (i:=11) rfl) (hC.rd (i:=13) rfl) (hC.rd (i:=14) rfl) (hC.rd (i:=18) rfl) hC.give h202⟩) ?_
 rintro _ w210 ⟨A205,m206,c207,rfl,hr203,hr204,hr209,hK⟩
 replace hC:=hC.back hK
 clear hK
 obtain ⟨rfl,hl211,hc212⟩:=(hC.rd (i:=1) rfl).qad
 refine lp (.tuple #[.agg #[iv y201.1,iv y201.2.1],.bool y201.2.2.1]) (qaa rfl)<|lp (.agg #[iv y201.1,iv y201.2.1]) (qbt rfl rfl)<|lp (.bool y201.2.2.1) (qbt rfl rfl)<|lex.sk (hC.seta (i:=9) (ds:=[iv y201.1,iv y201.2.1]) rfl type58 rfl rfl rfl rfl rfl) ?_
 rintro w213 ⟨hC,hF⟩
 refine lp (.bool y201.2.2.1) (qab rfl)<|ln ?_
 obtain rfl:=os hb
 exact hK173 m174' _ _ (Nat.lt_succ_self _) ⟨g197,(J++([(f,g)]:List (Int×Int))),y201.2.2.1,y201.2.2.2.1,y201.2.2.2.2.2,y201.2.2.2.2.1,y201.1,y201.2.1,A190,(J++([(f,g)]:List (Int×Int))).length,c191,A205,y201.2.2.2.2.1.length,c207,e1,e2,e3,e6,e7,e8,e9,e10,e11,e12,e13,e14,rfl,rfl,rfl,e50,e51,e52,e57,hr209,hr203,hr204,hC.sE [5,11,12,13,6,14,7,15,16,17,18,8,19,3,0,4,2,1,21,9],lN hl1⟩
 replace hb:=tf hq180 hb
 refine Wc.exit rfl ?_
 obtain rfl:=os hb
 obtain rfl:=(lX hl1).symm
 exact hK172 _ _ ⟨gP16,J,V,P,K,B,f,g,M,J.length,N,G,B.length,H,e1,e2,e3,e6,e7,e8,e9,e10,e11,e12,e13,e14,e15,e16,e17,e50,e51,e52,e57,X,Y,Z,hC.sE [0,1,2,3,4,5,6,7,8,9,10,11,12,13,14,15,16,17,18,19],hbK1⟩
 clear hb hC hl1
 rintro E216 w215 ⟨gP16,J,V,P,K,B,f,g,M,U,N,G,Q,H,e1,e2,e3,e6,e7,e8,e9,e10,e11,e12,e13,e14,e15,e16,e17,e50,e51,e52,e57,X,Y,Z,hC,hb⟩
 obtain ⟨rfl,a7,a8⟩:=(hC.ow (i:=18) rfl).qad
 obtain ⟨rfl,a1,a2⟩:=(hC.rd (i:=17) rfl).qad
 refine hK149 _ _<|rg<|lp _ (qaa e15) ?_
 replace hC:Cx (fun _=>False) O0 w w215 ([.own 3 si (.slice A74 (((rZ z70)).length) c75) L,.box g80 28 [.slice A41 y39.1.length c43,.slice A74 (((rZ z70)).length) c75,iv x]]++[.box g4 24 [.slice p c.length u,.slice C y.length D],.ro (.sl si) [.slice p c.length u] c,.ro (.sl si) [.slice C y.length D] y,.box g7 28 [.slice none 0 0,.slice none 0 0,iv 0],.box g60 51 [.slice A45 y39.2.1.length c47],.ro (.sl (.sl (.pr si si))) [.slice A45 y39.2.1.length c47] y39.2.1,.box g63 51 [.slice A49 y39.2.2.length c51],.ro (.sl (.sl (.pr si si))) [.slice A49 y39.2.2.length c51] y39.2.2,.own 3 si (.slice A41 y39.1.length c43) y39.1,.box g94 22 [.slice l d.length o],.ro (.sl si) [.slice l d.length o] d,.box g108 55 [.slice (some ad130) (((List.replicate (c.length:Int).toNat false)).length) c103],.own 4 .bool (.slice (some ad130) (((List.replicate (c.length:Int).toNat false)).length) c103) P,.box g138 3 [iv K],.box g143 56 [.slice G B.length H],.ro (.sl (.pr si si)) [.slice G B.length H] B,.own 58 (.pr si si) (.slice M J.length N) J,.box gP16 58 [iv f,iv g]]):=hC.sE [10,8,0,1,2,3,4,5,6,7,9,11,12,13,14,15,16,17,18,19]
 obtain ⟨y217,h218,hb⟩:=bd hb
 refine lex.cl (⟨_,_,qas (vs:=[pg g80,.slice M J.length N]) call41 rfl rfl (map_of (qey e8 (qey rfl m2_nil))),gridlink_join_ok n (hC.lentLt [.slice M J.length N,.slice A41 y39.1.length c43]) ((hC.ow (i:=10) rfl).lend (vs:=[.slice M J.length N,.slice A41 y39.1.length c43]) (by simp)) S ((hC.ow (i:=18) rfl).lend (vs:=[.slice M J.length N,.slice A41 y39.1.length c43]) (by simp)) (hC.give.lent [.slice M J.length N,.slice A41 y39.1.length c43] (hC.apart (List.forall_mem_cons.2 ⟨blk_in (i:=16) rfl,List.forall_mem_cons.2 ⟨blk_in (i:=8) rfl,fun _ h=>absurd h List.not_mem_nil⟩⟩))) h218⟩) ?_
 rintro _ w220 ⟨rfl,hr219,hK⟩
 replace hC:=hC.back (hK.flatTk rfl hC.lt)
 clear hK
 refine ln (hK124 _ _ ?_)
 refine rg ?_
 obtain ⟨z221,h222,hb⟩:=bd hb
 refine lp (iv z221) (qal (a:=z) (b:=1) e51 rfl h222)<|lp (iv z221) (qaa rfl)<|ln ?_
 obtain rfl:=os hb
 exact hK116 m117' _ _ (Nat.lt_succ_self _) ⟨z221,y217.1,y217.2,d,P,l,d.length,o,e1,e2,e3,e6,e7,e8,e9,e10,e50,rfl,(qai h222),hr219,hC.sE [2,3,4,5,6,7,8,9,1,10,0,11,12,13,14],lN hl0⟩
 replace hb:=tf hq123 hb
 refine Wc.exit rfl ?_
 obtain rfl:=os hb
 obtain rfl:=(lX hl0).symm
 exact hK115 _ _ ⟨z,L,x,d,R,l,d.length,o,e2,e3,e8,a0,S,hC.sE [3,8,9,10],hbK0⟩
 clear hb hC hl0
 rintro E224 w223 ⟨z,L,x,d,R,l,T,o,e2,e3,e8,a0,S,hC,hb⟩
 subst hf114
 refine hK112 _ _<|Wc.seq fun _ hK225=>rg<|lv (.agg #[.slice A41 y39.1.length c43,.slice A74 (((rZ z70)).length) c75,iv x]) (qbs (hC.bx (i:=1) rfl) isAgg28 sizeOf28 e8)<|lex.sk (hC.seta (i:=0) (ds:=[.slice A41 y39.1.length c43,.slice A74 (((rZ z70)).length) c75,iv x]) rfl type28 rfl rfl rfl e2 rfl) ?_
 rintro w226 ⟨hC,hF⟩
 refine lp (iv 0) (qab rfl)<|ln (hK225 _ _ ?_)
 obtain rfl:=os hb
 refine Wc.ret (hKR _ _ ?_)
 refine ⟨_,res2 results13 ⟨_,e2,qch (hC.bx (i:=0) rfl) isAgg28 sizeOf28⟩ (tV (iv 0) rfl),_,rfl,A41,y39.1.length,c43,A74,((rZ z70)).length,c75,rfl,S,(show I64 0 from by unfold I64; omega),hC.sE [2,3]⟩
