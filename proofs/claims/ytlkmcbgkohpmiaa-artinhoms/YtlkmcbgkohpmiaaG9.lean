import Derived.Test.YtlkmcbgkohpmiaaS
import Derived.Test.YtlkmcbgkohpmiaaG0
import Derived.Test.YtlkmcbgkohpmiaaG7
import Derived.Test.YtlkmcbgkohpmiaaG8
set_option linter.all false
namespace Go.Proofs.Ytlkmcbgkohpmiaa
open Ev Try
set_option maxRecDepth 100000
set_option maxHeartbeats 4000000
theorem wirtinger_Of_ok (n:Nat) {w:World} {O0:List Nat} (hO: ∀k∈O0,k<w.heap.size) {o:Option Addr} {a3 p:Nat} {l:List Int} (a4:Rep O0 w (.sl si) [.slice o a3 p] l) {z:Option Addr} {a5 B:Nat} {x:List Int} (a6:Rep O0 w (.sl si) [.slice z a5 B] x) {C:Int} (V:I64 C) {r:Int×(List Int)×(List (List Int))×Int} (hb:F.qgk n l x C=some r):
    Calls prog 30 #[.agg #[.slice o a3 p,.slice z a5 B,iv C]] w fun e w'=> ∃v,e=.returned v∧∃(A1:Option Addr) (m1 c1:Nat) (A2:Option Addr) (m2 c2:Nat),v=.tuple #[.agg #[iv r.1,.slice A1 m1 c1,.slice A2 m2 c2],iv r.2.2.2]∧I64 r.1∧I64 r.2.2.2∧Cx (fun _=>False) O0 w w' [.own 3 si (.slice A1 m1 c1) r.2.1,.own 27 (.sl si) (.slice A2 m2 c2) r.2.2.1]:=by
 unfold F.qgk at hb
 have hC:=Cx.start hO
 replace hC:=hC.arg rfl a4
 replace hC:=hC.arg rfl a6
 clear hO
 obtain ⟨rfl,a7,a8⟩:=a4.qaf
 obtain ⟨rfl,a9,b0⟩:=a6.qaf
 refine qao func30 rfl (by rw [ntmps30]; exact nb rfl) fun KR hKR=>?_
 refine Wc.seq fun _ hK3=>rg<|lex.op (hC.box (cs:=[.slice o l.length p,.slice z x.length B,iv C]) rfl rfl) ?_
 rintro _ w5 ⟨g4,rfl,hC,hF,-⟩
 refine lex.op (hC.alloc (cs:=[iv 0,.slice none 0 0,.slice none 0 0]) zeroValue48 rfl) ?_
 rintro _ w8 ⟨g7,rfl,hC,hF,-⟩
 refine lp (iv 0) (qab rfl)<|ln (hK3 _ _ ?_)
 refine Wc.seq fun _ hK10=>?_
 refine Wc.seq fun _ hK11=>rg<|lv (.agg #[.slice o l.length p,.slice z x.length B,iv C]) (qbm (hC.bx (i:=1) rfl) isAgg60 sizeOf60 rfl) ?_
 obtain ⟨y12,h13,hb⟩:=bd hb
 refine lex.cl (⟨_,_,qas (vs:=[.agg #[.slice o l.length p,.slice z x.length B,iv C]]) call51 rfl rfl rfl,diagram_Valid_ok n hC.lt (hC.rd (i:=3) rfl) (hC.rd (i:=2) rfl) V h13⟩) ?_
 rintro _ w14 ⟨rfl,hK⟩
 replace hC:=hC.merge hK
 clear hK
 refine lp (.bool (!y12)) (qcd (q:=y12) rfl)<|ln (hK11 _ _ ?_)
 refine Wc.cond (t:=(!y12)) (rfl) (fun hq15=>?_) (fun hq15=>?_)
 replace hb:=tt hq15 hb
 refine Wc.seq fun _ hK16=>rg<|lp (.agg #[iv 0,.slice none 0 0,.slice none 0 0]) (qdj (places:=[(0,1),(1,1),(2,1)]) (pv:=[]) type48 underlying48 rfl (qba type3 (qba type22 (qba type37 mp_nil rfl rfl) rfl rfl) rfl rfl) rfl (by simp [Instr.fill,Value.cells]))<|lex.sk (hC.seta (i:=0) (ds:=[iv 0,.slice none 0 0,.slice none 0 0]) rfl type48 rfl rfl rfl rfl rfl) ?_
 rintro w17 ⟨hC,hF⟩
 refine lp (iv 1) (qab rfl)<|ln (hK16 _ _ ?_)
 replace hC:=hC.nil 3 si
 replace hC:=hC.nil 27 (.sl si)
 obtain rfl:=os hb
 refine Wc.ret (hKR _ _ ?_)
 refine ⟨_,res2 results30 ⟨_,rfl,qem (hC.bx (i:=2) rfl) isAgg48 sizeOf48⟩ (tV (iv 1) rfl),_,rfl,none,0,0,none,0,0,rfl,(show I64 0 from by unfold I64; omega),(show I64 1 from by unfold I64; omega),hC.sE [1,0]⟩
 replace hb:=tf hq15 hb
 refine Wc.skip (hK10 _ _ ?_)
 refine Wc.seq fun _ hK20=>rg<|lv (.agg #[.slice o l.length p,.slice z x.length B,iv C]) (qbm (hC.bx (i:=1) rfl) isAgg60 sizeOf60 rfl) ?_
 obtain ⟨y21,h22,hb⟩:=bd hb
 refine lex.cl (⟨_,_,qas (vs:=[.agg #[.slice o l.length p,.slice z x.length B,iv C]]) call52 rfl rfl rfl,wirtinger_arcs_ok n hC.lt (hC.rd (i:=3) rfl) (hC.rd (i:=2) rfl) V h22⟩) ?_
 rintro _ w28 ⟨A23,m24,c25,rfl,hr27,hK⟩
 replace hC:=hC.merge hK
 clear hK
 obtain ⟨rfl,hl29,hc30⟩:=(hC.ow (i:=0) rfl).qaf
 refine lp (.tuple #[.slice A23 y21.1.length c25,iv y21.2]) (qaa rfl)<|lp (.slice A23 y21.1.length c25) (qaz rfl rfl)<|lp (iv y21.2) (qaz rfl rfl)<|lp (.slice A23 y21.1.length c25) (qab rfl)<|lp (iv y21.2) (qab rfl)<|ln (hK20 _ _ ?_)
 refine Wc.fresh fun E31 hE=>?_
 have e1:E31 1=pg g4:=cg hE 1 rfl
 have e2:E31 2=pg g7:=cg hE 2 rfl
 have e3:E31 3=iv 0:=cg hE 3 rfl
 have e4:E31 4=.slice A23 y21.1.length c25:=cg hE 4 rfl
 have e5:E31 5=iv y21.2:=cg hE 5 rfl
 clear hE
 refine Wc.seq fun _ hK32=>?_
 refine Wc.regionPlan [30,34] (frm [30,34] ([]:List Fact) ([]:List Fact)) (chainP [0,1,2,3,4,5,6,7] (.alt (chainP [8] (chainP [9,10,11] .done)) (chainP [10] (chainP [8,9,11] .done)))) (fun _=>rfl) mixed (by decide+kernel) (by decide+kernel) fun w34 hw33=>?_
 replace hC:=hC.step (Fr.qbh hw33)
 have hM:=Fr.refl (fun k=>k∈blocks ([]:List Fact)) w34
 clear hw33
 have hS:=hC
 have hD:Fr (fun k=>k∈blocks (([]:List Fact)++([]:List Fact))) w34 w34:=hM.wide
 refine qad ?_
 refine mp (iv y21.2) (qaa e5)<|mp (.pointer (some ((⟨g4,0,none⟩:Addr).add 2))) (qal (sz:=1) underlying60 rfl sizeOf3 (by decide) rfl e1)<|mixE.steady hD (v:=iv C) (fun _ hF=>qar (hS.bx2 (i:=2) rfl [] (by decide) hF) isAgg3 rfl rfl) ?_
 obtain ⟨z35,h36,hb⟩:=bd hb
 refine mp (iv z35) (qak (a:=y21.2) (b:=C) rfl rfl h36)<|mp (iv y21.2) (qaa e5)<|mp (.pointer (some ((⟨g4,0,none⟩:Addr).add 2))) (qal (sz:=1) underlying60 rfl sizeOf3 (by decide) rfl e1)<|mixE.steady hD (v:=iv C) (fun _ hF=>qar (hS.bx2 (i:=2) rfl [] (by decide) hF) isAgg3 rfl rfl) ?_
 obtain ⟨z37,h38,hb⟩:=bd hb
 refine mp (iv z37) (qak (a:=y21.2) (b:=C) rfl rfl h38)<|mixE.nil ?_
 refine qaq ?_ ?_
 refine qad ?_
 obtain ⟨u39,h40,hb⟩:=bd hb
 refine mixE.op hM (hC.make (s:=si) (n:=z37) underlying22 type3 rfl rfl rfl rfl rfl (qae h40).1 (qae h40).2 (by decide)) ?_
 rintro _ w45 ⟨A41,c42,rfl,hl43,hc44,hC,hF,hN⟩
 have hBf46:=Beside.new hM hN
 have hUf46:=Beside.new (hM.wide (H:=([]:List Fact))) hN
 replace hM:=hM.none hF
 replace hD:=hM.wide (H:=([]:List Fact))
 refine ⟨hM,?_⟩
 clear hF hN
 refine mixE.nil ?_
 refine qad ?_
 refine mp (.agg #[iv z35,.slice A41 (((rZ z37)).length) c42,.slice none 0 0]) (qdj (places:=[(0,1),(1,1),(2,1)]) (pv:=[(0,iv z35),(1,.slice A41 (((rZ z37)).length) c42)]) type48 underlying48 rfl (qba type3 (qba type22 (qba type37 mp_nil rfl rfl) rfl rfl) rfl rfl) rfl (by simp [Instr.fill,Value.cells]))<|mixE.op hM (hC.alloc (cs:=[iv 0,.slice none 0 0,.slice none 0 0]) zeroValue48 rfl) ?_
 rintro _ w48 ⟨g47,rfl,hC,hF,hG⟩
 have hUf49:g47<w34.heap.size→g47∈blocks (([]:List Fact)++([]:List Fact)):=fun h=>absurd (Nat.lt_of_lt_of_le h (Nat.le_trans hM.size hG)) (Nat.lt_irrefl _)
 clear hG
 replace hM:=hM.none hF
 replace hD:=hM.wide (H:=([]:List Fact))
 refine ⟨hM,?_⟩
 refine mixE.sk hD (hC.seta (i:=0) (ds:=[iv z35,.slice A41 (((rZ z37)).length) c42,.slice none 0 0]) rfl type48 rfl rfl rfl rfl rfl) ?_
 rintro w50 ⟨hC,hF⟩
 replace hD:=hD.besideG hUf49 hF
 clear hF
 refine ⟨hD,?_⟩
 refine mixE.nil ?_
 clear hS hM
 clear hD
 refine hK32 _ _<|Wc.fresh fun E51 hE=>?_
 have e1:=cg hE 1 e1
 have e2:=cg hE 2 e2
 have e3:=cg hE 3 e3
 have e4:=cg hE 4 e4
 have e5:=cg hE 5 e5
 have e6:E51 6=pg g47:=cg hE 6 rfl
 clear hE
 refine Wc.seq fun _ hK52=>rg<|lv (.agg #[.slice o l.length p,.slice z x.length B,iv C]) (qbm (hC.bx (i:=4) rfl) isAgg60 sizeOf60 e1) ?_
 obtain ⟨y53,h54,hb⟩:=bd hb
 refine lex.cl (⟨_,_,qas (vs:=[.agg #[.slice o l.length p,.slice z x.length B,iv C]]) call53 rfl rfl rfl,diagram_Strands_ok n hC.lt (hC.rd (i:=6) rfl) (hC.rd (i:=5) rfl) V h54⟩) ?_
 rintro _ w59 ⟨A55,m56,c57,rfl,hK⟩
 replace hC:=hC.merge hK
 clear hK
 obtain ⟨rfl,hl60,hc61⟩:=(hC.ow (i:=0) rfl).qaf
 refine lp (.slice A55 y53.length c57) (qab rfl)<|ln (hK52 _ _ ?_)
 refine Wc.seq fun _ hK62=>?_
 refine Wc.seq fun _ hK63=>rg<|lp (.slice A55 y53.length c57) (qaa rfl)<|lp (iv (y53.length:Int)) (qan (A:=A55) (n:=y53.length) (m:=c57) underlying41 rfl)<|lp (iv 0) (qaa rfl)<|ln (hK63 _ _ ?_)
 obtain ⟨o64,hl0,f64,hf64,hb⟩:=bn hb
 refine Wc.cut (fun E wv=> ∃(u:Int) (L:List Int),E 1=pg g4∧E 2=pg g7∧E 3=iv 0∧E 4=.slice A23 y21.1.length c25∧E 5=iv y21.2∧E 6=pg g47∧E 7=.slice A55 y53.length c57∧I64 u∧Cx (fun _=>False) O0 w wv [.box g4 60 [.slice o l.length p,.slice z x.length B,iv C],.ro (.sl si) [.slice o l.length p] l,.ro (.sl si) [.slice z x.length B] x,.box g7 48 [iv 0,.slice none 0 0,.slice none 0 0],.own 3 si (.slice A23 y21.1.length c25) y21.1,.box g47 48 [iv z35,.slice A41 (((rZ z37)).length) c42,.slice none 0 0],.own 3 si (.slice A41 (((rZ z37)).length) c42) L,.own 22 (.sl si) (.slice A55 y53.length c57) y53]∧f64 (u,L)=some r) (fun _ hK65=>?_) ?_
 refine Wc.block ?_
 refine Wc.loop (fun m E wv=> ∃(u:Int) (L:List Int),E 1=pg g4∧E 2=pg g7∧E 3=iv 0∧E 4=.slice A23 y21.1.length c25∧E 5=iv y21.2∧E 6=pg g47∧E 7=.slice A55 y53.length c57∧E 40=.slice A55 y53.length c57∧E 41=iv (y53.length:Int)∧E 42=iv u∧I64 u∧Cx (fun _=>False) O0 w wv [.box g4 60 [.slice o l.length p,.slice z x.length B,iv C],.ro (.sl si) [.slice o l.length p] l,.ro (.sl si) [.slice z x.length B] x,.box g7 48 [iv 0,.slice none 0 0,.slice none 0 0],.own 3 si (.slice A23 y21.1.length c25) y21.1,.box g47 48 [iv z35,.slice A41 (((rZ z37)).length) c42,.slice none 0 0],.own 3 si (.slice A41 (((rZ z37)).length) c42) L,.own 22 (.sl si) (.slice A55 y53.length c57) y53]∧loopN m (F.qds n y21 y53) (u,L)=some o64) n ⟨0,(rZ z37),e1,e2,e3,e4,e5,e6,rfl,rfl,rfl,rfl,(show I64 0 from by unfold I64; omega),hC.sE [5,7,6,4,3,1,2,0],hl0⟩ ?_
 have hbK0:=hb
 clear hb hC hl0
 rintro m67 E69 w68 ⟨u,L,e1,e2,e3,e4,e5,e6,e7,e40,e41,e42,R,hC,hl0⟩ K66 hK66
 obtain ⟨m67',o70,rfl,hb,hl0⟩:=qam hl0
 unfold F.qds at hb
 refine Wc.seq fun _ hK71=>rg<|lp _ (qau e42 e41)<|ln (hK71 _ _ ?_)
 refine Wc.seq fun _ hK72=>?_
 refine Wc.cond (t:=(decide (u<(y53.length:Int)))) (rfl) (fun hq73=>?_) (fun hq73=>?_)
 replace hb:=tt hq73 hb
 refine Wc.skip (hK72 _ _ ?_)
 refine Wc.seq fun _ hK74=>?_
 refine Wc.block<|Wc.seq fun _ hK75=>rg<|lp _ (qaa e42) ?_
 obtain ⟨x76,h77,hb⟩:=bd hb
 obtain ⟨ad78,cs79,hA,hc80,hr81⟩:=hC.elo (i:=7) rfl (qac h77).2
 subst hA
 refine lp (.pointer (some (ad78.add (u.toNat*1)))) (qag (a:=u) underlying41 sizeOf22 e40 e42 (qac h77).1) ?_
 have hR:=hr81
 obtain ⟨A82,c83,rfl,hl84,hc85,_⟩:=hr81
 replace hC:=hC.ro hR
 clear hR
 refine lv (.slice A82 x76.length c83) (qah isAgg22 rfl (hc80 0 _ rfl))<|lp (iv u) (qab rfl)<|lp (.slice A82 x76.length c83) (qab rfl)<|ln (hK75 _ _ ?_)
 refine Wc.seq fun _ hK87=>rg<|lp (.slice A82 x76.length c83) (qaa rfl)<|lp (iv (x76.length:Int)) (qan (A:=A82) (n:=x76.length) (m:=c83) underlying22 rfl)<|lp (iv 0) (qaa rfl)<|ln (hK87 _ _ ?_)
 obtain ⟨o88,hl1,hb⟩:=bd hb
 refine Wc.cut (fun E wv=> ∃(K:Int) (G:List Int),E 1=pg g4∧E 2=pg g7∧E 3=iv 0∧E 4=.slice A23 y21.1.length c25∧E 5=iv y21.2∧E 6=pg g47∧E 7=.slice (some ad78) y53.length c57∧E 8=iv u∧E 9=.slice A82 x76.length c83∧E 40=.slice (some ad78) y53.length c57∧E 41=iv (y53.length:Int)∧E 42=iv u∧E 43=.bool (decide (u<(y53.length:Int)))∧E 47=.slice A82 x76.length c83∧E 48=iv (x76.length:Int)∧E 49=iv K∧I64 K∧Cx (fun _=>False) O0 w wv [.box g4 60 [.slice o l.length p,.slice z x.length B,iv C],.ro (.sl si) [.slice o l.length p] l,.ro (.sl si) [.slice z x.length B] x,.box g7 48 [iv 0,.slice none 0 0,.slice none 0 0],.own 3 si (.slice A23 y21.1.length c25) y21.1,.box g47 48 [iv z35,.slice A41 (((rZ z37)).length) c42,.slice none 0 0],.own 3 si (.slice A41 (((rZ z37)).length) c42) G,.own 22 (.sl si) (.slice (some ad78) y53.length c57) y53,.ro (.sl si) [.slice A82 x76.length c83] x76]∧((chk (u+1)).bind fun z127=>some (.inl (z127,G)):Option ((Int×(List Int))⊕((Int×(List Int)))))=some o70) (fun _ hK89=>?_) ?_
 refine Wc.block ?_
 refine Wc.loop (fun m E wv=> ∃(K:Int) (G:List Int),E 1=pg g4∧E 2=pg g7∧E 3=iv 0∧E 4=.slice A23 y21.1.length c25∧E 5=iv y21.2∧E 6=pg g47∧E 7=.slice (some ad78) y53.length c57∧E 8=iv u∧E 9=.slice A82 x76.length c83∧E 40=.slice (some ad78) y53.length c57∧E 41=iv (y53.length:Int)∧E 42=iv u∧E 43=.bool (decide (u<(y53.length:Int)))∧E 47=.slice A82 x76.length c83∧E 48=iv (x76.length:Int)∧E 49=iv K∧I64 K∧Cx (fun _=>False) O0 w wv [.box g4 60 [.slice o l.length p,.slice z x.length B,iv C],.ro (.sl si) [.slice o l.length p] l,.ro (.sl si) [.slice z x.length B] x,.box g7 48 [iv 0,.slice none 0 0,.slice none 0 0],.own 3 si (.slice A23 y21.1.length c25) y21.1,.box g47 48 [iv z35,.slice A41 (((rZ z37)).length) c42,.slice none 0 0],.own 3 si (.slice A41 (((rZ z37)).length) c42) G,.own 22 (.sl si) (.slice (some ad78) y53.length c57) y53,.ro (.sl si) [.slice A82 x76.length c83] x76]∧loopN m (F.qdx n y21 u x76) (K,G)=some o88) n ⟨0,L,e1,e2,e3,e4,e5,e6,e7,rfl,rfl,e40,e41,e42,rfl,rfl,rfl,rfl,(show I64 0 from by unfold I64; omega),hC.sE [1,2,3,4,5,6,7,8,0],hl1⟩ ?_
 have hbK1:=hb
 clear hb hC hl1
 rintro m91 E93 w92 ⟨K,G,e1,e2,e3,e4,e5,e6,e7,e8,e9,e40,e41,e42,e43,e47,e48,e49,S,hC,hl1⟩ K90 hK90
 obtain ⟨m91',o94,rfl,hb,hl1⟩:=qam hl1
 unfold F.qdx at hb
 refine Wc.seq fun _ hK95=>rg<|lp _ (qau e49 e48)<|ln (hK95 _ _ ?_)
 refine Wc.seq fun _ hK96=>?_
 refine Wc.cond (t:=(decide (K<(x76.length:Int)))) (rfl) (fun hq97=>?_) (fun hq97=>?_)
 replace hb:=tt hq97 hb
 refine Wc.skip (hK96 _ _ ?_)
 refine Wc.seq fun _ hK98=>?_
 refine Wc.block<|Wc.seq fun _ hK99=>rg ?_
 obtain ⟨x100,h101,hb⟩:=bd hb
 obtain ⟨ad102,cs103,hA,hc104,hr105⟩:=hC.elr (i:=8) rfl (qac h101).2
 subst hA
 refine lp (.pointer (some (ad102.add (K.toNat*1)))) (qag (a:=K) underlying22 sizeOf3 e47 e49 (qac h101).1) ?_
 obtain ⟨rfl,hr105'⟩:=hr105
 refine lv (iv x100) (qah isAgg3 rfl (hc104 0 _ rfl))<|lp (iv x100) (qab rfl)<|ln (hK99 _ _ ?_)
 refine Wc.regionMix [54,58] (frm [54,58] ([]:List Fact) [.own 3 si (.slice A41 (((rZ z37)).length) c42) G]) (fun _=>rfl) mixed (by decide+kernel) (by decide+kernel) fun w107 hw106=>?_
 replace hC:=hC.step (Fr.qbh hw106)
 have hM:=Fr.refl (fun k=>k∈blocks ([]:List Fact)) w107
 clear hw106
 have hS:=hC
 have hD:Fr (fun k=>k∈blocks (([]:List Fact)++[.own 3 si (.slice A41 (((rZ z37)).length) c42) G])) w107 w107:=hM.wide
 have hUf46:Beside (([]:List Fact)++[.own 3 si (.slice A41 (((rZ z37)).length) c42) G]) w107 (.slice A41 (((rZ z37)).length) c42):=Beside.of (i:=0) rfl
 refine mp (.pointer (some ((⟨g47,0,none⟩:Addr).add 1))) (qal (sz:=1) underlying48 rfl sizeOf22 (by decide) rfl e6)<|mixE.steady hD (v:=.slice A41 (((rZ z37)).length) c42) (fun _ hF=>qar (hS.bx2 (i:=5) rfl [6] (by decide) hF) isAgg22 rfl rfl)<|mp (.slice A23 y21.1.length c25) (qaa e4)<|mp (iv x100) (qaa rfl) ?_
 obtain ⟨x108,h109,hb⟩:=bd hb
 obtain ⟨ad110,cs111,hA,ho114,hc112,hr113⟩:=hS.elo2 (i:=4) rfl (qac h109).2 [6] (by decide)
 subst hA
 refine mp (.pointer (some (ad110.add (x100.toNat*1)))) (qag (a:=x100) underlying22 sizeOf3 rfl rfl (qac h109).1) ?_
 obtain ⟨rfl,hr113'⟩:=hr113
 refine mixE.steady hD (v:=iv x108) (fun _ hF=>qah isAgg3 rfl (hF.cell (hc112 0 _ rfl) (off1 ho114)))<|mp (iv u) (qaa e8) ?_
 obtain ⟨x115,h116,hb⟩:=bd hb
 obtain ⟨ad117,cs118,hA,ho121,hc119,hr120⟩:=hS.elo2 (i:=6) rfl (qac h116).2 [] (by decide)
 subst hA
 refine mp (.pointer (some (ad117.add (x108.toNat*1)))) (qag (a:=x108) underlying22 sizeOf3 rfl rfl (by rw [(hC.ow (i:=6) rfl).qaf.1]; exact (qac h116).1))<|mixE.sk hD (hC.put (i:=6) rfl rfl sizeOf3 (k:=x108.toNat) (a:=u) (by have:=(qac h116).1; simp at this⊢; omega) (⟨rfl,I64.wr R⟩) rfl rfl rfl) ?_
 rintro w122 ⟨hC,hF⟩
 replace hD:=hD.beside hUf46 hF
 clear hF
 refine ⟨hD,?_⟩
 refine mixE.nil ?_
 clear hS hM
 clear hD
 refine hK98 _ _<|rg ?_
 obtain ⟨z123,h124,hb⟩:=bd hb
 refine lp (iv z123) (qak (a:=K) (b:=1) e49 rfl h124)<|lp (iv z123) (qaa rfl)<|ln ?_
 obtain rfl:=os hb
 exact hK90 m91' _ _ (Nat.lt_succ_self _) ⟨z123,(G.set x108.toNat u),e1,e2,e3,e4,e5,e6,e7,e8,e9,e40,e41,e42,e43,e47,e48,rfl,(qai h124),hC.sE [0,1,2,3,4,5,6,7,8],lN hl1⟩
 replace hb:=tf hq97 hb
 refine Wc.exit rfl ?_
 obtain rfl:=os hb
 obtain rfl:=(lX hl1).symm
 exact hK89 _ _ ⟨K,G,e1,e2,e3,e4,e5,e6,e7,e8,e9,e40,e41,e42,e43,e47,e48,e49,S,hC.sE [0,1,2,3,4,5,6,7,8],hbK1⟩
 clear hb hC hl1
 rintro E126 w125 ⟨K,G,e1,e2,e3,e4,e5,e6,e7,e8,e9,e40,e41,e42,e43,e47,e48,e49,S,hC,hb⟩
 refine hK74 _ _<|rg ?_
 obtain ⟨z127,h128,hb⟩:=bd hb
 refine lp (iv z127) (qak (a:=u) (b:=1) e42 rfl h128)<|lp (iv z127) (qaa rfl)<|ln ?_
 obtain rfl:=os hb
 exact hK66 m67' _ _ (Nat.lt_succ_self _) ⟨z127,G,e1,e2,e3,e4,e5,e6,e7,e40,e41,rfl,(qai h128),hC.sE [0,1,2,3,4,5,6,7],lN hl0⟩
 replace hb:=tf hq73 hb
 refine Wc.exit rfl ?_
 obtain rfl:=os hb
 obtain rfl:=(lX hl0).symm
 exact hK65 _ _ ⟨u,L,e1,e2,e3,e4,e5,e6,e7,R,hC.sE [0,1,2,3,4,5,6,7],hbK0⟩
 clear hb hC hl0
 rintro E130 w129 ⟨u,L,e1,e2,e3,e4,e5,e6,e7,R,hC,hb⟩
 subst hf64
 refine hK62 _ _ ?_
 refine Wc.seq fun _ hK131=>?_
 refine Wc.seq fun _ hK132=>rg<|lp (.pointer (some ((⟨g4,0,none⟩:Addr).add 2))) (qal (sz:=1) underlying60 rfl sizeOf3 (by decide) rfl e1)<|lv (iv C) (qar (hC.bx (i:=0) rfl) isAgg3 rfl rfl)<|lp (iv 0) (qaa rfl)<|ln (hK132 _ _ ?_)
 obtain ⟨o133,hl2,f133,hf133,hb⟩:=bn hb
 refine Wc.cut (fun E wv=> ∃(D:Int) (J:List Int),E 1=pg g4∧E 2=pg g7∧E 3=iv 0∧E 4=.slice A23 y21.1.length c25∧E 6=pg g47∧I64 D∧Cx (fun _=>False) O0 w wv [.box g4 60 [.slice o l.length p,.slice z x.length B,iv C],.ro (.sl si) [.slice o l.length p] l,.ro (.sl si) [.slice z x.length B] x,.box g7 48 [iv 0,.slice none 0 0,.slice none 0 0],.own 3 si (.slice A23 y21.1.length c25) y21.1,.box g47 48 [iv z35,.slice A41 (((rZ z37)).length) c42,.slice none 0 0],.own 3 si (.slice A41 (((rZ z37)).length) c42) J]∧f133 (D,J)=some r) (fun _ hK134=>?_) ?_
 refine Wc.block ?_
 refine Wc.loop (fun m E wv=> ∃(D:Int) (J:List Int),E 1=pg g4∧E 2=pg g7∧E 3=iv 0∧E 4=.slice A23 y21.1.length c25∧E 5=iv y21.2∧E 6=pg g47∧E 7=.slice A55 y53.length c57∧E 64=iv C∧E 65=iv D∧I64 D∧Cx (fun _=>False) O0 w wv [.box g4 60 [.slice o l.length p,.slice z x.length B,iv C],.ro (.sl si) [.slice o l.length p] l,.ro (.sl si) [.slice z x.length B] x,.box g7 48 [iv 0,.slice none 0 0,.slice none 0 0],.own 3 si (.slice A23 y21.1.length c25) y21.1,.box g47 48 [iv z35,.slice A41 (((rZ z37)).length) c42,.slice none 0 0],.own 3 si (.slice A41 (((rZ z37)).length) c42) J,.own 22 (.sl si) (.slice A55 y53.length c57) y53]∧loopN m (F.qdu n C y21 y53) (D,J)=some o133) n ⟨0,L,e1,e2,e3,e4,e5,e6,e7,rfl,rfl,(show I64 0 from by unfold I64; omega),hC.sE [0,1,2,3,4,5,6,7],hl2⟩ ?_
 have hbK2:=hb
 clear hb hC hl2
 rintro m136 E138 w137 ⟨D,J,e1,e2,e3,e4,e5,e6,e7,e64,e65,T,hC,hl2⟩ K135 hK135
 obtain ⟨m136',o139,rfl,hb,hl2⟩:=qam hl2
 unfold F.qdu at hb
 refine Wc.seq fun _ hK140=>rg<|lp _ (qau e65 e64)<|ln (hK140 _ _ ?_)
 refine Wc.seq fun _ hK141=>?_
 refine Wc.cond (t:=(decide (D<C))) (rfl) (fun hq142=>?_) (fun hq142=>?_)
 replace hb:=tt hq142 hb
 refine Wc.skip (hK141 _ _ ?_)
 refine Wc.seq fun _ hK143=>?_
 refine Wc.block<|Wc.seq fun _ hK144=>rg<|lp _ (qaa e65)<|lp (iv D) (qab rfl)<|ln (hK144 _ _ ?_)
 refine rg<|lp (.pointer (some ((⟨g47,0,none⟩:Addr).add 1))) (qal (sz:=1) underlying48 rfl sizeOf22 (by decide) rfl e6)<|lv (.slice A41 (((rZ z37)).length) c42) (qar (hC.bx (i:=5) rfl) isAgg22 rfl rfl)<|lp _ (qaa e5)<|lp (iv D) (qaa rfl) ?_
 obtain ⟨z145,h146,hb⟩:=bd hb
 refine lp (iv z145) (qak (a:=y21.2) (b:=D) rfl rfl h146)<|lp _ (qaa e7)<|lp (iv (y53.length:Int)) (qan (A:=A55) (n:=y53.length) (m:=c57) underlying41 rfl)<|lp (iv D) (qaa rfl) ?_
 obtain ⟨z147,h148,hb⟩:=bd hb
 refine lp (iv z147) (qak (a:=(y53.length:Int)) (b:=D) rfl rfl h148) ?_
 obtain ⟨x149,h150,hb⟩:=bd hb
 obtain ⟨ad151,cs152,hA,hc153,hr154⟩:=hC.elo (i:=6) rfl (qac h150).2
 subst hA
 refine lp (.pointer (some (ad151.add (z145.toNat*1)))) (qag (a:=z145) underlying22 sizeOf3 rfl rfl (by rw [(hC.ow (i:=6) rfl).qaf.1]; exact (qac h150).1))<|lex.sk (hC.put (i:=6) rfl rfl sizeOf3 (k:=z145.toNat) (a:=z147) (by have:=(qac h150).1; simp at this⊢; omega) (⟨rfl,I64.wr (qai h148)⟩) rfl rfl rfl) ?_
 rintro w155 ⟨hC,hF⟩
 refine ln (hK143 _ _ ?_)
 refine rg ?_
 obtain ⟨z156,h157,hb⟩:=bd hb
 refine lp (iv z156) (qak (a:=D) (b:=1) e65 rfl h157)<|lp (iv z156) (qaa rfl)<|ln ?_
 obtain rfl:=os hb
 exact hK135 m136' _ _ (Nat.lt_succ_self _) ⟨z156,(J.set z145.toNat z147),e1,e2,e3,e4,e5,e6,e7,e64,rfl,(qai h157),hC.sE [0,1,2,3,4,5,6,7],lN hl2⟩
 replace hb:=tf hq142 hb
 refine Wc.exit rfl ?_
 obtain rfl:=os hb
 obtain rfl:=(lX hl2).symm
 exact hK134 _ _ ⟨D,J,e1,e2,e3,e4,e6,T,hC.sE [0,1,2,3,4,5,6],hbK2⟩
 clear hb hC hl2
 rintro E159 w158 ⟨D,J,e1,e2,e3,e4,e6,T,hC,hb⟩
 subst hf133
 refine hK131 _ _ ?_
 refine Wc.seq fun _ hK160=>?_
 refine Wc.seq fun _ hK161=>rg<|lp (.pointer (some ((⟨g4,0,none⟩:Addr).add 0))) (qal (sz:=1) underlying60 rfl sizeOf22 (by decide) rfl e1)<|lv (.slice o l.length p) (qar (hC.bx (i:=0) rfl) isAgg22 rfl rfl)<|lp (iv (l.length:Int)) (qan (A:=o) (n:=l.length) (m:=p) underlying22 rfl)<|lp (iv 0) (qaa rfl)<|ln (hK161 _ _ ?_)
 replace hC:=hC.nil 27 (.sl si)
 obtain ⟨o163,hl3,f163,hf163,hb⟩:=bn hb
 refine Wc.cut (fun E wv=> ∃(y:Int) (c:List (List Int)) (g:Option Addr) (N j:Nat),E 2=pg g7∧E 3=iv 0∧E 6=pg g47∧I64 y∧Cx (fun _=>False) O0 w wv [.box g7 48 [iv 0,.slice none 0 0,.slice none 0 0],.box g47 48 [iv z35,.slice A41 (((rZ z37)).length) c42,.slice g N j],.own 3 si (.slice A41 (((rZ z37)).length) c42) J,.own 27 (.sl si) (.slice g N j) c]∧f163 (y,c)=some r) (fun _ hK164=>?_) ?_
 refine Wc.block ?_
 refine Wc.loop (fun m E wv=> ∃(y:Int) (c:List (List Int)) (g:Option Addr) (N j:Nat),E 2=pg g7∧E 3=iv 0∧E 4=.slice A23 y21.1.length c25∧E 6=pg g47∧E 80=.slice o l.length p∧E 81=iv (l.length:Int)∧E 82=iv y∧I64 y∧Cx (fun _=>False) O0 w wv [.box g7 48 [iv 0,.slice none 0 0,.slice none 0 0],.own 3 si (.slice A23 y21.1.length c25) y21.1,.box g47 48 [iv z35,.slice A41 (((rZ z37)).length) c42,.slice g N j],.own 3 si (.slice A41 (((rZ z37)).length) c42) J,.own 27 (.sl si) (.slice g N j) c,.ro (.sl si) [.slice o l.length p] l]∧loopN m (F.qca n l y21) (y,c)=some o163) n ⟨0,([]:List (List Int)),none,0,0,e2,e3,e4,e6,rfl,rfl,rfl,(show I64 0 from by unfold I64; omega),hC.sE [4,5,6,7,0,2],hl3⟩ ?_
 have hbK3:=hb
 clear hb hC hl3
 rintro m166 E168 w167 ⟨y,c,g,N,j,e2,e3,e4,e6,e80,e81,e82,U,hC,hl3⟩ K165 hK165
 obtain ⟨m166',o169,rfl,hb,hl3⟩:=qam hl3
 unfold F.qca at hb
 obtain ⟨rfl,a0,a1⟩:=(hC.ow (i:=4) rfl).qaf
 refine Wc.seq fun _ hK170=>rg<|lp _ (qau e82 e81)<|ln (hK170 _ _ ?_)
 refine Wc.seq fun _ hK171=>?_
 refine Wc.cond (t:=(decide (y<(l.length:Int)))) (rfl) (fun hq172=>?_) (fun hq172=>?_)
 replace hb:=tt hq172 hb
 refine Wc.skip (hK171 _ _ ?_)
 refine Wc.seq fun _ hK173=>?_
 refine Wc.block<|Wc.seq fun _ hK174=>rg<|lp _ (qaa e82) ?_
 obtain ⟨x175,h176,hb⟩:=bd hb
 obtain ⟨ad177,cs178,hA,hc179,hr180⟩:=hC.elr (i:=5) rfl (qac h176).2
 subst hA
 refine lp (.pointer (some (ad177.add (y.toNat*1)))) (qag (a:=y) underlying22 sizeOf3 e80 e82 (qac h176).1) ?_
 obtain ⟨rfl,hr180'⟩:=hr180
 refine lv (iv x175) (qah isAgg3 rfl (hc179 0 _ rfl))<|lp (iv y) (qab rfl)<|lp (iv x175) (qab rfl)<|ln (hK174 _ _ ?_)
 refine Wc.seq fun _ hK181=>?_
 refine Wc.regionMix [] (frm [] ([]:List Fact) ([]:List Fact)) (fun _=>rfl) mixed (by decide+kernel) (by decide+kernel) fun w183 hw182=>?_
 replace hC:=hC.step (Fr.qbh hw182)
 have hM:=Fr.refl (fun k=>k∈blocks ([]:List Fact)) w183
 clear hw182
 have hS:=hC
 refine mp (.slice A23 y21.1.length c25) (qaa e4)<|mp (iv y) (qaa rfl) ?_
 obtain ⟨z184,h185,hb⟩:=bd hb
 refine mp (iv z184) (qdz (a:=4) (b:=y) rfl rfl h185) ?_
 obtain ⟨x186,h187,hb⟩:=bd hb
 obtain ⟨ad188,cs189,hA,ho192,hc190,hr191⟩:=hS.elo2 (i:=1) rfl (qac h187).2 [] (by decide)
 subst hA
 refine mp (.pointer (some (ad188.add (z184.toNat*1)))) (qag (a:=z184) underlying22 sizeOf3 rfl rfl (qac h187).1) ?_
 obtain ⟨rfl,hr191'⟩:=hr191
 refine mixE.load hM (v:=iv x186) (fun _ hF=>qah isAgg3 rfl (hF.cell (hc190 0 _ rfl) (off1 ho192))) ?_
 obtain ⟨z193,h194,hb⟩:=bd hb
 refine mp (iv z193) (qak (a:=x186) (b:=1) rfl rfl h194)<|mp (.slice (some ad188) y21.1.length c25) (qaa e4)<|mp (iv y) (qaa rfl) ?_
 obtain ⟨z195,h196,hb⟩:=bd hb
 refine mp (iv z195) (qdz (a:=4) (b:=y) rfl rfl h196) ?_
 obtain ⟨z197,h198,hb⟩:=bd hb
 refine mp (iv z197) (qak (a:=z195) (b:=2) rfl rfl h198) ?_
 obtain ⟨x199,h200,hb⟩:=bd hb
 obtain ⟨ad201,cs202,hA,ho205,hc203,hr204⟩:=hS.elo2 (i:=1) rfl (qac h200).2 [] (by decide)
 obtain rfl:=Option.some.inj hA
 refine mp (.pointer (some (ad188.add (z197.toNat*1)))) (qag (a:=z197) underlying22 sizeOf3 rfl rfl (qac h200).1) ?_
 obtain ⟨rfl,hr204'⟩:=hr204
 refine mixE.load hM (v:=iv x199) (fun _ hF=>qah isAgg3 rfl (hF.cell (hc203 0 _ rfl) (off1 ho205))) ?_
 obtain ⟨z206,h207,hb⟩:=bd hb
 refine mp (iv z206) (qak (a:=x199) (b:=1) rfl rfl h207)<|mp (.slice (some ad188) y21.1.length c25) (qaa e4)<|mp (iv y) (qaa rfl) ?_
 obtain ⟨z208,h209,hb⟩:=bd hb
 refine mp (iv z208) (qdz (a:=4) (b:=y) rfl rfl h209) ?_
 obtain ⟨z210,h211,hb⟩:=bd hb
 refine mp (iv z210) (qak (a:=z208) (b:=1) rfl rfl h211) ?_
 obtain ⟨x212,h213,hb⟩:=bd hb
 obtain ⟨ad214,cs215,hA,ho218,hc216,hr217⟩:=hS.elo2 (i:=1) rfl (qac h213).2 [] (by decide)
 obtain rfl:=Option.some.inj hA
 refine mp (.pointer (some (ad188.add (z210.toNat*1)))) (qag (a:=z210) underlying22 sizeOf3 rfl rfl (qac h213).1) ?_
 obtain ⟨rfl,hr217'⟩:=hr217
 refine mixE.load hM (v:=iv x212) (fun _ hF=>qah isAgg3 rfl (hF.cell (hc216 0 _ rfl) (off1 ho218))) ?_
 obtain ⟨z219,h220,hb⟩:=bd hb
 refine mp (iv z219) (qak (a:=x212) (b:=1) rfl rfl h220)<|mp (iv z193) (qab rfl)<|mp (iv z206) (qab rfl)<|mp (iv z219) (qab rfl)<|mixE.nil ?_
 clear hS hM
 refine hK181 _ _<|Wc.fresh fun E221 hE=>?_
 have e2:=cg hE 2 e2
 have e3:=cg hE 3 e3
 have e4:=cg hE 4 e4
 have e6:=cg hE 6 e6
 have e13:E221 13=iv y:=cg hE 13 rfl
 have e14:E221 14=iv x175:=cg hE 14 rfl
 have e15:E221 15=iv z193:=cg hE 15 rfl
 have e16:E221 16=iv z206:=cg hE 16 rfl
 have e17:E221 17=iv z219:=cg hE 17 rfl
 have e80:=cg hE 80 e80
 have e81:=cg hE 81 e81
 have e82:=cg hE 82 e82
 have e83:E221 83=.bool (decide (y<(l.length:Int))):=cg hE 83 rfl
 clear hE
 refine Wc.seq fun _ hK222=>rg<|lp (.slice none 0 0) (qab rfl)<|ln (hK222 _ _ ?_)
 refine Wc.seq fun _ hK223=>?_
 refine Wc.seq fun _ hK224=>rg<|lp _ (qaa e14)<|lp (.bool (decide (0<x175))) (qbi (k:=.i64) (a:=x175) (b:=0) rfl rfl)<|ln (hK224 _ _ ?_)
 refine Wc.cond (t:=(decide (0<x175))) (rfl) (fun hq225=>?_) (fun hq225=>?_)
 replace hb:=tt hq225 hb
 refine rg<|lp (.slice none 0 0) (qaa rfl)<|lp _ (qaa e16) ?_
 obtain ⟨z226,h227,hb⟩:=bd hb
 refine lp (iv z226) (qbx (a:=z206) rfl h227)<|lp _ (qaa e17) ?_
 obtain ⟨z228,h229,hb⟩:=bd hb
 refine lp (iv z228) (qbx (a:=z219) rfl h229)<|lp _ (qaa e15)<|lp _ (qaa e17)<|lex.op (hC.lit (s:=si) (vs:=[iv z226,iv z228,iv z193,iv z219]) (xs:=[z226,z228,z193,z219]) underlying27 type3 rfl rfl (nb rfl) rfl rfl (by simp [Value.cells,Sh.n]) rfl (show Elems _ _ si ([iv z226]++([iv z228]++([iv z193]++([iv z219]++([]))))) ([z226,z228,z193,z219]:List Int) from Elems.cons (⟨rfl,I64.wr (qai h227)⟩) (Elems.cons (⟨rfl,I64.wr (qai h229)⟩) (Elems.cons (⟨rfl,I64.wr (qai h194)⟩) (Elems.cons (⟨rfl,I64.wr (qai h220)⟩) (Elems.nil _ _ _)))))) ?_
 rintro _ w234 ⟨A230,c231,rfl,hl232,hc233,hC,-,-⟩
 replace hC:=hC.nil 3 si
 obtain ⟨u237,h238,hb⟩:=bd hb
 refine lex.op (hC.app (i:=0) (s:=si) (xs:=([]:List Int)) (ys:=([z226,z228,z193,z219]:List Int)) (m:=((([z226,z228,z193,z219]:List Int)).length)) rfl underlying27 underlying27 type3 rfl rfl rfl (hC.srco (i:=1) rfl) rfl rfl (by have:=qbn h238; simp at this⊢ <;>omega) (by decide)) ?_
 rintro _ w243 ⟨A239,c240,rfl,hl241,hc242,hC,-,-⟩
 refine lp (.slice A239 ((([]:List Int)++([z226,z228,z193,z219]:List Int)).length) c240) (qab rfl)<|ln (hK223 _ _ ?_)
 refine Wc.fresh fun E244 hE=>?_
 have e2:=cg hE 2 e2
 have e3:=cg hE 3 e3
 have e4:=cg hE 4 e4
 have e6:=cg hE 6 e6
 have e13:=cg hE 13 e13
 have e14:=cg hE 14 e14
 have e15:=cg hE 15 e15
 have e16:=cg hE 16 e16
 have e17:=cg hE 17 e17
 have e18:E244 18=.slice A239 ((([]:List Int)++([z226,z228,z193,z219]:List Int)).length) c240:=cg hE 18 rfl
 have e80:=cg hE 80 e80
 have e81:=cg hE 81 e81
 have e82:=cg hE 82 e82
 have e83:=cg hE 83 e83
 have e108:E244 108=.bool (decide (0<x175)):=cg hE 108 rfl
 clear hE
 refine Wc.regionMix [] (frm [] [.own 27 (.sl si) (.slice g c.length j) c] [.box g47 48 [iv z35,.slice A41 (((rZ z37)).length) c42,.slice g c.length j]]) (fun _=>rfl) mixed (by decide+kernel) (by decide+kernel) fun w246 hw245=>?_
 replace hC:=hC.step (Fr.qbh hw245)
 have hM:=Fr.refl (fun k=>k∈blocks [.own 27 (.sl si) (.slice g c.length j) c]) w246
 clear hw245
 have hS:=hC
 have Q:Beside [.own 27 (.sl si) (.slice g c.length j) c] w246 (.slice g c.length j):=Beside.of (i:=0) rfl
 have hD:Fr (fun k=>k∈blocks ([.own 27 (.sl si) (.slice g c.length j) c]++[.box g47 48 [iv z35,.slice A41 (((rZ z37)).length) c42,.slice g c.length j]])) w246 w246:=hM.wide
 have a2:Beside ([.own 27 (.sl si) (.slice g c.length j) c]++[.box g47 48 [iv z35,.slice A41 (((rZ z37)).length) c42,.slice g c.length j]]) w246 (.slice g c.length j):=Beside.of (i:=0) rfl
 have hUf49:g47<w246.heap.size→g47∈blocks ([.own 27 (.sl si) (.slice g c.length j) c]++[.box g47 48 [iv z35,.slice A41 (((rZ z37)).length) c42,.slice g c.length j]]):=fun _=>box_in (i:=1) rfl
 refine mp (.pointer (some ((⟨g47,0,none⟩:Addr).add 2))) (qal (sz:=1) underlying48 rfl sizeOf37 (by decide) rfl e6)<|mixE.load hM (v:=.slice g c.length j) (fun _ hF=>qar (hS.bx2 (i:=4) rfl [6] (by decide) hF) isAgg37 rfl rfl)<|mp (.slice A239 ((([]:List Int)++([z226,z228,z193,z219]:List Int)).length) c240) (qaa e18) ?_
 obtain ⟨y247,h248,hb⟩:=bd hb
 refine mixE.cl hM (⟨_,_,qas (vs:=[.slice A239 ((([]:List Int)++([z226,z228,z193,z219]:List Int)).length) c240]) call34 rfl rfl rfl,qge n (hC.lentLt [.slice A239 ((([]:List Int)++([z226,z228,z193,z219]:List Int)).length) c240]) ((hC.ow (i:=0) rfl).lend (vs:=[.slice A239 ((([]:List Int)++([z226,z228,z193,z219]:List Int)).length) c240]) (by simp)) h248⟩) ?_
 rintro _ w253 ⟨A249,m250,c251,rfl,hK⟩
 have hBf252:=Beside.cl (i:=0) hM hK rfl
 have hUf252:=hBf252.wide (H:=[.box g47 48 [iv z35,.slice A41 (((rZ z37)).length) c42,.slice g c.length j]])
 replace hM:=hM.none hK.fr
 replace hD:=hM.wide (H:=[.box g47 48 [iv z35,.slice A41 (((rZ z37)).length) c42,.slice g c.length j]])
 refine ⟨hM,?_⟩
 replace hC:=hC.mergeF hK rfl
 clear hK
 obtain ⟨rfl,hl254,hc255⟩:=(hC.ow (i:=0) rfl).qaf
 replace hC:=hC.freeze (i:=0) rfl (hC.qdh (i:=0) rfl)
 refine mixE.op hM (hC.lit (s:=(.sl si)) (vs:=[.slice A249 y247.length c251]) (xs:=[y247]) underlying37 type27 rfl rfl (nb rfl) rfl rfl (by simp [Value.cells,Sh.n]) rfl (show Elems _ _ (.sl si) ([.slice A249 y247.length c251]++([])) ([y247]:List (List Int)) from Elems.cons (hC.rd (i:=0) rfl) (Elems.nil _ _ _))) ?_
 rintro _ w260 ⟨A256,c257,rfl,hl258,hc259,hC,hF,hN⟩
 have hBf261:=Beside.new hM hN
 have hUf261:=Beside.new (hM.wide (H:=[.box g47 48 [iv z35,.slice A41 (((rZ z37)).length) c42,.slice g c.length j]])) hN
 replace hM:=hM.none hF
 replace hD:=hM.wide (H:=[.box g47 48 [iv z35,.slice A41 (((rZ z37)).length) c42,.slice g c.length j]])
 refine ⟨hM,?_⟩
 clear hF hN
 obtain ⟨u262,h263,hb⟩:=bd hb
 refine mixE.op hM (hC.app (i:=8) (s:=(.sl si)) (xs:=c) (ys:=([y247]:List (List Int))) (m:=((([y247]:List (List Int))).length)) rfl underlying37 underlying37 type27 rfl rfl rfl (hC.srco (i:=0) rfl) rfl rfl (by have:=qbn h263; simp at this⊢ <;>omega) (by decide)) ?_
 rintro _ w268 ⟨A264,c265,rfl,hl266,hc267,hC,hF,hN⟩
 have hB:=Q
 replace Q:=hB.app hM hN
 replace hM:=hM.beside hB hF
 clear hB
 replace hD:=hM.wide (H:=[.box g47 48 [iv z35,.slice A41 (((rZ z37)).length) c42,.slice g c.length j]])
 refine ⟨hM,?_⟩
 clear hF hN
 refine mp (.pointer (some ((⟨g47,0,none⟩:Addr).add 2))) (qal (sz:=1) underlying48 rfl sizeOf37 (by decide) rfl e6)<|mixE.sk hD (hC.setf (i:=6) (k:=2) (v:=.slice A264 ((c++([y247]:List (List Int))).length) c265) rfl sizeOf37 rfl rfl rfl rfl) ?_
 rintro w269 ⟨hC,hF⟩
 replace hD:=hD.besideG hUf49 hF
 clear hF
 refine ⟨hD,?_⟩
 refine mixE.nil ?_
 clear hS hM
 clear hD
 refine hK173 _ _<|rg ?_
 obtain ⟨z270,h271,hb⟩:=bd hb
 refine lp (iv z270) (qak (a:=y) (b:=1) e82 rfl h271)<|lp (iv z270) (qaa rfl)<|ln ?_
 obtain rfl:=os hb
 exact hK165 m166' _ _ (Nat.lt_succ_self _) ⟨z270,(c++([y247]:List (List Int))),A264,(c++([y247]:List (List Int))).length,c265,e2,e3,e4,e6,e80,e81,rfl,(qai h271),hC.sE [4,5,6,7,8,9],lN hl3⟩
 replace hb:=tf hq225 hb
 refine rg<|lp (.slice none 0 0) (qaa rfl)<|lp _ (qaa e16) ?_
 obtain ⟨z272,h273,hb⟩:=bd hb
 refine lp (iv z272) (qbx (a:=z206) rfl h273)<|lp _ (qaa e17)<|lp _ (qaa e15)<|lp _ (qaa e17) ?_
 obtain ⟨z274,h275,hb⟩:=bd hb
 refine lp (iv z274) (qbx (a:=z219) rfl h275)<|lex.op (hC.lit (s:=si) (vs:=[iv z272,iv z219,iv z193,iv z274]) (xs:=[z272,z219,z193,z274]) underlying27 type3 rfl rfl (nb rfl) rfl rfl (by simp [Value.cells,Sh.n]) rfl (show Elems _ _ si ([iv z272]++([iv z219]++([iv z193]++([iv z274]++([]))))) ([z272,z219,z193,z274]:List Int) from Elems.cons (⟨rfl,I64.wr (qai h273)⟩) (Elems.cons (⟨rfl,I64.wr (qai h220)⟩) (Elems.cons (⟨rfl,I64.wr (qai h194)⟩) (Elems.cons (⟨rfl,I64.wr (qai h275)⟩) (Elems.nil _ _ _)))))) ?_
 rintro _ w280 ⟨A276,c277,rfl,hl278,hc279,hC,-,-⟩
 replace hC:=hC.nil 3 si
 obtain ⟨u283,h284,hb⟩:=bd hb
 refine lex.op (hC.app (i:=0) (s:=si) (xs:=([]:List Int)) (ys:=([z272,z219,z193,z274]:List Int)) (m:=((([z272,z219,z193,z274]:List Int)).length)) rfl underlying27 underlying27 type3 rfl rfl rfl (hC.srco (i:=1) rfl) rfl rfl (by have:=qbn h284; simp at this⊢ <;>omega) (by decide)) ?_
 rintro _ w289 ⟨A285,c286,rfl,hl287,hc288,hC,-,-⟩
 refine lp (.slice A285 ((([]:List Int)++([z272,z219,z193,z274]:List Int)).length) c286) (qab rfl)<|ln (hK223 _ _ ?_)
 refine Wc.fresh fun E290 hE=>?_
 have e2:=cg hE 2 e2
 have e3:=cg hE 3 e3
 have e4:=cg hE 4 e4
 have e6:=cg hE 6 e6
 have e13:=cg hE 13 e13
 have e14:=cg hE 14 e14
 have e15:=cg hE 15 e15
 have e16:=cg hE 16 e16
 have e17:=cg hE 17 e17
 have e18:E290 18=.slice A285 ((([]:List Int)++([z272,z219,z193,z274]:List Int)).length) c286:=cg hE 18 rfl
 have e80:=cg hE 80 e80
 have e81:=cg hE 81 e81
 have e82:=cg hE 82 e82
 have e83:=cg hE 83 e83
 have e108:E290 108=.bool (decide (0<x175)):=cg hE 108 rfl
 clear hE
 refine Wc.regionMix [] (frm [] [.own 27 (.sl si) (.slice g c.length j) c] [.box g47 48 [iv z35,.slice A41 (((rZ z37)).length) c42,.slice g c.length j]]) (fun _=>rfl) mixed (by decide+kernel) (by decide+kernel) fun w292 hw291=>?_
 replace hC:=hC.step (Fr.qbh hw291)
 have hM:=Fr.refl (fun k=>k∈blocks [.own 27 (.sl si) (.slice g c.length j) c]) w292
 clear hw291
 have hS:=hC
 have Q:Beside [.own 27 (.sl si) (.slice g c.length j) c] w292 (.slice g c.length j):=Beside.of (i:=0) rfl
 have hD:Fr (fun k=>k∈blocks ([.own 27 (.sl si) (.slice g c.length j) c]++[.box g47 48 [iv z35,.slice A41 (((rZ z37)).length) c42,.slice g c.length j]])) w292 w292:=hM.wide
 have a2:Beside ([.own 27 (.sl si) (.slice g c.length j) c]++[.box g47 48 [iv z35,.slice A41 (((rZ z37)).length) c42,.slice g c.length j]]) w292 (.slice g c.length j):=Beside.of (i:=0) rfl
 have hUf49:g47<w292.heap.size→g47∈blocks ([.own 27 (.sl si) (.slice g c.length j) c]++[.box g47 48 [iv z35,.slice A41 (((rZ z37)).length) c42,.slice g c.length j]]):=fun _=>box_in (i:=1) rfl
 refine mp (.pointer (some ((⟨g47,0,none⟩:Addr).add 2))) (qal (sz:=1) underlying48 rfl sizeOf37 (by decide) rfl e6)<|mixE.load hM (v:=.slice g c.length j) (fun _ hF=>qar (hS.bx2 (i:=4) rfl [6] (by decide) hF) isAgg37 rfl rfl)<|mp (.slice A285 ((([]:List Int)++([z272,z219,z193,z274]:List Int)).length) c286) (qaa e18) ?_
 obtain ⟨y293,h294,hb⟩:=bd hb
 refine mixE.cl hM (⟨_,_,qas (vs:=[.slice A285 ((([]:List Int)++([z272,z219,z193,z274]:List Int)).length) c286]) call34 rfl rfl rfl,qge n (hC.lentLt [.slice A285 ((([]:List Int)++([z272,z219,z193,z274]:List Int)).length) c286]) ((hC.ow (i:=0) rfl).lend (vs:=[.slice A285 ((([]:List Int)++([z272,z219,z193,z274]:List Int)).length) c286]) (by simp)) h294⟩) ?_
 rintro _ w299 ⟨A295,m296,c297,rfl,hK⟩
 have hBf298:=Beside.cl (i:=0) hM hK rfl
 have hUf298:=hBf298.wide (H:=[.box g47 48 [iv z35,.slice A41 (((rZ z37)).length) c42,.slice g c.length j]])
 replace hM:=hM.none hK.fr
 replace hD:=hM.wide (H:=[.box g47 48 [iv z35,.slice A41 (((rZ z37)).length) c42,.slice g c.length j]])
 refine ⟨hM,?_⟩
 replace hC:=hC.mergeF hK rfl
 clear hK
 obtain ⟨rfl,hl300,hc301⟩:=(hC.ow (i:=0) rfl).qaf
 replace hC:=hC.freeze (i:=0) rfl (hC.qdh (i:=0) rfl)
 refine mixE.op hM (hC.lit (s:=(.sl si)) (vs:=[.slice A295 y293.length c297]) (xs:=[y293]) underlying37 type27 rfl rfl (nb rfl) rfl rfl (by simp [Value.cells,Sh.n]) rfl (show Elems _ _ (.sl si) ([.slice A295 y293.length c297]++([])) ([y293]:List (List Int)) from Elems.cons (hC.rd (i:=0) rfl) (Elems.nil _ _ _))) ?_
 rintro _ w306 ⟨A302,c303,rfl,hl304,hc305,hC,hF,hN⟩
 have hBf307:=Beside.new hM hN
 have hUf307:=Beside.new (hM.wide (H:=[.box g47 48 [iv z35,.slice A41 (((rZ z37)).length) c42,.slice g c.length j]])) hN
 replace hM:=hM.none hF
 replace hD:=hM.wide (H:=[.box g47 48 [iv z35,.slice A41 (((rZ z37)).length) c42,.slice g c.length j]])
 refine ⟨hM,?_⟩
 clear hF hN
 obtain ⟨u308,h309,hb⟩:=bd hb
 refine mixE.op hM (hC.app (i:=8) (s:=(.sl si)) (xs:=c) (ys:=([y293]:List (List Int))) (m:=((([y293]:List (List Int))).length)) rfl underlying37 underlying37 type27 rfl rfl rfl (hC.srco (i:=0) rfl) rfl rfl (by have:=qbn h309; simp at this⊢ <;>omega) (by decide)) ?_
 rintro _ w314 ⟨A310,c311,rfl,hl312,hc313,hC,hF,hN⟩
 have hB:=Q
 replace Q:=hB.app hM hN
 replace hM:=hM.beside hB hF
 clear hB
 replace hD:=hM.wide (H:=[.box g47 48 [iv z35,.slice A41 (((rZ z37)).length) c42,.slice g c.length j]])
 refine ⟨hM,?_⟩
 clear hF hN
 refine mp (.pointer (some ((⟨g47,0,none⟩:Addr).add 2))) (qal (sz:=1) underlying48 rfl sizeOf37 (by decide) rfl e6)<|mixE.sk hD (hC.setf (i:=6) (k:=2) (v:=.slice A310 ((c++([y293]:List (List Int))).length) c311) rfl sizeOf37 rfl rfl rfl rfl) ?_
 rintro w315 ⟨hC,hF⟩
 replace hD:=hD.besideG hUf49 hF
 clear hF
 refine ⟨hD,?_⟩
 refine mixE.nil ?_
 clear hS hM
 clear hD
 refine hK173 _ _<|rg ?_
 obtain ⟨z316,h317,hb⟩:=bd hb
 refine lp (iv z316) (qak (a:=y) (b:=1) e82 rfl h317)<|lp (iv z316) (qaa rfl)<|ln ?_
 obtain rfl:=os hb
 exact hK165 m166' _ _ (Nat.lt_succ_self _) ⟨z316,(c++([y293]:List (List Int))),A310,(c++([y293]:List (List Int))).length,c311,e2,e3,e4,e6,e80,e81,rfl,(qai h317),hC.sE [4,5,6,7,8,9],lN hl3⟩
 replace hb:=tf hq172 hb
 refine Wc.exit rfl ?_
 obtain rfl:=os hb
 obtain rfl:=(lX hl3).symm
 exact hK164 _ _ ⟨y,c,g,c.length,j,e2,e3,e6,U,hC.sE [0,2,3,4],hbK3⟩
 clear hb hC hl3
 rintro E319 w318 ⟨y,c,g,N,j,e2,e3,e6,U,hC,hb⟩
 subst hf163
 obtain ⟨rfl,a0,a1⟩:=(hC.ow (i:=3) rfl).qaf
 refine hK160 _ _<|Wc.seq fun _ hK320=>rg<|lv (.agg #[iv z35,.slice A41 (((rZ z37)).length) c42,.slice g c.length j]) (qbm (hC.bx (i:=1) rfl) isAgg48 sizeOf48 e6)<|lex.sk (hC.seta (i:=0) (ds:=[iv z35,.slice A41 (((rZ z37)).length) c42,.slice g c.length j]) rfl type48 rfl rfl rfl e2 rfl) ?_
 rintro w321 ⟨hC,hF⟩
 refine lp (iv 0) (qab rfl)<|ln (hK320 _ _ ?_)
 obtain rfl:=os hb
 refine Wc.ret (hKR _ _ ?_)
 refine ⟨_,res2 results30 ⟨_,e2,qem (hC.bx (i:=0) rfl) isAgg48 sizeOf48⟩ (tV (iv 0) rfl),_,rfl,A41,((rZ z37)).length,c42,g,c.length,j,rfl,(qai h36),(show I64 0 from by unfold I64; omega),hC.sE [2,3]⟩
 refine qad ?_
 refine mixE.op hM (hC.alloc (cs:=[iv 0,.slice none 0 0,.slice none 0 0]) zeroValue48 rfl) ?_
 rintro _ w323 ⟨g322,rfl,hC,hF,hG⟩
 have hUf324:g322<w34.heap.size→g322∈blocks (([]:List Fact)++([]:List Fact)):=fun h=>absurd (Nat.lt_of_lt_of_le h (Nat.le_trans hM.size hG)) (Nat.lt_irrefl _)
 clear hG
 replace hM:=hM.none hF
 replace hD:=hM.wide (H:=([]:List Fact))
 refine ⟨hM,?_⟩
 refine mixE.nil ?_
 refine qad ?_
 obtain ⟨u39,h326,hb⟩:=bd hb
 refine mixE.op hM (hC.make (s:=si) (n:=z37) underlying22 type3 rfl rfl rfl rfl rfl (qae h326).1 (qae h326).2 (by decide)) ?_
 rintro _ w331 ⟨A327,c328,rfl,hl329,hc330,hC,hF,hN⟩
 have hBf332:=Beside.new hM hN
 have hUf332:=Beside.new (hM.wide (H:=([]:List Fact))) hN
 replace hM:=hM.none hF
 replace hD:=hM.wide (H:=([]:List Fact))
 refine ⟨hM,?_⟩
 clear hF hN
 refine mp (.agg #[iv z35,.slice A327 (((rZ z37)).length) c328,.slice none 0 0]) (qdj (places:=[(0,1),(1,1),(2,1)]) (pv:=[(0,iv z35),(1,.slice A327 (((rZ z37)).length) c328)]) type48 underlying48 rfl (qba type3 (qba type22 (qba type37 mp_nil rfl rfl) rfl rfl) rfl rfl) rfl (by simp [Instr.fill,Value.cells]))<|mixE.sk hD (hC.seta (i:=1) (ds:=[iv z35,.slice A327 (((rZ z37)).length) c328,.slice none 0 0]) rfl type48 rfl rfl rfl rfl rfl) ?_
 rintro w333 ⟨hC,hF⟩
 replace hD:=hD.besideG hUf324 hF
 clear hF
 refine ⟨hD,?_⟩
 refine mixE.nil ?_
 clear hS hM
 clear hD
 refine hK32 _ _<|Wc.fresh fun E334 hE=>?_
 have e1:=cg hE 1 e1
 have e2:=cg hE 2 e2
 have e3:=cg hE 3 e3
 have e4:=cg hE 4 e4
 have e5:=cg hE 5 e5
 have e6:E334 6=pg g322:=cg hE 6 rfl
 clear hE
 refine Wc.seq fun _ hK335=>rg<|lv (.agg #[.slice o l.length p,.slice z x.length B,iv C]) (qbm (hC.bx (i:=4) rfl) isAgg60 sizeOf60 e1) ?_
 obtain ⟨y53,h337,hb⟩:=bd hb
 refine lex.cl (⟨_,_,qas (vs:=[.agg #[.slice o l.length p,.slice z x.length B,iv C]]) call53 rfl rfl rfl,diagram_Strands_ok n hC.lt (hC.rd (i:=6) rfl) (hC.rd (i:=5) rfl) V h337⟩) ?_
 rintro _ w342 ⟨A338,m339,c340,rfl,hK⟩
 replace hC:=hC.merge hK
 clear hK
 obtain ⟨rfl,hl343,hc344⟩:=(hC.ow (i:=0) rfl).qaf
 refine lp (.slice A338 y53.length c340) (qab rfl)<|ln (hK335 _ _ ?_)
 refine Wc.seq fun _ hK345=>?_
 refine Wc.seq fun _ hK346=>rg<|lp (.slice A338 y53.length c340) (qaa rfl)<|lp (iv (y53.length:Int)) (qan (A:=A338) (n:=y53.length) (m:=c340) underlying41 rfl)<|lp (iv 0) (qaa rfl)<|ln (hK346 _ _ ?_)
 obtain ⟨o64,hl0,f64,hf64,hb⟩:=bn hb
 refine Wc.cut (fun E wv=> ∃(u:Int) (L:List Int),E 1=pg g4∧E 2=pg g7∧E 3=iv 0∧E 4=.slice A23 y21.1.length c25∧E 5=iv y21.2∧E 6=pg g322∧E 7=.slice A338 y53.length c340∧I64 u∧Cx (fun _=>False) O0 w wv [.box g4 60 [.slice o l.length p,.slice z x.length B,iv C],.ro (.sl si) [.slice o l.length p] l,.ro (.sl si) [.slice z x.length B] x,.box g7 48 [iv 0,.slice none 0 0,.slice none 0 0],.own 3 si (.slice A23 y21.1.length c25) y21.1,.box g322 48 [iv z35,.slice A327 (((rZ z37)).length) c328,.slice none 0 0],.own 3 si (.slice A327 (((rZ z37)).length) c328) L,.own 22 (.sl si) (.slice A338 y53.length c340) y53]∧f64 (u,L)=some r) (fun _ hK348=>?_) ?_
 refine Wc.block ?_
 refine Wc.loop (fun m E wv=> ∃(u:Int) (L:List Int),E 1=pg g4∧E 2=pg g7∧E 3=iv 0∧E 4=.slice A23 y21.1.length c25∧E 5=iv y21.2∧E 6=pg g322∧E 7=.slice A338 y53.length c340∧E 40=.slice A338 y53.length c340∧E 41=iv (y53.length:Int)∧E 42=iv u∧I64 u∧Cx (fun _=>False) O0 w wv [.box g4 60 [.slice o l.length p,.slice z x.length B,iv C],.ro (.sl si) [.slice o l.length p] l,.ro (.sl si) [.slice z x.length B] x,.box g7 48 [iv 0,.slice none 0 0,.slice none 0 0],.own 3 si (.slice A23 y21.1.length c25) y21.1,.box g322 48 [iv z35,.slice A327 (((rZ z37)).length) c328,.slice none 0 0],.own 3 si (.slice A327 (((rZ z37)).length) c328) L,.own 22 (.sl si) (.slice A338 y53.length c340) y53]∧loopN m (F.qds n y21 y53) (u,L)=some o64) n ⟨0,(rZ z37),e1,e2,e3,e4,e5,e6,rfl,rfl,rfl,rfl,(show I64 0 from by unfold I64; omega),hC.sE [5,7,6,4,3,2,1,0],hl0⟩ ?_
 have hbK0:=hb
 clear hb hC hl0
 rintro m350 E352 w351 ⟨u,L,e1,e2,e3,e4,e5,e6,e7,e40,e41,e42,R,hC,hl0⟩ K349 hK349
 obtain ⟨m350',o353,rfl,hb,hl0⟩:=qam hl0
 unfold F.qds at hb
 refine Wc.seq fun _ hK354=>rg<|lp _ (qau e42 e41)<|ln (hK354 _ _ ?_)
 refine Wc.seq fun _ hK355=>?_
 refine Wc.cond (t:=(decide (u<(y53.length:Int)))) (rfl) (fun hq356=>?_) (fun hq356=>?_)
 replace hb:=tt hq356 hb
 refine Wc.skip (hK355 _ _ ?_)
 refine Wc.seq fun _ hK357=>?_
 refine Wc.block<|Wc.seq fun _ hK358=>rg<|lp _ (qaa e42) ?_
 obtain ⟨x76,h360,hb⟩:=bd hb
 obtain ⟨ad361,cs362,hA,hc363,hr364⟩:=hC.elo (i:=7) rfl (qac h360).2
 subst hA
 refine lp (.pointer (some (ad361.add (u.toNat*1)))) (qag (a:=u) underlying41 sizeOf22 e40 e42 (qac h360).1) ?_
 have hR:=hr364
 obtain ⟨A365,c366,rfl,hl367,hc368,_⟩:=hr364
 replace hC:=hC.ro hR
 clear hR
 refine lv (.slice A365 x76.length c366) (qah isAgg22 rfl (hc363 0 _ rfl))<|lp (iv u) (qab rfl)<|lp (.slice A365 x76.length c366) (qab rfl)<|ln (hK358 _ _ ?_)
 refine Wc.seq fun _ hK370=>rg<|lp (.slice A365 x76.length c366) (qaa rfl)<|lp (iv (x76.length:Int)) (qan (A:=A365) (n:=x76.length) (m:=c366) underlying22 rfl)<|lp (iv 0) (qaa rfl)<|ln (hK370 _ _ ?_)
 obtain ⟨o88,hl1,hb⟩:=bd hb
 refine Wc.cut (fun E wv=> ∃(K:Int) (G:List Int),E 1=pg g4∧E 2=pg g7∧E 3=iv 0∧E 4=.slice A23 y21.1.length c25∧E 5=iv y21.2∧E 6=pg g322∧E 7=.slice (some ad361) y53.length c340∧E 8=iv u∧E 9=.slice A365 x76.length c366∧E 40=.slice (some ad361) y53.length c340∧E 41=iv (y53.length:Int)∧E 42=iv u∧E 43=.bool (decide (u<(y53.length:Int)))∧E 47=.slice A365 x76.length c366∧E 48=iv (x76.length:Int)∧E 49=iv K∧I64 K∧Cx (fun _=>False) O0 w wv [.box g4 60 [.slice o l.length p,.slice z x.length B,iv C],.ro (.sl si) [.slice o l.length p] l,.ro (.sl si) [.slice z x.length B] x,.box g7 48 [iv 0,.slice none 0 0,.slice none 0 0],.own 3 si (.slice A23 y21.1.length c25) y21.1,.box g322 48 [iv z35,.slice A327 (((rZ z37)).length) c328,.slice none 0 0],.own 3 si (.slice A327 (((rZ z37)).length) c328) G,.own 22 (.sl si) (.slice (some ad361) y53.length c340) y53,.ro (.sl si) [.slice A365 x76.length c366] x76]∧((chk (u+1)).bind fun z127=>some (.inl (z127,G)):Option ((Int×(List Int))⊕((Int×(List Int)))))=some o353) (fun _ hK372=>?_) ?_
 refine Wc.block ?_
 refine Wc.loop (fun m E wv=> ∃(K:Int) (G:List Int),E 1=pg g4∧E 2=pg g7∧E 3=iv 0∧E 4=.slice A23 y21.1.length c25∧E 5=iv y21.2∧E 6=pg g322∧E 7=.slice (some ad361) y53.length c340∧E 8=iv u∧E 9=.slice A365 x76.length c366∧E 40=.slice (some ad361) y53.length c340∧E 41=iv (y53.length:Int)∧E 42=iv u∧E 43=.bool (decide (u<(y53.length:Int)))∧E 47=.slice A365 x76.length c366∧E 48=iv (x76.length:Int)∧E 49=iv K∧I64 K∧Cx (fun _=>False) O0 w wv [.box g4 60 [.slice o l.length p,.slice z x.length B,iv C],.ro (.sl si) [.slice o l.length p] l,.ro (.sl si) [.slice z x.length B] x,.box g7 48 [iv 0,.slice none 0 0,.slice none 0 0],.own 3 si (.slice A23 y21.1.length c25) y21.1,.box g322 48 [iv z35,.slice A327 (((rZ z37)).length) c328,.slice none 0 0],.own 3 si (.slice A327 (((rZ z37)).length) c328) G,.own 22 (.sl si) (.slice (some ad361) y53.length c340) y53,.ro (.sl si) [.slice A365 x76.length c366] x76]∧loopN m (F.qdx n y21 u x76) (K,G)=some o88) n ⟨0,L,e1,e2,e3,e4,e5,e6,e7,rfl,rfl,e40,e41,e42,rfl,rfl,rfl,rfl,(show I64 0 from by unfold I64; omega),hC.sE [1,2,3,4,5,6,7,8,0],hl1⟩ ?_
 have hbK1:=hb
 clear hb hC hl1
 rintro m374 E376 w375 ⟨K,G,e1,e2,e3,e4,e5,e6,e7,e8,e9,e40,e41,e42,e43,e47,e48,e49,S,hC,hl1⟩ K373 hK373
 obtain ⟨m374',o377,rfl,hb,hl1⟩:=qam hl1
 unfold F.qdx at hb
 refine Wc.seq fun _ hK378=>rg<|lp _ (qau e49 e48)<|ln (hK378 _ _ ?_)
 refine Wc.seq fun _ hK379=>?_
 refine Wc.cond (t:=(decide (K<(x76.length:Int)))) (rfl) (fun hq380=>?_) (fun hq380=>?_)
 replace hb:=tt hq380 hb
 refine Wc.skip (hK379 _ _ ?_)
 refine Wc.seq fun _ hK381=>?_
 refine Wc.block<|Wc.seq fun _ hK382=>rg ?_
 obtain ⟨x100,h384,hb⟩:=bd hb
 obtain ⟨ad385,cs386,hA,hc387,hr388⟩:=hC.elr (i:=8) rfl (qac h384).2
 subst hA
 refine lp (.pointer (some (ad385.add (K.toNat*1)))) (qag (a:=K) underlying22 sizeOf3 e47 e49 (qac h384).1) ?_
 obtain ⟨rfl,hr388'⟩:=hr388
 refine lv (iv x100) (qah isAgg3 rfl (hc387 0 _ rfl))<|lp (iv x100) (qab rfl)<|ln (hK382 _ _ ?_)
 refine Wc.regionMix [54,58] (frm [54,58] ([]:List Fact) [.own 3 si (.slice A327 (((rZ z37)).length) c328) G]) (fun _=>rfl) mixed (by decide+kernel) (by decide+kernel) fun w390 hw389=>?_
 replace hC:=hC.step (Fr.qbh hw389)
 have hM:=Fr.refl (fun k=>k∈blocks ([]:List Fact)) w390
 clear hw389
 have hS:=hC
 have hD:Fr (fun k=>k∈blocks (([]:List Fact)++[.own 3 si (.slice A327 (((rZ z37)).length) c328) G])) w390 w390:=hM.wide
 have hUf332:Beside (([]:List Fact)++[.own 3 si (.slice A327 (((rZ z37)).length) c328) G]) w390 (.slice A327 (((rZ z37)).length) c328):=Beside.of (i:=0) rfl
 refine mp (.pointer (some ((⟨g322,0,none⟩:Addr).add 1))) (qal (sz:=1) underlying48 rfl sizeOf22 (by decide) rfl e6)<|mixE.steady hD (v:=.slice A327 (((rZ z37)).length) c328) (fun _ hF=>qar (hS.bx2 (i:=5) rfl [6] (by decide) hF) isAgg22 rfl rfl)<|mp (.slice A23 y21.1.length c25) (qaa e4)<|mp (iv x100) (qaa rfl) ?_
 obtain ⟨x108,h392,hb⟩:=bd hb
 obtain ⟨ad393,cs394,hA,ho397,hc395,hr396⟩:=hS.elo2 (i:=4) rfl (qac h392).2 [6] (by decide)
 subst hA
 refine mp (.pointer (some (ad393.add (x100.toNat*1)))) (qag (a:=x100) underlying22 sizeOf3 rfl rfl (qac h392).1) ?_
 obtain ⟨rfl,hr396'⟩:=hr396
 refine mixE.steady hD (v:=iv x108) (fun _ hF=>qah isAgg3 rfl (hF.cell (hc395 0 _ rfl) (off1 ho397)))<|mp (iv u) (qaa e8) ?_
 obtain ⟨x115,h399,hb⟩:=bd hb
 obtain ⟨ad400,cs401,hA,ho404,hc402,hr403⟩:=hS.elo2 (i:=6) rfl (qac h399).2 [] (by decide)
 subst hA
 refine mp (.pointer (some (ad400.add (x108.toNat*1)))) (qag (a:=x108) underlying22 sizeOf3 rfl rfl (by rw [(hC.ow (i:=6) rfl).qaf.1]; exact (qac h399).1))<|mixE.sk hD (hC.put (i:=6) rfl rfl sizeOf3 (k:=x108.toNat) (a:=u) (by have:=(qac h399).1; simp at this⊢; omega) (⟨rfl,I64.wr R⟩) rfl rfl rfl) ?_
 rintro w405 ⟨hC,hF⟩
 replace hD:=hD.beside hUf332 hF
 clear hF
 refine ⟨hD,?_⟩
 refine mixE.nil ?_
 clear hS hM
 clear hD
 refine hK381 _ _<|rg ?_
 obtain ⟨z123,h407,hb⟩:=bd hb
 refine lp (iv z123) (qak (a:=K) (b:=1) e49 rfl h407)<|lp (iv z123) (qaa rfl)<|ln ?_
 obtain rfl:=os hb
 exact hK373 m374' _ _ (Nat.lt_succ_self _) ⟨z123,(G.set x108.toNat u),e1,e2,e3,e4,e5,e6,e7,e8,e9,e40,e41,e42,e43,e47,e48,rfl,(qai h407),hC.sE [0,1,2,3,4,5,6,7,8],lN hl1⟩
 replace hb:=tf hq380 hb
 refine Wc.exit rfl ?_
 obtain rfl:=os hb
 obtain rfl:=(lX hl1).symm
 exact hK372 _ _ ⟨K,G,e1,e2,e3,e4,e5,e6,e7,e8,e9,e40,e41,e42,e43,e47,e48,e49,S,hC.sE [0,1,2,3,4,5,6,7,8],hbK1⟩
 clear hb hC hl1
 rintro E409 w408 ⟨K,G,e1,e2,e3,e4,e5,e6,e7,e8,e9,e40,e41,e42,e43,e47,e48,e49,S,hC,hb⟩
 refine hK357 _ _<|rg ?_
 obtain ⟨z127,h411,hb⟩:=bd hb
 refine lp (iv z127) (qak (a:=u) (b:=1) e42 rfl h411)<|lp (iv z127) (qaa rfl)<|ln ?_
 obtain rfl:=os hb
 exact hK349 m350' _ _ (Nat.lt_succ_self _) ⟨z127,G,e1,e2,e3,e4,e5,e6,e7,e40,e41,rfl,(qai h411),hC.sE [0,1,2,3,4,5,6,7],lN hl0⟩
 replace hb:=tf hq356 hb
 refine Wc.exit rfl ?_
 obtain rfl:=os hb
 obtain rfl:=(lX hl0).symm
 exact hK348 _ _ ⟨u,L,e1,e2,e3,e4,e5,e6,e7,R,hC.sE [0,1,2,3,4,5,6,7],hbK0⟩
 clear hb hC hl0
 rintro E413 w412 ⟨u,L,e1,e2,e3,e4,e5,e6,e7,R,hC,hb⟩
 subst hf64
 refine hK345 _ _ ?_
 refine Wc.seq fun _ hK414=>?_
 refine Wc.seq fun _ hK415=>rg<|lp (.pointer (some ((⟨g4,0,none⟩:Addr).add 2))) (qal (sz:=1) underlying60 rfl sizeOf3 (by decide) rfl e1)<|lv (iv C) (qar (hC.bx (i:=0) rfl) isAgg3 rfl rfl)<|lp (iv 0) (qaa rfl)<|ln (hK415 _ _ ?_)
 obtain ⟨o133,hl2,f133,hf133,hb⟩:=bn hb
 refine Wc.cut (fun E wv=> ∃(D:Int) (J:List Int),E 1=pg g4∧E 2=pg g7∧E 3=iv 0∧E 4=.slice A23 y21.1.length c25∧E 6=pg g322∧I64 D∧Cx (fun _=>False) O0 w wv [.box g4 60 [.slice o l.length p,.slice z x.length B,iv C],.ro (.sl si) [.slice o l.length p] l,.ro (.sl si) [.slice z x.length B] x,.box g7 48 [iv 0,.slice none 0 0,.slice none 0 0],.own 3 si (.slice A23 y21.1.length c25) y21.1,.box g322 48 [iv z35,.slice A327 (((rZ z37)).length) c328,.slice none 0 0],.own 3 si (.slice A327 (((rZ z37)).length) c328) J]∧f133 (D,J)=some r) (fun _ hK417=>?_) ?_
 refine Wc.block ?_
 refine Wc.loop (fun m E wv=> ∃(D:Int) (J:List Int),E 1=pg g4∧E 2=pg g7∧E 3=iv 0∧E 4=.slice A23 y21.1.length c25∧E 5=iv y21.2∧E 6=pg g322∧E 7=.slice A338 y53.length c340∧E 64=iv C∧E 65=iv D∧I64 D∧Cx (fun _=>False) O0 w wv [.box g4 60 [.slice o l.length p,.slice z x.length B,iv C],.ro (.sl si) [.slice o l.length p] l,.ro (.sl si) [.slice z x.length B] x,.box g7 48 [iv 0,.slice none 0 0,.slice none 0 0],.own 3 si (.slice A23 y21.1.length c25) y21.1,.box g322 48 [iv z35,.slice A327 (((rZ z37)).length) c328,.slice none 0 0],.own 3 si (.slice A327 (((rZ z37)).length) c328) J,.own 22 (.sl si) (.slice A338 y53.length c340) y53]∧loopN m (F.qdu n C y21 y53) (D,J)=some o133) n ⟨0,L,e1,e2,e3,e4,e5,e6,e7,rfl,rfl,(show I64 0 from by unfold I64; omega),hC.sE [0,1,2,3,4,5,6,7],hl2⟩ ?_
 have hbK2:=hb
 clear hb hC hl2
 rintro m419 E421 w420 ⟨D,J,e1,e2,e3,e4,e5,e6,e7,e64,e65,T,hC,hl2⟩ K418 hK418
 obtain ⟨m419',o422,rfl,hb,hl2⟩:=qam hl2
 unfold F.qdu at hb
 refine Wc.seq fun _ hK423=>rg<|lp _ (qau e65 e64)<|ln (hK423 _ _ ?_)
 refine Wc.seq fun _ hK424=>?_
 refine Wc.cond (t:=(decide (D<C))) (rfl) (fun hq425=>?_) (fun hq425=>?_)
 replace hb:=tt hq425 hb
 refine Wc.skip (hK424 _ _ ?_)
 refine Wc.seq fun _ hK426=>?_
 refine Wc.block<|Wc.seq fun _ hK427=>rg<|lp _ (qaa e65)<|lp (iv D) (qab rfl)<|ln (hK427 _ _ ?_)
 refine rg<|lp (.pointer (some ((⟨g322,0,none⟩:Addr).add 1))) (qal (sz:=1) underlying48 rfl sizeOf22 (by decide) rfl e6)<|lv (.slice A327 (((rZ z37)).length) c328) (qar (hC.bx (i:=5) rfl) isAgg22 rfl rfl)<|lp _ (qaa e5)<|lp (iv D) (qaa rfl) ?_
 obtain ⟨z145,h429,hb⟩:=bd hb
 refine lp (iv z145) (qak (a:=y21.2) (b:=D) rfl rfl h429)<|lp _ (qaa e7)<|lp (iv (y53.length:Int)) (qan (A:=A338) (n:=y53.length) (m:=c340) underlying41 rfl)<|lp (iv D) (qaa rfl) ?_
 obtain ⟨z147,h431,hb⟩:=bd hb
 refine lp (iv z147) (qak (a:=(y53.length:Int)) (b:=D) rfl rfl h431) ?_
 obtain ⟨x149,h433,hb⟩:=bd hb
 obtain ⟨ad434,cs435,hA,hc436,hr437⟩:=hC.elo (i:=6) rfl (qac h433).2
 subst hA
 refine lp (.pointer (some (ad434.add (z145.toNat*1)))) (qag (a:=z145) underlying22 sizeOf3 rfl rfl (by rw [(hC.ow (i:=6) rfl).qaf.1]; exact (qac h433).1))<|lex.sk (hC.put (i:=6) rfl rfl sizeOf3 (k:=z145.toNat) (a:=z147) (by have:=(qac h433).1; simp at this⊢; omega) (⟨rfl,I64.wr (qai h431)⟩) rfl rfl rfl) ?_
 rintro w438 ⟨hC,hF⟩
 refine ln (hK426 _ _ ?_)
 refine rg ?_
 obtain ⟨z156,h440,hb⟩:=bd hb
 refine lp (iv z156) (qak (a:=D) (b:=1) e65 rfl h440)<|lp (iv z156) (qaa rfl)<|ln ?_
 obtain rfl:=os hb
 exact hK418 m419' _ _ (Nat.lt_succ_self _) ⟨z156,(J.set z145.toNat z147),e1,e2,e3,e4,e5,e6,e7,e64,rfl,(qai h440),hC.sE [0,1,2,3,4,5,6,7],lN hl2⟩
 replace hb:=tf hq425 hb
 refine Wc.exit rfl ?_
 obtain rfl:=os hb
 obtain rfl:=(lX hl2).symm
 exact hK417 _ _ ⟨D,J,e1,e2,e3,e4,e6,T,hC.sE [0,1,2,3,4,5,6],hbK2⟩
 clear hb hC hl2
 rintro E442 w441 ⟨D,J,e1,e2,e3,e4,e6,T,hC,hb⟩
 subst hf133
 refine hK414 _ _ ?_
 refine Wc.seq fun _ hK443=>?_
 refine Wc.seq fun _ hK444=>rg<|lp (.pointer (some ((⟨g4,0,none⟩:Addr).add 0))) (qal (sz:=1) underlying60 rfl sizeOf22 (by decide) rfl e1)<|lv (.slice o l.length p) (qar (hC.bx (i:=0) rfl) isAgg22 rfl rfl)<|lp (iv (l.length:Int)) (qan (A:=o) (n:=l.length) (m:=p) underlying22 rfl)<|lp (iv 0) (qaa rfl)<|ln (hK444 _ _ ?_)
 replace hC:=hC.nil 27 (.sl si)
 obtain ⟨o163,hl3,f163,hf163,hb⟩:=bn hb
 refine Wc.cut (fun E wv=> ∃(y:Int) (c:List (List Int)) (d:Option Addr) (M f:Nat),E 2=pg g7∧E 3=iv 0∧E 6=pg g322∧I64 y∧Cx (fun _=>False) O0 w wv [.box g7 48 [iv 0,.slice none 0 0,.slice none 0 0],.box g322 48 [iv z35,.slice A327 (((rZ z37)).length) c328,.slice d M f],.own 3 si (.slice A327 (((rZ z37)).length) c328) J,.own 27 (.sl si) (.slice d M f) c]∧f163 (y,c)=some r) (fun _ hK447=>?_) ?_
 refine Wc.block ?_
 refine Wc.loop (fun m E wv=> ∃(y:Int) (c:List (List Int)) (d:Option Addr) (M f:Nat),E 2=pg g7∧E 3=iv 0∧E 4=.slice A23 y21.1.length c25∧E 6=pg g322∧E 80=.slice o l.length p∧E 81=iv (l.length:Int)∧E 82=iv y∧I64 y∧Cx (fun _=>False) O0 w wv [.box g7 48 [iv 0,.slice none 0 0,.slice none 0 0],.own 3 si (.slice A23 y21.1.length c25) y21.1,.box g322 48 [iv z35,.slice A327 (((rZ z37)).length) c328,.slice d M f],.own 3 si (.slice A327 (((rZ z37)).length) c328) J,.own 27 (.sl si) (.slice d M f) c,.ro (.sl si) [.slice o l.length p] l]∧loopN m (F.qca n l y21) (y,c)=some o163) n ⟨0,([]:List (List Int)),none,0,0,e2,e3,e4,e6,rfl,rfl,rfl,(show I64 0 from by unfold I64; omega),hC.sE [4,5,6,7,0,2],hl3⟩ ?_
 have hbK3:=hb
 clear hb hC hl3
 rintro m449 E451 w450 ⟨y,c,d,M,f,e2,e3,e4,e6,e80,e81,e82,U,hC,hl3⟩ K448 hK448
 obtain ⟨m449',o452,rfl,hb,hl3⟩:=qam hl3
 unfold F.qca at hb
 obtain ⟨rfl,X,Y⟩:=(hC.ow (i:=4) rfl).qaf
 refine Wc.seq fun _ hK453=>rg<|lp _ (qau e82 e81)<|ln (hK453 _ _ ?_)
 refine Wc.seq fun _ hK454=>?_
 refine Wc.cond (t:=(decide (y<(l.length:Int)))) (rfl) (fun hq455=>?_) (fun hq455=>?_)
 replace hb:=tt hq455 hb
 refine Wc.skip (hK454 _ _ ?_)
 refine Wc.seq fun _ hK456=>?_
 refine Wc.block<|Wc.seq fun _ hK457=>rg<|lp _ (qaa e82) ?_
 obtain ⟨x175,h459,hb⟩:=bd hb
 obtain ⟨ad460,cs461,hA,hc462,hr463⟩:=hC.elr (i:=5) rfl (qac h459).2
 subst hA
 refine lp (.pointer (some (ad460.add (y.toNat*1)))) (qag (a:=y) underlying22 sizeOf3 e80 e82 (qac h459).1) ?_
 obtain ⟨rfl,hr463'⟩:=hr463
 refine lv (iv x175) (qah isAgg3 rfl (hc462 0 _ rfl))<|lp (iv y) (qab rfl)<|lp (iv x175) (qab rfl)<|ln (hK457 _ _ ?_)
 refine Wc.seq fun _ hK464=>?_
 refine Wc.regionMix [] (frm [] ([]:List Fact) ([]:List Fact)) (fun _=>rfl) mixed (by decide+kernel) (by decide+kernel) fun w466 hw465=>?_
 replace hC:=hC.step (Fr.qbh hw465)
 have hM:=Fr.refl (fun k=>k∈blocks ([]:List Fact)) w466
 clear hw465
 have hS:=hC
 refine mp (.slice A23 y21.1.length c25) (qaa e4)<|mp (iv y) (qaa rfl) ?_
 obtain ⟨z184,h468,hb⟩:=bd hb
 refine mp (iv z184) (qdz (a:=4) (b:=y) rfl rfl h468) ?_
 obtain ⟨x186,h470,hb⟩:=bd hb
 obtain ⟨ad471,cs472,hA,ho475,hc473,hr474⟩:=hS.elo2 (i:=1) rfl (qac h470).2 [] (by decide)
 subst hA
 refine mp (.pointer (some (ad471.add (z184.toNat*1)))) (qag (a:=z184) underlying22 sizeOf3 rfl rfl (qac h470).1) ?_
 obtain ⟨rfl,hr474'⟩:=hr474
 refine mixE.load hM (v:=iv x186) (fun _ hF=>qah isAgg3 rfl (hF.cell (hc473 0 _ rfl) (off1 ho475))) ?_
 obtain ⟨z193,h477,hb⟩:=bd hb
 refine mp (iv z193) (qak (a:=x186) (b:=1) rfl rfl h477)<|mp (.slice (some ad471) y21.1.length c25) (qaa e4)<|mp (iv y) (qaa rfl) ?_
 obtain ⟨z195,h479,hb⟩:=bd hb
 refine mp (iv z195) (qdz (a:=4) (b:=y) rfl rfl h479) ?_
 obtain ⟨z197,h481,hb⟩:=bd hb
 refine mp (iv z197) (qak (a:=z195) (b:=2) rfl rfl h481) ?_
 obtain ⟨x199,h483,hb⟩:=bd hb
 obtain ⟨ad484,cs485,hA,ho488,hc486,hr487⟩:=hS.elo2 (i:=1) rfl (qac h483).2 [] (by decide)
 obtain rfl:=Option.some.inj hA
 refine mp (.pointer (some (ad471.add (z197.toNat*1)))) (qag (a:=z197) underlying22 sizeOf3 rfl rfl (qac h483).1) ?_
 obtain ⟨rfl,hr487'⟩:=hr487
 refine mixE.load hM (v:=iv x199) (fun _ hF=>qah isAgg3 rfl (hF.cell (hc486 0 _ rfl) (off1 ho488))) ?_
 obtain ⟨z206,h490,hb⟩:=bd hb
 refine mp (iv z206) (qak (a:=x199) (b:=1) rfl rfl h490)<|mp (.slice (some ad471) y21.1.length c25) (qaa e4)<|mp (iv y) (qaa rfl) ?_
 obtain ⟨z208,h492,hb⟩:=bd hb
 refine mp (iv z208) (qdz (a:=4) (b:=y) rfl rfl h492) ?_
 obtain ⟨z210,h494,hb⟩:=bd hb
 refine mp (iv z210) (qak (a:=z208) (b:=1) rfl rfl h494) ?_
 obtain ⟨x212,h496,hb⟩:=bd hb
 obtain ⟨ad497,cs498,hA,ho501,hc499,hr500⟩:=hS.elo2 (i:=1) rfl (qac h496).2 [] (by decide)
 obtain rfl:=Option.some.inj hA
 refine mp (.pointer (some (ad471.add (z210.toNat*1)))) (qag (a:=z210) underlying22 sizeOf3 rfl rfl (qac h496).1) ?_
 obtain ⟨rfl,hr500'⟩:=hr500
 refine mixE.load hM (v:=iv x212) (fun _ hF=>qah isAgg3 rfl (hF.cell (hc499 0 _ rfl) (off1 ho501))) ?_
 obtain ⟨z219,h503,hb⟩:=bd hb
 refine mp (iv z219) (qak (a:=x212) (b:=1) rfl rfl h503)<|mp (iv z193) (qab rfl)<|mp (iv z206) (qab rfl)<|mp (iv z219) (qab rfl)<|mixE.nil ?_
 clear hS hM
 refine hK464 _ _<|Wc.fresh fun E504 hE=>?_
 have e2:=cg hE 2 e2
 have e3:=cg hE 3 e3
 have e4:=cg hE 4 e4
 have e6:=cg hE 6 e6
 have e13:E504 13=iv y:=cg hE 13 rfl
 have e14:E504 14=iv x175:=cg hE 14 rfl
 have e15:E504 15=iv z193:=cg hE 15 rfl
 have e16:E504 16=iv z206:=cg hE 16 rfl
 have e17:E504 17=iv z219:=cg hE 17 rfl
 have e80:=cg hE 80 e80
 have e81:=cg hE 81 e81
 have e82:=cg hE 82 e82
 have e83:E504 83=.bool (decide (y<(l.length:Int))):=cg hE 83 rfl
 clear hE
 refine Wc.seq fun _ hK505=>rg<|lp (.slice none 0 0) (qab rfl)<|ln (hK505 _ _ ?_)
 refine Wc.seq fun _ hK506=>?_
 refine Wc.seq fun _ hK507=>rg<|lp _ (qaa e14)<|lp (.bool (decide (0<x175))) (qbi (k:=.i64) (a:=x175) (b:=0) rfl rfl)<|ln (hK507 _ _ ?_)
 refine Wc.cond (t:=(decide (0<x175))) (rfl) (fun hq508=>?_) (fun hq508=>?_)
 replace hb:=tt hq508 hb
 refine rg<|lp (.slice none 0 0) (qaa rfl)<|lp _ (qaa e16) ?_
 obtain ⟨z226,h510,hb⟩:=bd hb
 refine lp (iv z226) (qbx (a:=z206) rfl h510)<|lp _ (qaa e17) ?_
 obtain ⟨z228,h512,hb⟩:=bd hb
 refine lp (iv z228) (qbx (a:=z219) rfl h512)<|lp _ (qaa e15)<|lp _ (qaa e17)<|lex.op (hC.lit (s:=si) (vs:=[iv z226,iv z228,iv z193,iv z219]) (xs:=[z226,z228,z193,z219]) underlying27 type3 rfl rfl (nb rfl) rfl rfl (by simp [Value.cells,Sh.n]) rfl (show Elems _ _ si ([iv z226]++([iv z228]++([iv z193]++([iv z219]++([]))))) ([z226,z228,z193,z219]:List Int) from Elems.cons (⟨rfl,I64.wr (qai h510)⟩) (Elems.cons (⟨rfl,I64.wr (qai h512)⟩) (Elems.cons (⟨rfl,I64.wr (qai h477)⟩) (Elems.cons (⟨rfl,I64.wr (qai h503)⟩) (Elems.nil _ _ _)))))) ?_
 rintro _ w517 ⟨A513,c514,rfl,hl515,hc516,hC,-,-⟩
 replace hC:=hC.nil 3 si
 obtain ⟨u237,h521,hb⟩:=bd hb
 refine lex.op (hC.app (i:=0) (s:=si) (xs:=([]:List Int)) (ys:=([z226,z228,z193,z219]:List Int)) (m:=((([z226,z228,z193,z219]:List Int)).length)) rfl underlying27 underlying27 type3 rfl rfl rfl (hC.srco (i:=1) rfl) rfl rfl (by have:=qbn h521; simp at this⊢ <;>omega) (by decide)) ?_
 rintro _ w526 ⟨A522,c523,rfl,hl524,hc525,hC,-,-⟩
 refine lp (.slice A522 ((([]:List Int)++([z226,z228,z193,z219]:List Int)).length) c523) (qab rfl)<|ln (hK506 _ _ ?_)
 refine Wc.fresh fun E527 hE=>?_
 have e2:=cg hE 2 e2
 have e3:=cg hE 3 e3
 have e4:=cg hE 4 e4
 have e6:=cg hE 6 e6
 have e13:=cg hE 13 e13
 have e14:=cg hE 14 e14
 have e15:=cg hE 15 e15
 have e16:=cg hE 16 e16
 have e17:=cg hE 17 e17
 have e18:E527 18=.slice A522 ((([]:List Int)++([z226,z228,z193,z219]:List Int)).length) c523:=cg hE 18 rfl
 have e80:=cg hE 80 e80
 have e81:=cg hE 81 e81
 have e82:=cg hE 82 e82
 have e83:=cg hE 83 e83
 have e108:E527 108=.bool (decide (0<x175)):=cg hE 108 rfl
 clear hE
 refine Wc.regionMix [] (frm [] [.own 27 (.sl si) (.slice d c.length f) c] [.box g322 48 [iv z35,.slice A327 (((rZ z37)).length) c328,.slice d c.length f]]) (fun _=>rfl) mixed (by decide+kernel) (by decide+kernel) fun w529 hw528=>?_
 replace hC:=hC.step (Fr.qbh hw528)
 have hM:=Fr.refl (fun k=>k∈blocks [.own 27 (.sl si) (.slice d c.length f) c]) w529
 clear hw528
 have hS:=hC
 have P:Beside [.own 27 (.sl si) (.slice d c.length f) c] w529 (.slice d c.length f):=Beside.of (i:=0) rfl
 have hD:Fr (fun k=>k∈blocks ([.own 27 (.sl si) (.slice d c.length f) c]++[.box g322 48 [iv z35,.slice A327 (((rZ z37)).length) c328,.slice d c.length f]])) w529 w529:=hM.wide
 have Z:Beside ([.own 27 (.sl si) (.slice d c.length f) c]++[.box g322 48 [iv z35,.slice A327 (((rZ z37)).length) c328,.slice d c.length f]]) w529 (.slice d c.length f):=Beside.of (i:=0) rfl
 have hUf324:g322<w529.heap.size→g322∈blocks ([.own 27 (.sl si) (.slice d c.length f) c]++[.box g322 48 [iv z35,.slice A327 (((rZ z37)).length) c328,.slice d c.length f]]):=fun _=>box_in (i:=1) rfl
 refine mp (.pointer (some ((⟨g322,0,none⟩:Addr).add 2))) (qal (sz:=1) underlying48 rfl sizeOf37 (by decide) rfl e6)<|mixE.load hM (v:=.slice d c.length f) (fun _ hF=>qar (hS.bx2 (i:=4) rfl [6] (by decide) hF) isAgg37 rfl rfl)<|mp (.slice A522 ((([]:List Int)++([z226,z228,z193,z219]:List Int)).length) c523) (qaa e18) ?_
 obtain ⟨y247,h531,hb⟩:=bd hb
 refine mixE.cl hM (⟨_,_,qas (vs:=[.slice A522 ((([]:List Int)++([z226,z228,z193,z219]:List Int)).length) c523]) call34 rfl rfl rfl,qge n (hC.lentLt [.slice A522 ((([]:List Int)++([z226,z228,z193,z219]:List Int)).length) c523]) ((hC.ow (i:=0) rfl).lend (vs:=[.slice A522 ((([]:List Int)++([z226,z228,z193,z219]:List Int)).length) c523]) (by simp)) h531⟩) ?_
 rintro _ w536 ⟨A532,m533,c534,rfl,hK⟩
 have hBf535:=Beside.cl (i:=0) hM hK rfl
 have hUf535:=hBf535.wide (H:=[.box g322 48 [iv z35,.slice A327 (((rZ z37)).length) c328,.slice d c.length f]])
 replace hM:=hM.none hK.fr
 replace hD:=hM.wide (H:=[.box g322 48 [iv z35,.slice A327 (((rZ z37)).length) c328,.slice d c.length f]])
 refine ⟨hM,?_⟩
 replace hC:=hC.mergeF hK rfl
 clear hK
 obtain ⟨rfl,hl537,hc538⟩:=(hC.ow (i:=0) rfl).qaf
 replace hC:=hC.freeze (i:=0) rfl (hC.qdh (i:=0) rfl)
 refine mixE.op hM (hC.lit (s:=(.sl si)) (vs:=[.slice A532 y247.length c534]) (xs:=[y247]) underlying37 type27 rfl rfl (nb rfl) rfl rfl (by simp [Value.cells,Sh.n]) rfl (show Elems _ _ (.sl si) ([.slice A532 y247.length c534]++([])) ([y247]:List (List Int)) from Elems.cons (hC.rd (i:=0) rfl) (Elems.nil _ _ _))) ?_
 rintro _ w543 ⟨A539,c540,rfl,hl541,hc542,hC,hF,hN⟩
 have hBf544:=Beside.new hM hN
 have hUf544:=Beside.new (hM.wide (H:=[.box g322 48 [iv z35,.slice A327 (((rZ z37)).length) c328,.slice d c.length f]])) hN
 replace hM:=hM.none hF
 replace hD:=hM.wide (H:=[.box g322 48 [iv z35,.slice A327 (((rZ z37)).length) c328,.slice d c.length f]])
 refine ⟨hM,?_⟩
 clear hF hN
 obtain ⟨u262,h546,hb⟩:=bd hb
 refine mixE.op hM (hC.app (i:=8) (s:=(.sl si)) (xs:=c) (ys:=([y247]:List (List Int))) (m:=((([y247]:List (List Int))).length)) rfl underlying37 underlying37 type27 rfl rfl rfl (hC.srco (i:=0) rfl) rfl rfl (by have:=qbn h546; simp at this⊢ <;>omega) (by decide)) ?_
 rintro _ w551 ⟨A547,c548,rfl,hl549,hc550,hC,hF,hN⟩
 have hB:=P
 replace P:=hB.app hM hN
 replace hM:=hM.beside hB hF
 clear hB
 replace hD:=hM.wide (H:=[.box g322 48 [iv z35,.slice A327 (((rZ z37)).length) c328,.slice d c.length f]])
 refine ⟨hM,?_⟩
 clear hF hN
 refine mp (.pointer (some ((⟨g322,0,none⟩:Addr).add 2))) (qal (sz:=1) underlying48 rfl sizeOf37 (by decide) rfl e6)<|mixE.sk hD (hC.setf (i:=6) (k:=2) (v:=.slice A547 ((c++([y247]:List (List Int))).length) c548) rfl sizeOf37 rfl rfl rfl rfl) ?_
 rintro w552 ⟨hC,hF⟩
 replace hD:=hD.besideG hUf324 hF
 clear hF
 refine ⟨hD,?_⟩
 refine mixE.nil ?_
 clear hS hM
 clear hD
 refine hK456 _ _<|rg ?_
 obtain ⟨z270,h554,hb⟩:=bd hb
 refine lp (iv z270) (qak (a:=y) (b:=1) e82 rfl h554)<|lp (iv z270) (qaa rfl)<|ln ?_
 obtain rfl:=os hb
 exact hK448 m449' _ _ (Nat.lt_succ_self _) ⟨z270,(c++([y247]:List (List Int))),A547,(c++([y247]:List (List Int))).length,c548,e2,e3,e4,e6,e80,e81,rfl,(qai h554),hC.sE [4,5,6,7,8,9],lN hl3⟩
 replace hb:=tf hq508 hb
 refine rg<|lp (.slice none 0 0) (qaa rfl)<|lp _ (qaa e16) ?_
 obtain ⟨z272,h556,hb⟩:=bd hb
 refine lp (iv z272) (qbx (a:=z206) rfl h556)<|lp _ (qaa e17)<|lp _ (qaa e15)<|lp _ (qaa e17) ?_
 obtain ⟨z274,h558,hb⟩:=bd hb
 refine lp (iv z274) (qbx (a:=z219) rfl h558)<|lex.op (hC.lit (s:=si) (vs:=[iv z272,iv z219,iv z193,iv z274]) (xs:=[z272,z219,z193,z274]) underlying27 type3 rfl rfl (nb rfl) rfl rfl (by simp [Value.cells,Sh.n]) rfl (show Elems _ _ si ([iv z272]++([iv z219]++([iv z193]++([iv z274]++([]))))) ([z272,z219,z193,z274]:List Int) from Elems.cons (⟨rfl,I64.wr (qai h556)⟩) (Elems.cons (⟨rfl,I64.wr (qai h503)⟩) (Elems.cons (⟨rfl,I64.wr (qai h477)⟩) (Elems.cons (⟨rfl,I64.wr (qai h558)⟩) (Elems.nil _ _ _)))))) ?_
 rintro _ w563 ⟨A559,c560,rfl,hl561,hc562,hC,-,-⟩
 replace hC:=hC.nil 3 si
 obtain ⟨u283,h567,hb⟩:=bd hb
 refine lex.op (hC.app (i:=0) (s:=si) (xs:=([]:List Int)) (ys:=([z272,z219,z193,z274]:List Int)) (m:=((([z272,z219,z193,z274]:List Int)).length)) rfl underlying27 underlying27 type3 rfl rfl rfl (hC.srco (i:=1) rfl) rfl rfl (by have:=qbn h567; simp at this⊢ <;>omega) (by decide)) ?_
 rintro _ w572 ⟨A568,c569,rfl,hl570,hc571,hC,-,-⟩
 refine lp (.slice A568 ((([]:List Int)++([z272,z219,z193,z274]:List Int)).length) c569) (qab rfl)<|ln (hK506 _ _ ?_)
 refine Wc.fresh fun E573 hE=>?_
 have e2:=cg hE 2 e2
 have e3:=cg hE 3 e3
 have e4:=cg hE 4 e4
 have e6:=cg hE 6 e6
 have e13:=cg hE 13 e13
 have e14:=cg hE 14 e14
 have e15:=cg hE 15 e15
 have e16:=cg hE 16 e16
 have e17:=cg hE 17 e17
 have e18:E573 18=.slice A568 ((([]:List Int)++([z272,z219,z193,z274]:List Int)).length) c569:=cg hE 18 rfl
 have e80:=cg hE 80 e80
 have e81:=cg hE 81 e81
 have e82:=cg hE 82 e82
 have e83:=cg hE 83 e83
 have e108:E573 108=.bool (decide (0<x175)):=cg hE 108 rfl
 clear hE
 refine Wc.regionMix [] (frm [] [.own 27 (.sl si) (.slice d c.length f) c] [.box g322 48 [iv z35,.slice A327 (((rZ z37)).length) c328,.slice d c.length f]]) (fun _=>rfl) mixed (by decide+kernel) (by decide+kernel) fun w575 hw574=>?_
 replace hC:=hC.step (Fr.qbh hw574)
 have hM:=Fr.refl (fun k=>k∈blocks [.own 27 (.sl si) (.slice d c.length f) c]) w575
 clear hw574
 have hS:=hC
 have P:Beside [.own 27 (.sl si) (.slice d c.length f) c] w575 (.slice d c.length f):=Beside.of (i:=0) rfl
 have hD:Fr (fun k=>k∈blocks ([.own 27 (.sl si) (.slice d c.length f) c]++[.box g322 48 [iv z35,.slice A327 (((rZ z37)).length) c328,.slice d c.length f]])) w575 w575:=hM.wide
 have Z:Beside ([.own 27 (.sl si) (.slice d c.length f) c]++[.box g322 48 [iv z35,.slice A327 (((rZ z37)).length) c328,.slice d c.length f]]) w575 (.slice d c.length f):=Beside.of (i:=0) rfl
 have hUf324:g322<w575.heap.size→g322∈blocks ([.own 27 (.sl si) (.slice d c.length f) c]++[.box g322 48 [iv z35,.slice A327 (((rZ z37)).length) c328,.slice d c.length f]]):=fun _=>box_in (i:=1) rfl
 refine mp (.pointer (some ((⟨g322,0,none⟩:Addr).add 2))) (qal (sz:=1) underlying48 rfl sizeOf37 (by decide) rfl e6)<|mixE.load hM (v:=.slice d c.length f) (fun _ hF=>qar (hS.bx2 (i:=4) rfl [6] (by decide) hF) isAgg37 rfl rfl)<|mp (.slice A568 ((([]:List Int)++([z272,z219,z193,z274]:List Int)).length) c569) (qaa e18) ?_
 obtain ⟨y293,h577,hb⟩:=bd hb
 refine mixE.cl hM (⟨_,_,qas (vs:=[.slice A568 ((([]:List Int)++([z272,z219,z193,z274]:List Int)).length) c569]) call34 rfl rfl rfl,qge n (hC.lentLt [.slice A568 ((([]:List Int)++([z272,z219,z193,z274]:List Int)).length) c569]) ((hC.ow (i:=0) rfl).lend (vs:=[.slice A568 ((([]:List Int)++([z272,z219,z193,z274]:List Int)).length) c569]) (by simp)) h577⟩) ?_
 rintro _ w582 ⟨A578,m579,c580,rfl,hK⟩
 have hBf581:=Beside.cl (i:=0) hM hK rfl
 have hUf581:=hBf581.wide (H:=[.box g322 48 [iv z35,.slice A327 (((rZ z37)).length) c328,.slice d c.length f]])
 replace hM:=hM.none hK.fr
 replace hD:=hM.wide (H:=[.box g322 48 [iv z35,.slice A327 (((rZ z37)).length) c328,.slice d c.length f]])
 refine ⟨hM,?_⟩
 replace hC:=hC.mergeF hK rfl
 clear hK
 obtain ⟨rfl,hl583,hc584⟩:=(hC.ow (i:=0) rfl).qaf
 replace hC:=hC.freeze (i:=0) rfl (hC.qdh (i:=0) rfl)
 refine mixE.op hM (hC.lit (s:=(.sl si)) (vs:=[.slice A578 y293.length c580]) (xs:=[y293]) underlying37 type27 rfl rfl (nb rfl) rfl rfl (by simp [Value.cells,Sh.n]) rfl (show Elems _ _ (.sl si) ([.slice A578 y293.length c580]++([])) ([y293]:List (List Int)) from Elems.cons (hC.rd (i:=0) rfl) (Elems.nil _ _ _))) ?_
 rintro _ w589 ⟨A585,c586,rfl,hl587,hc588,hC,hF,hN⟩
 have hBf590:=Beside.new hM hN
 have hUf590:=Beside.new (hM.wide (H:=[.box g322 48 [iv z35,.slice A327 (((rZ z37)).length) c328,.slice d c.length f]])) hN
 replace hM:=hM.none hF
 replace hD:=hM.wide (H:=[.box g322 48 [iv z35,.slice A327 (((rZ z37)).length) c328,.slice d c.length f]])
 refine ⟨hM,?_⟩
 clear hF hN
 obtain ⟨u308,h592,hb⟩:=bd hb
 refine mixE.op hM (hC.app (i:=8) (s:=(.sl si)) (xs:=c) (ys:=([y293]:List (List Int))) (m:=((([y293]:List (List Int))).length)) rfl underlying37 underlying37 type27 rfl rfl rfl (hC.srco (i:=0) rfl) rfl rfl (by have:=qbn h592; simp at this⊢ <;>omega) (by decide)) ?_
 rintro _ w597 ⟨A593,c594,rfl,hl595,hc596,hC,hF,hN⟩
 have hB:=P
 replace P:=hB.app hM hN
 replace hM:=hM.beside hB hF
 clear hB
 replace hD:=hM.wide (H:=[.box g322 48 [iv z35,.slice A327 (((rZ z37)).length) c328,.slice d c.length f]])
 refine ⟨hM,?_⟩
 clear hF hN
 refine mp (.pointer (some ((⟨g322,0,none⟩:Addr).add 2))) (qal (sz:=1) underlying48 rfl sizeOf37 (by decide) rfl e6)<|mixE.sk hD (hC.setf (i:=6) (k:=2) (v:=.slice A593 ((c++([y293]:List (List Int))).length) c594) rfl sizeOf37 rfl rfl rfl rfl) ?_
 rintro w598 ⟨hC,hF⟩
 replace hD:=hD.besideG hUf324 hF
 clear hF
 refine ⟨hD,?_⟩
 refine mixE.nil ?_
 clear hS hM
 clear hD
 refine hK456 _ _<|rg ?_
 obtain ⟨z316,h600,hb⟩:=bd hb
 refine lp (iv z316) (qak (a:=y) (b:=1) e82 rfl h600)<|lp (iv z316) (qaa rfl)<|ln ?_
 obtain rfl:=os hb
 exact hK448 m449' _ _ (Nat.lt_succ_self _) ⟨z316,(c++([y293]:List (List Int))),A593,(c++([y293]:List (List Int))).length,c594,e2,e3,e4,e6,e80,e81,rfl,(qai h600),hC.sE [4,5,6,7,8,9],lN hl3⟩
 replace hb:=tf hq455 hb
 refine Wc.exit rfl ?_
 obtain rfl:=os hb
 obtain rfl:=(lX hl3).symm
 exact hK447 _ _ ⟨y,c,d,c.length,f,e2,e3,e6,U,hC.sE [0,2,3,4],hbK3⟩
 clear hb hC hl3
 rintro E602 w601 ⟨y,c,d,M,f,e2,e3,e6,U,hC,hb⟩
 subst hf163
 obtain ⟨rfl,X,Y⟩:=(hC.ow (i:=3) rfl).qaf
 refine hK443 _ _<|Wc.seq fun _ hK603=>rg<|lv (.agg #[iv z35,.slice A327 (((rZ z37)).length) c328,.slice d c.length f]) (qbm (hC.bx (i:=1) rfl) isAgg48 sizeOf48 e6)<|lex.sk (hC.seta (i:=0) (ds:=[iv z35,.slice A327 (((rZ z37)).length) c328,.slice d c.length f]) rfl type48 rfl rfl rfl e2 rfl) ?_
 rintro w604 ⟨hC,hF⟩
 refine lp (iv 0) (qab rfl)<|ln (hK603 _ _ ?_)
 obtain rfl:=os hb
 refine Wc.ret (hKR _ _ ?_)
 refine ⟨_,res2 results30 ⟨_,e2,qem (hC.bx (i:=0) rfl) isAgg48 sizeOf48⟩ (tV (iv 0) rfl),_,rfl,A327,((rZ z37)).length,c328,d,c.length,f,rfl,(qai h36),(show I64 0 from by unfold I64; omega),hC.sE [2,3]⟩
