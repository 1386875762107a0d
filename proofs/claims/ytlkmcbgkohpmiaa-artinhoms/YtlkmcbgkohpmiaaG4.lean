import Derived.Test.YtlkmcbgkohpmiaaS
import Derived.Test.YtlkmcbgkohpmiaaG2
import Derived.Test.YtlkmcbgkohpmiaaG3
set_option linter.all false
namespace Go.Proofs.Ytlkmcbgkohpmiaa
open Ev Try
set_option maxRecDepth 100000
set_option maxHeartbeats 4000000
theorem artin_Group_ok (n:Nat) {w:World} {O0:List Nat} (hO: ∀k∈O0,k<w.heap.size) {d:Int} (L:I64 d) {B:Option Addr} {T C:Nat} {G:List Int} (U:Rep O0 w (.sl si) [.slice B T C] G) {r:Int×(List Int)×(List (List Int))×Int} (hb:F.qfd n d G=some r):
    Calls prog 21 #[.agg #[iv d,.slice B T C]] w fun e w'=> ∃v,e=.returned v∧∃(A1:Option Addr) (m1 c1:Nat) (A2:Option Addr) (m2 c2:Nat),v=.tuple #[.agg #[iv r.1,.slice A1 m1 c1,.slice A2 m2 c2],iv r.2.2.2]∧I64 r.1∧I64 r.2.2.2∧Cx (fun _=>False) O0 w w' [.own 3 si (.slice A1 m1 c1) r.2.1,.own 27 (.sl si) (.slice A2 m2 c2) r.2.2.1]:=by
 unfold F.qfd at hb
 have hC:=Cx.start hO
 replace hC:=hC.arg rfl U
 clear hO
 obtain ⟨rfl,Y,Z⟩:=U.qaf
 refine qao func21 rfl (by rw [ntmps21]; exact nb rfl) fun KR hKR=>?_
 refine Wc.seq fun _ hK2=>rg<|lex.op (hC.box (cs:=[iv d,.slice B G.length C]) rfl rfl) ?_
 rintro _ w4 ⟨g3,rfl,hC,hF,-⟩
 refine lex.op (hC.alloc (cs:=[iv 0,.slice none 0 0,.slice none 0 0]) zeroValue48 rfl) ?_
 rintro _ w7 ⟨g6,rfl,hC,hF,-⟩
 refine lp (iv 0) (qab rfl)<|ln (hK2 _ _ ?_)
 refine Wc.seq fun _ hK9=>rg<|lv (.agg #[iv d,.slice B G.length C]) (qbm (hC.bx (i:=1) rfl) isAgg24 sizeOf24 rfl) ?_
 obtain ⟨y10,h11,hb⟩:=bd hb
 refine lex.cl (⟨_,_,qas (vs:=[.agg #[iv d,.slice B G.length C]]) call17 rfl rfl rfl,artin_Images_ok n hC.lt L (hC.rd (i:=2) rfl) h11⟩) ?_
 rintro _ w17 ⟨A12,m13,c14,rfl,hr16,hK⟩
 replace hC:=hC.merge hK
 clear hK
 obtain ⟨rfl,hl18,hc19⟩:=(hC.ow (i:=0) rfl).qaf
 refine lp (.tuple #[.slice A12 y10.1.length c14,iv y10.2]) (qaa rfl)<|lp (.slice A12 y10.1.length c14) (qaz rfl rfl)<|lp (iv y10.2) (qaz rfl rfl)<|lp (.slice A12 y10.1.length c14) (qab rfl)<|lp (iv y10.2) (qab rfl)<|ln (hK9 _ _ ?_)
 refine Wc.fresh fun E20 hE=>?_
 have e1:E20 1=pg g3:=cg hE 1 rfl
 have e2:E20 2=pg g6:=cg hE 2 rfl
 have e3:E20 3=iv 0:=cg hE 3 rfl
 have e4:E20 4=.slice A12 y10.1.length c14:=cg hE 4 rfl
 have e5:E20 5=iv y10.2:=cg hE 5 rfl
 clear hE
 refine Wc.seq fun _ hK21=>?_
 refine Wc.seq fun _ hK22=>rg<|lp _ (qaa e5)<|lp (.bool (!(decide (y10.2=0)))) (qbv (k:=.i64) (a:=y10.2) (b:=0) rfl rfl)<|ln (hK22 _ _ ?_)
 refine Wc.cond (t:=(!(decide (y10.2=0)))) (rfl) (fun hq23=>?_) (fun hq23=>?_)
 replace hb:=tt hq23 hb
 refine Wc.seq fun _ hK24=>rg<|lp (.agg #[iv 0,.slice none 0 0,.slice none 0 0]) (qdj (places:=[(0,1),(1,1),(2,1)]) (pv:=[]) type48 underlying48 rfl (qba type3 (qba type22 (qba type37 mp_nil rfl rfl) rfl rfl) rfl rfl) rfl (by simp [Instr.fill,Value.cells]))<|lp _ (qaa e5)<|lex.sk (hC.seta (i:=1) (ds:=[iv 0,.slice none 0 0,.slice none 0 0]) rfl type48 rfl rfl rfl e2 rfl) ?_
 rintro w25 ⟨hC,hF⟩
 refine lp (iv y10.2) (qab rfl)<|ln (hK24 _ _ ?_)
 replace hC:=hC.nil 3 si
 replace hC:=hC.nil 27 (.sl si)
 obtain rfl:=os hb
 refine Wc.ret (hKR _ _ ?_)
 refine ⟨_,res2 results21 ⟨_,e2,qem (hC.bx (i:=3) rfl) isAgg48 sizeOf48⟩ (tV (iv y10.2) rfl),_,rfl,none,0,0,none,0,0,rfl,(show I64 0 from by unfold I64; omega),hr16,hC.sE [1,0]⟩
 replace hb:=tf hq23 hb
 refine Wc.skip (hK21 _ _ ?_)
 refine Wc.seq fun _ hK28=>?_
 refine Wc.regionPlan [23,25] (frm [23,25] ([]:List Fact) ([]:List Fact)) (chainP [0,1,2,3] (.alt (chainP [4] (chainP [5,6,7] .done)) (chainP [6] (chainP [4,5,7] .done)))) (fun _=>rfl) mixed (by decide+kernel) (by decide+kernel) fun w30 hw29=>?_
 replace hC:=hC.step (Fr.qbh hw29)
 have hM:=Fr.refl (fun k=>k∈blocks ([]:List Fact)) w30
 clear hw29
 have hS:=hC
 have hD:Fr (fun k=>k∈blocks (([]:List Fact)++([]:List Fact))) w30 w30:=hM.wide
 refine qad ?_
 refine mp (.pointer (some ((⟨g3,0,none⟩:Addr).add 0))) (qal (sz:=1) underlying24 rfl sizeOf3 (by decide) rfl e1)<|mixE.steady hD (v:=iv d) (fun _ hF=>qar (hS.bx2 (i:=2) rfl [] (by decide) hF) isAgg3 rfl rfl)<|mp (.pointer (some ((⟨g3,0,none⟩:Addr).add 0))) (qal (sz:=1) underlying24 rfl sizeOf3 (by decide) rfl e1)<|mixE.steady hD (v:=iv d) (fun _ hF=>qar (hS.bx2 (i:=2) rfl [] (by decide) hF) isAgg3 rfl rfl)<|mixE.nil ?_
 refine qaq ?_ ?_
 refine qad ?_
 obtain ⟨u31,h32,hb⟩:=bd hb
 refine mixE.op hM (hC.make (s:=si) (n:=d) underlying22 type3 rfl rfl rfl rfl rfl (qae h32).1 (qae h32).2 (by decide)) ?_
 rintro _ w37 ⟨A33,c34,rfl,hl35,hc36,hC,hF,hN⟩
 have hBf38:=Beside.new hM hN
 have hUf38:=Beside.new (hM.wide (H:=([]:List Fact))) hN
 replace hM:=hM.none hF
 replace hD:=hM.wide (H:=([]:List Fact))
 refine ⟨hM,?_⟩
 clear hF hN
 refine mixE.nil ?_
 refine qad ?_
 refine mp (.agg #[iv d,.slice A33 (((rZ d)).length) c34,.slice none 0 0]) (qdj (places:=[(0,1),(1,1),(2,1)]) (pv:=[(0,iv d),(1,.slice A33 (((rZ d)).length) c34)]) type48 underlying48 rfl (qba type3 (qba type22 (qba type37 mp_nil rfl rfl) rfl rfl) rfl rfl) rfl (by simp [Instr.fill,Value.cells]))<|mixE.op hM (hC.alloc (cs:=[iv 0,.slice none 0 0,.slice none 0 0]) zeroValue48 rfl) ?_
 rintro _ w40 ⟨g39,rfl,hC,hF,hG⟩
 have hUf41:g39<w30.heap.size→g39∈blocks (([]:List Fact)++([]:List Fact)):=fun h=>absurd (Nat.lt_of_lt_of_le h (Nat.le_trans hM.size hG)) (Nat.lt_irrefl _)
 clear hG
 replace hM:=hM.none hF
 replace hD:=hM.wide (H:=([]:List Fact))
 refine ⟨hM,?_⟩
 refine mixE.sk hD (hC.seta (i:=0) (ds:=[iv d,.slice A33 (((rZ d)).length) c34,.slice none 0 0]) rfl type48 rfl rfl rfl rfl rfl) ?_
 rintro w42 ⟨hC,hF⟩
 replace hD:=hD.besideG hUf41 hF
 clear hF
 refine ⟨hD,?_⟩
 refine mixE.nil ?_
 clear hS hM
 clear hD
 refine hK28 _ _ ?_
 refine Wc.seq fun _ hK43=>?_
 refine Wc.seq fun _ hK44=>rg<|lv (.agg #[iv d,.slice B G.length C]) (qbm (hC.bx (i:=4) rfl) isAgg24 sizeOf24 e1) ?_
 obtain ⟨y45,h46,hb⟩:=bd hb
 refine lex.cl (⟨_,_,qas (vs:=[.agg #[iv d,.slice B G.length C]]) call23 rfl rfl rfl,braid_Perm_ok n hC.lt L (hC.rd (i:=5) rfl) h46⟩) ?_
 rintro _ w51 ⟨A47,m48,c49,rfl,hK⟩
 replace hC:=hC.merge hK
 clear hK
 obtain ⟨rfl,hl52,hc53⟩:=(hC.ow (i:=0) rfl).qaf
 replace hC:=hC.freeze (i:=0) rfl (hC.qdh (i:=0) rfl)
 obtain ⟨y54,h55,hb⟩:=bd hb
 refine lex.cl (⟨_,_,qas (vs:=[.slice A47 y45.length c49]) call39 rfl rfl rfl,perm_Cycles_ok n hC.lt (hC.rd (i:=0) rfl) h55⟩) ?_
 rintro _ w60 ⟨A56,m57,c58,rfl,hK⟩
 replace hC:=hC.merge hK
 clear hK
 obtain ⟨rfl,hl61,hc62⟩:=(hC.ow (i:=0) rfl).qaf
 refine lp (iv (y54.length:Int)) (qan (A:=A56) (n:=y54.length) (m:=c58) underlying41 rfl)<|lp (iv 0) (qaa rfl)<|ln (hK44 _ _ ?_)
 refine Wc.fresh fun E63 hE=>?_
 have e2:=cg hE 2 e2
 have e3:=cg hE 3 e3
 have e4:=cg hE 4 e4
 have e6:E63 6=pg g39:=cg hE 6 rfl
 have e30:E63 30=.slice A56 y54.length c58:=cg hE 30 rfl
 have e31:E63 31=iv (y54.length:Int):=cg hE 31 rfl
 have e32:E63 32=iv 0:=cg hE 32 rfl
 clear hE
 obtain ⟨o64,hl0,f64,hf64,hb⟩:=bn hb
 refine Wc.cut (fun E wv=> ∃(o:Int) (q:List Int),E 2=pg g6∧E 3=iv 0∧E 4=.slice A12 y10.1.length c14∧E 6=pg g39∧I64 o∧Cx (fun _=>False) O0 w wv [.box g6 48 [iv 0,.slice none 0 0,.slice none 0 0],.own 27 (.sl si) (.slice A12 y10.1.length c14) y10.1,.box g39 48 [iv d,.slice A33 (((rZ d)).length) c34,.slice none 0 0],.own 3 si (.slice A33 (((rZ d)).length) c34) q]∧f64 (o,q)=some r) (fun _ hK65=>?_) ?_
 refine Wc.block ?_
 refine Wc.loop (fun m E wv=> ∃(o:Int) (q:List Int),E 2=pg g6∧E 3=iv 0∧E 4=.slice A12 y10.1.length c14∧E 6=pg g39∧E 30=.slice A56 y54.length c58∧E 31=iv (y54.length:Int)∧E 32=iv o∧I64 o∧Cx (fun _=>False) O0 w wv [.box g6 48 [iv 0,.slice none 0 0,.slice none 0 0],.own 27 (.sl si) (.slice A12 y10.1.length c14) y10.1,.box g39 48 [iv d,.slice A33 (((rZ d)).length) c34,.slice none 0 0],.own 3 si (.slice A33 (((rZ d)).length) c34) q,.own 22 (.sl si) (.slice A56 y54.length c58) y54]∧loopN m (F.qdl n y54) (o,q)=some o64) n ⟨0,(rZ d),e2,e3,e4,e6,e30,e31,e32,(show I64 0 from by unfold I64; omega),hC.sE [5,4,2,3,0],hl0⟩ ?_
 have hbK0:=hb
 clear hb hC hl0
 rintro m67 E69 w68 ⟨o,q,e2,e3,e4,e6,e30,e31,e32,D,hC,hl0⟩ K66 hK66
 obtain ⟨m67',o70,rfl,hb,hl0⟩:=qam hl0
 unfold F.qdl at hb
 refine Wc.seq fun _ hK71=>rg<|lp _ (qau e32 e31)<|ln (hK71 _ _ ?_)
 refine Wc.seq fun _ hK72=>?_
 refine Wc.cond (t:=(decide (o<(y54.length:Int)))) (rfl) (fun hq73=>?_) (fun hq73=>?_)
 replace hb:=tt hq73 hb
 refine Wc.skip (hK72 _ _ ?_)
 refine Wc.seq fun _ hK74=>?_
 refine Wc.block<|Wc.seq fun _ hK75=>rg<|lp _ (qaa e32) ?_
 obtain ⟨x76,h77,hb⟩:=bd hb
 obtain ⟨ad78,cs79,hA,hc80,hr81⟩:=hC.elo (i:=4) rfl (qac h77).2
 subst hA
 refine lp (.pointer (some (ad78.add (o.toNat*1)))) (qag (a:=o) underlying41 sizeOf22 e30 e32 (qac h77).1) ?_
 have hR:=hr81
 obtain ⟨A82,c83,rfl,hl84,hc85,_⟩:=hr81
 replace hC:=hC.ro hR
 clear hR
 refine lv (.slice A82 x76.length c83) (qah isAgg22 rfl (hc80 0 _ rfl))<|lp (iv o) (qab rfl)<|lp (.slice A82 x76.length c83) (qab rfl)<|ln (hK75 _ _ ?_)
 refine Wc.seq fun _ hK87=>rg<|lp (.slice A82 x76.length c83) (qaa rfl)<|lp (iv (x76.length:Int)) (qan (A:=A82) (n:=x76.length) (m:=c83) underlying22 rfl)<|lp (iv 0) (qaa rfl)<|ln (hK87 _ _ ?_)
 obtain ⟨o88,hl1,hb⟩:=bd hb
 refine Wc.cut (fun E wv=> ∃(u:Int) (x:List Int),E 2=pg g6∧E 3=iv 0∧E 4=.slice A12 y10.1.length c14∧E 6=pg g39∧E 7=iv o∧E 8=.slice A82 x76.length c83∧E 30=.slice (some ad78) y54.length c58∧E 31=iv (y54.length:Int)∧E 32=iv o∧E 33=.bool (decide (o<(y54.length:Int)))∧E 37=.slice A82 x76.length c83∧E 38=iv (x76.length:Int)∧E 39=iv u∧I64 u∧Cx (fun _=>False) O0 w wv [.box g6 48 [iv 0,.slice none 0 0,.slice none 0 0],.own 27 (.sl si) (.slice A12 y10.1.length c14) y10.1,.box g39 48 [iv d,.slice A33 (((rZ d)).length) c34,.slice none 0 0],.own 3 si (.slice A33 (((rZ d)).length) c34) x,.ro (.sl si) [.slice A82 x76.length c83] x76,.own 22 (.sl si) (.slice (some ad78) y54.length c58) y54]∧((chk (o+1)).bind fun z117=>some (.inl (z117,x)):Option ((Int×(List Int))⊕((Int×(List Int)))))=some o70) (fun _ hK89=>?_) ?_
 refine Wc.block ?_
 refine Wc.loop (fun m E wv=> ∃(u:Int) (x:List Int),E 2=pg g6∧E 3=iv 0∧E 4=.slice A12 y10.1.length c14∧E 6=pg g39∧E 7=iv o∧E 8=.slice A82 x76.length c83∧E 30=.slice (some ad78) y54.length c58∧E 31=iv (y54.length:Int)∧E 32=iv o∧E 33=.bool (decide (o<(y54.length:Int)))∧E 37=.slice A82 x76.length c83∧E 38=iv (x76.length:Int)∧E 39=iv u∧I64 u∧Cx (fun _=>False) O0 w wv [.box g6 48 [iv 0,.slice none 0 0,.slice none 0 0],.own 27 (.sl si) (.slice A12 y10.1.length c14) y10.1,.box g39 48 [iv d,.slice A33 (((rZ d)).length) c34,.slice none 0 0],.own 3 si (.slice A33 (((rZ d)).length) c34) x,.ro (.sl si) [.slice A82 x76.length c83] x76,.own 22 (.sl si) (.slice (some ad78) y54.length c58) y54]∧loopN m (F.qgf n o x76) (u,x)=some o88) n ⟨0,q,e2,e3,e4,e6,rfl,rfl,e30,e31,e32,rfl,rfl,rfl,rfl,(show I64 0 from by unfold I64; omega),hC.sE [1,2,3,4,0,5],hl1⟩ ?_
 have hbK1:=hb
 clear hb hC hl1
 rintro m91 E93 w92 ⟨u,x,e2,e3,e4,e6,e7,e8,e30,e31,e32,e33,e37,e38,e39,J,hC,hl1⟩ K90 hK90
 obtain ⟨m91',o94,rfl,hb,hl1⟩:=qam hl1
 unfold F.qgf at hb
 refine Wc.seq fun _ hK95=>rg<|lp _ (qau e39 e38)<|ln (hK95 _ _ ?_)
 refine Wc.seq fun _ hK96=>?_
 refine Wc.cond (t:=(decide (u<(x76.length:Int)))) (rfl) (fun hq97=>?_) (fun hq97=>?_)
 replace hb:=tt hq97 hb
 refine Wc.skip (hK96 _ _ ?_)
 refine Wc.seq fun _ hK98=>?_
 refine Wc.block<|Wc.seq fun _ hK99=>rg ?_
 obtain ⟨x100,h101,hb⟩:=bd hb
 obtain ⟨ad102,cs103,hA,hc104,hr105⟩:=hC.elr (i:=4) rfl (qac h101).2
 subst hA
 refine lp (.pointer (some (ad102.add (u.toNat*1)))) (qag (a:=u) underlying22 sizeOf3 e37 e39 (qac h101).1) ?_
 obtain ⟨rfl,hr105'⟩:=hr105
 refine lv (iv x100) (qah isAgg3 rfl (hc104 0 _ rfl))<|lp (iv x100) (qab rfl)<|ln (hK99 _ _ ?_)
 refine rg<|lp (.pointer (some ((⟨g39,0,none⟩:Addr).add 1))) (qal (sz:=1) underlying48 rfl sizeOf22 (by decide) rfl e6)<|lv (.slice A33 (((rZ d)).length) c34) (qar (hC.bx (i:=2) rfl) isAgg22 rfl rfl)<|lp (iv x100) (qaa rfl)<|lp _ (qaa e7) ?_
 obtain ⟨x106,h107,hb⟩:=bd hb
 obtain ⟨ad108,cs109,hA,hc110,hr111⟩:=hC.elo (i:=3) rfl (qac h107).2
 subst hA
 refine lp (.pointer (some (ad108.add (x100.toNat*1)))) (qag (a:=x100) underlying22 sizeOf3 rfl rfl (by rw [(hC.ow (i:=3) rfl).qaf.1]; exact (qac h107).1))<|lex.sk (hC.put (i:=3) rfl rfl sizeOf3 (k:=x100.toNat) (a:=o) (by have:=(qac h107).1; simp at this⊢; omega) (⟨rfl,I64.wr D⟩) rfl rfl rfl) ?_
 rintro w112 ⟨hC,hF⟩
 refine ln (hK98 _ _ ?_)
 refine rg ?_
 obtain ⟨z113,h114,hb⟩:=bd hb
 refine lp (iv z113) (qak (a:=u) (b:=1) e39 rfl h114)<|lp (iv z113) (qaa rfl)<|ln ?_
 obtain rfl:=os hb
 exact hK90 m91' _ _ (Nat.lt_succ_self _) ⟨z113,(x.set x100.toNat o),e2,e3,e4,e6,e7,e8,e30,e31,e32,e33,e37,e38,rfl,(qai h114),hC.sE [0,1,2,3,4,5],lN hl1⟩
 replace hb:=tf hq97 hb
 refine Wc.exit rfl ?_
 obtain rfl:=os hb
 obtain rfl:=(lX hl1).symm
 exact hK89 _ _ ⟨u,x,e2,e3,e4,e6,e7,e8,e30,e31,e32,e33,e37,e38,e39,J,hC.sE [0,1,2,3,4,5],hbK1⟩
 clear hb hC hl1
 rintro E116 w115 ⟨u,x,e2,e3,e4,e6,e7,e8,e30,e31,e32,e33,e37,e38,e39,J,hC,hb⟩
 refine hK74 _ _<|rg ?_
 obtain ⟨z117,h118,hb⟩:=bd hb
 refine lp (iv z117) (qak (a:=o) (b:=1) e32 rfl h118)<|lp (iv z117) (qaa rfl)<|ln ?_
 obtain rfl:=os hb
 exact hK66 m67' _ _ (Nat.lt_succ_self _) ⟨z117,x,e2,e3,e4,e6,e30,e31,rfl,(qai h118),hC.sE [0,1,2,3,5],lN hl0⟩
 replace hb:=tf hq73 hb
 refine Wc.exit rfl ?_
 obtain rfl:=os hb
 obtain rfl:=(lX hl0).symm
 exact hK65 _ _ ⟨o,q,e2,e3,e4,e6,D,hC.sE [0,1,2,3],hbK0⟩
 clear hb hC hl0
 rintro E120 w119 ⟨o,q,e2,e3,e4,e6,D,hC,hb⟩
 subst hf64
 refine hK43 _ _ ?_
 refine Wc.seq fun _ hK121=>?_
 refine Wc.seq fun _ hK122=>rg<|lp _ (qaa e4)<|lp (iv (y10.1.length:Int)) (qan (A:=A12) (n:=y10.1.length) (m:=c14) underlying37 rfl)<|lp (iv 0) (qaa rfl)<|ln (hK122 _ _ ?_)
 replace hC:=hC.nil 27 (.sl si)
 obtain ⟨o124,hl2,f124,hf124,hb⟩:=bn hb
 refine Wc.cut (fun E wv=> ∃(p:Int) (c:List (List Int)) (j:Option Addr) (z l:Nat),E 2=pg g6∧E 3=iv 0∧E 6=pg g39∧I64 p∧Cx (fun _=>False) O0 w wv [.box g6 48 [iv 0,.slice none 0 0,.slice none 0 0],.box g39 48 [iv d,.slice A33 (((rZ d)).length) c34,.slice j z l],.own 3 si (.slice A33 (((rZ d)).length) c34) q,.own 27 (.sl si) (.slice j z l) c]∧f124 (p,c)=some r) (fun _ hK125=>?_) ?_
 refine Wc.block ?_
 refine Wc.loop (fun m E wv=> ∃(p:Int) (c:List (List Int)) (j:Option Addr) (z l:Nat),E 2=pg g6∧E 3=iv 0∧E 6=pg g39∧E 50=.slice A12 y10.1.length c14∧E 51=iv (y10.1.length:Int)∧E 52=iv p∧I64 p∧Cx (fun _=>False) O0 w wv [.box g6 48 [iv 0,.slice none 0 0,.slice none 0 0],.box g39 48 [iv d,.slice A33 (((rZ d)).length) c34,.slice j z l],.own 3 si (.slice A33 (((rZ d)).length) c34) q,.own 27 (.sl si) (.slice j z l) c,.own 27 (.sl si) (.slice A12 y10.1.length c14) y10.1]∧loopN m (F.qcl n y10) (p,c)=some o124) n ⟨0,([]:List (List Int)),none,0,0,e2,e3,e6,rfl,rfl,rfl,(show I64 0 from by unfold I64; omega),hC.sE [1,3,4,0,2],hl2⟩ ?_
 have hbK2:=hb
 clear hb hC hl2
 rintro m127 E129 w128 ⟨p,c,j,z,l,e2,e3,e6,e50,e51,e52,K,hC,hl2⟩ K126 hK126
 obtain ⟨m127',o130,rfl,hb,hl2⟩:=qam hl2
 unfold F.qcl at hb
 obtain ⟨rfl,R,S⟩:=(hC.ow (i:=3) rfl).qaf
 refine Wc.seq fun _ hK131=>rg<|lp _ (qau e52 e51)<|ln (hK131 _ _ ?_)
 refine Wc.seq fun _ hK132=>?_
 refine Wc.cond (t:=(decide (p<(y10.1.length:Int)))) (rfl) (fun hq133=>?_) (fun hq133=>?_)
 replace hb:=tt hq133 hb
 refine Wc.skip (hK132 _ _ ?_)
 refine Wc.seq fun _ hK134=>?_
 refine Wc.block<|Wc.seq fun _ hK135=>rg<|lp _ (qaa e52) ?_
 obtain ⟨x136,h137,hb⟩:=bd hb
 obtain ⟨ad138,cs139,hA,hc140,hr141⟩:=hC.elo (i:=4) rfl (qac h137).2
 subst hA
 refine lp (.pointer (some (ad138.add (p.toNat*1)))) (qag (a:=p) underlying37 sizeOf27 e50 e52 (qac h137).1) ?_
 have hR:=hr141
 obtain ⟨A142,c143,rfl,hl144,hc145,_⟩:=hr141
 replace hC:=hC.ro hR
 clear hR
 refine lv (.slice A142 x136.length c143) (qah isAgg27 rfl (hc140 0 _ rfl))<|lp (iv p) (qab rfl)<|lp (.slice A142 x136.length c143) (qab rfl)<|ln (hK135 _ _ ?_)
 refine Wc.regionMix [] (frm [] [.own 27 (.sl si) (.slice j c.length l) c] [.box g39 48 [iv d,.slice A33 (((rZ d)).length) c34,.slice j c.length l]]) (fun _=>rfl) mixed (by decide+kernel) (by decide+kernel) fun w148 hw147=>?_
 replace hC:=hC.step (Fr.qbh hw147)
 have hM:=Fr.refl (fun k=>k∈blocks [.own 27 (.sl si) (.slice j c.length l) c]) w148
 clear hw147
 have hS:=hC
 have N:Beside [.own 27 (.sl si) (.slice j c.length l) c] w148 (.slice j c.length l):=Beside.of (i:=0) rfl
 have hD:Fr (fun k=>k∈blocks ([.own 27 (.sl si) (.slice j c.length l) c]++[.box g39 48 [iv d,.slice A33 (((rZ d)).length) c34,.slice j c.length l]])) w148 w148:=hM.wide
 have X:Beside ([.own 27 (.sl si) (.slice j c.length l) c]++[.box g39 48 [iv d,.slice A33 (((rZ d)).length) c34,.slice j c.length l]]) w148 (.slice j c.length l):=Beside.of (i:=0) rfl
 have hUf41:g39<w148.heap.size→g39∈blocks ([.own 27 (.sl si) (.slice j c.length l) c]++[.box g39 48 [iv d,.slice A33 (((rZ d)).length) c34,.slice j c.length l]]):=fun _=>box_in (i:=1) rfl
 refine mp (.pointer (some ((⟨g39,0,none⟩:Addr).add 2))) (qal (sz:=1) underlying48 rfl sizeOf37 (by decide) rfl e6)<|mixE.load hM (v:=.slice j c.length l) (fun _ hF=>qar (hS.bx2 (i:=2) rfl [4] (by decide) hF) isAgg37 rfl rfl)<|mp (.slice A142 x136.length c143) (qaa rfl)<|mp (iv p) (qaa rfl) ?_
 obtain ⟨z149,h150,hb⟩:=bd hb
 refine mp (iv z149) (qak (a:=p) (b:=1) rfl rfl h150) ?_
 obtain ⟨z151,h152,hb⟩:=bd hb
 refine mp (iv z151) (qbx (a:=z149) rfl h152)<|mixE.op hM (hC.lit (s:=si) (vs:=[iv z151]) (xs:=[z151]) underlying27 type3 rfl rfl (nb rfl) rfl rfl (by simp [Value.cells,Sh.n]) rfl (show Elems _ _ si ([iv z151]++([])) ([z151]:List Int) from Elems.cons (⟨rfl,I64.wr (qai h152)⟩) (Elems.nil _ _ _))) ?_
 rintro _ w157 ⟨A153,c154,rfl,hl155,hc156,hC,hF,hN⟩
 have hBf158:=Beside.new hM hN
 have hUf158:=Beside.new (hM.wide (H:=[.box g39 48 [iv d,.slice A33 (((rZ d)).length) c34,.slice j c.length l]])) hN
 replace hM:=hM.none hF
 replace hD:=hM.wide (H:=[.box g39 48 [iv d,.slice A33 (((rZ d)).length) c34,.slice j c.length l]])
 refine ⟨hM,?_⟩
 clear hF hN
 replace hC:=hC.freeze (i:=0) rfl (hC.qdh (i:=0) rfl)
 refine mixE.op hM (hC.lit (s:=(.sl si)) (vs:=[.slice A142 x136.length c143,.slice A153 ((([z151]:List Int)).length) c154]) (xs:=[x136,([z151]:List Int)]) underlying37 type27 rfl rfl (nb rfl) rfl rfl (by simp [Value.cells,Sh.n]) rfl (show Elems _ _ (.sl si) ([.slice A142 x136.length c143]++([.slice A153 ((([z151]:List Int)).length) c154]++([]))) ([x136,([z151]:List Int)]:List (List Int)) from Elems.cons (hC.rd (i:=1) rfl) (Elems.cons (hC.rd (i:=0) rfl) (Elems.nil _ _ _)))) ?_
 rintro _ w163 ⟨A159,c160,rfl,hl161,hc162,hC,hF,hN⟩
 have hBf164:=Beside.new hM hN
 have hUf164:=Beside.new (hM.wide (H:=[.box g39 48 [iv d,.slice A33 (((rZ d)).length) c34,.slice j c.length l]])) hN
 replace hM:=hM.none hF
 replace hD:=hM.wide (H:=[.box g39 48 [iv d,.slice A33 (((rZ d)).length) c34,.slice j c.length l]])
 refine ⟨hM,?_⟩
 clear hF hN
 obtain ⟨y165,h166,hb⟩:=bd hb
 refine mixE.cl hM (⟨_,_,qas (vs:=[.slice A159 ((([x136,([z151]:List Int)]:List (List Int))).length) c160]) call40 rfl rfl rfl,word_Mul_ok n (hC.lentLt [.slice A159 ((([x136,([z151]:List Int)]:List (List Int))).length) c160]) ((hC.ow (i:=0) rfl).lend (vs:=[.slice A159 ((([x136,([z151]:List Int)]:List (List Int))).length) c160]) (by simp)) h166⟩) ?_
 rintro _ w171 ⟨A167,m168,c169,rfl,hK⟩
 have hBf170:=Beside.cl (i:=0) hM hK rfl
 have hUf170:=hBf170.wide (H:=[.box g39 48 [iv d,.slice A33 (((rZ d)).length) c34,.slice j c.length l]])
 replace hM:=hM.none hK.fr
 replace hD:=hM.wide (H:=[.box g39 48 [iv d,.slice A33 (((rZ d)).length) c34,.slice j c.length l]])
 refine ⟨hM,?_⟩
 replace hC:=hC.mergeF hK rfl
 clear hK
 obtain ⟨rfl,hl172,hc173⟩:=(hC.ow (i:=0) rfl).qaf
 replace hC:=hC.freeze (i:=0) rfl (hC.qdh (i:=0) rfl)
 refine mixE.op hM (hC.lit (s:=(.sl si)) (vs:=[.slice A167 y165.length c169]) (xs:=[y165]) underlying37 type27 rfl rfl (nb rfl) rfl rfl (by simp [Value.cells,Sh.n]) rfl (show Elems _ _ (.sl si) ([.slice A167 y165.length c169]++([])) ([y165]:List (List Int)) from Elems.cons (hC.rd (i:=0) rfl) (Elems.nil _ _ _))) ?_
 rintro _ w178 ⟨A174,c175,rfl,hl176,hc177,hC,hF,hN⟩
 have hBf179:=Beside.new hM hN
 have hUf179:=Beside.new (hM.wide (H:=[.box g39 48 [iv d,.slice A33 (((rZ d)).length) c34,.slice j c.length l]])) hN
 replace hM:=hM.none hF
 replace hD:=hM.wide (H:=[.box g39 48 [iv d,.slice A33 (((rZ d)).length) c34,.slice j c.length l]])
 refine ⟨hM,?_⟩
 clear hF hN
 obtain ⟨u180,h181,hb⟩:=bd hb
 refine mixE.op hM (hC.app (i:=8) (s:=(.sl si)) (xs:=c) (ys:=([y165]:List (List Int))) (m:=((([y165]:List (List Int))).length)) rfl underlying37 underlying37 type27 rfl rfl rfl (hC.srco (i:=0) rfl) rfl rfl (by have:=qbn h181; simp at this⊢ <;>omega) (by decide)) ?_
 rintro _ w186 ⟨A182,c183,rfl,hl184,hc185,hC,hF,hN⟩
 have hB:=N
 replace N:=hB.app hM hN
 replace hM:=hM.beside hB hF
 clear hB
 replace hD:=hM.wide (H:=[.box g39 48 [iv d,.slice A33 (((rZ d)).length) c34,.slice j c.length l]])
 refine ⟨hM,?_⟩
 clear hF hN
 refine mp (.pointer (some ((⟨g39,0,none⟩:Addr).add 2))) (qal (sz:=1) underlying48 rfl sizeOf37 (by decide) rfl e6)<|mixE.sk hD (hC.setf (i:=6) (k:=2) (v:=.slice A182 ((c++([y165]:List (List Int))).length) c183) rfl sizeOf37 rfl rfl rfl rfl) ?_
 rintro w187 ⟨hC,hF⟩
 replace hD:=hD.besideG hUf41 hF
 clear hF
 refine ⟨hD,?_⟩
 refine mixE.nil ?_
 clear hS hM
 clear hD
 refine hK134 _ _<|rg ?_
 obtain ⟨z188,h189,hb⟩:=bd hb
 refine lp (iv z188) (qak (a:=p) (b:=1) e52 rfl h189)<|lp (iv z188) (qaa rfl)<|ln ?_
 obtain rfl:=os hb
 exact hK126 m127' _ _ (Nat.lt_succ_self _) ⟨z188,(c++([y165]:List (List Int))),A182,(c++([y165]:List (List Int))).length,c183,e2,e3,e6,e50,e51,rfl,(qai h189),hC.sE [5,6,7,8,9],lN hl2⟩
 replace hb:=tf hq133 hb
 refine Wc.exit rfl ?_
 obtain rfl:=os hb
 obtain rfl:=(lX hl2).symm
 exact hK125 _ _ ⟨p,c,j,c.length,l,e2,e3,e6,K,hC.sE [0,1,2,3],hbK2⟩
 clear hb hC hl2
 rintro E191 w190 ⟨p,c,j,z,l,e2,e3,e6,K,hC,hb⟩
 subst hf124
 obtain ⟨rfl,R,S⟩:=(hC.ow (i:=3) rfl).qaf
 refine hK121 _ _<|Wc.seq fun _ hK192=>rg<|lv (.agg #[iv d,.slice A33 (((rZ d)).length) c34,.slice j c.length l]) (qbm (hC.bx (i:=1) rfl) isAgg48 sizeOf48 e6)<|lex.sk (hC.seta (i:=0) (ds:=[iv d,.slice A33 (((rZ d)).length) c34,.slice j c.length l]) rfl type48 rfl rfl rfl e2 rfl) ?_
 rintro w193 ⟨hC,hF⟩
 refine lp (iv 0) (qab rfl)<|ln (hK192 _ _ ?_)
 obtain rfl:=os hb
 refine Wc.ret (hKR _ _ ?_)
 refine ⟨_,res2 results21 ⟨_,e2,qem (hC.bx (i:=0) rfl) isAgg48 sizeOf48⟩ (tV (iv 0) rfl),_,rfl,A33,((rZ d)).length,c34,j,c.length,l,rfl,L,(show I64 0 from by unfold I64; omega),hC.sE [2,3]⟩
 refine qad ?_
 refine mixE.op hM (hC.alloc (cs:=[iv 0,.slice none 0 0,.slice none 0 0]) zeroValue48 rfl) ?_
 rintro _ w195 ⟨g194,rfl,hC,hF,hG⟩
 have hUf196:g194<w30.heap.size→g194∈blocks (([]:List Fact)++([]:List Fact)):=fun h=>absurd (Nat.lt_of_lt_of_le h (Nat.le_trans hM.size hG)) (Nat.lt_irrefl _)
 clear hG
 replace hM:=hM.none hF
 replace hD:=hM.wide (H:=([]:List Fact))
 refine ⟨hM,?_⟩
 refine mixE.nil ?_
 refine qad ?_
 obtain ⟨u31,h198,hb⟩:=bd hb
 refine mixE.op hM (hC.make (s:=si) (n:=d) underlying22 type3 rfl rfl rfl rfl rfl (qae h198).1 (qae h198).2 (by decide)) ?_
 rintro _ w203 ⟨A199,c200,rfl,hl201,hc202,hC,hF,hN⟩
 have hBf204:=Beside.new hM hN
 have hUf204:=Beside.new (hM.wide (H:=([]:List Fact))) hN
 replace hM:=hM.none hF
 replace hD:=hM.wide (H:=([]:List Fact))
 refine ⟨hM,?_⟩
 clear hF hN
 refine mp (.agg #[iv d,.slice A199 (((rZ d)).length) c200,.slice none 0 0]) (qdj (places:=[(0,1),(1,1),(2,1)]) (pv:=[(0,iv d),(1,.slice A199 (((rZ d)).length) c200)]) type48 underlying48 rfl (qba type3 (qba type22 (qba type37 mp_nil rfl rfl) rfl rfl) rfl rfl) rfl (by simp [Instr.fill,Value.cells]))<|mixE.sk hD (hC.seta (i:=1) (ds:=[iv d,.slice A199 (((rZ d)).length) c200,.slice none 0 0]) rfl type48 rfl rfl rfl rfl rfl) ?_
 rintro w205 ⟨hC,hF⟩
 replace hD:=hD.besideG hUf196 hF
 clear hF
 refine ⟨hD,?_⟩
 refine mixE.nil ?_
 clear hS hM
 clear hD
 refine hK28 _ _ ?_
 refine Wc.seq fun _ hK206=>?_
 refine Wc.seq fun _ hK207=>rg<|lv (.agg #[iv d,.slice B G.length C]) (qbm (hC.bx (i:=4) rfl) isAgg24 sizeOf24 e1) ?_
 obtain ⟨y45,h209,hb⟩:=bd hb
 refine lex.cl (⟨_,_,qas (vs:=[.agg #[iv d,.slice B G.length C]]) call23 rfl rfl rfl,braid_Perm_ok n hC.lt L (hC.rd (i:=5) rfl) h209⟩) ?_
 rintro _ w214 ⟨A210,m211,c212,rfl,hK⟩
 replace hC:=hC.merge hK
 clear hK
 obtain ⟨rfl,hl215,hc216⟩:=(hC.ow (i:=0) rfl).qaf
 replace hC:=hC.freeze (i:=0) rfl (hC.qdh (i:=0) rfl)
 obtain ⟨y54,h218,hb⟩:=bd hb
 refine lex.cl (⟨_,_,qas (vs:=[.slice A210 y45.length c212]) call39 rfl rfl rfl,perm_Cycles_ok n hC.lt (hC.rd (i:=0) rfl) h218⟩) ?_
 rintro _ w223 ⟨A219,m220,c221,rfl,hK⟩
 replace hC:=hC.merge hK
 clear hK
 obtain ⟨rfl,hl224,hc225⟩:=(hC.ow (i:=0) rfl).qaf
 refine lp (iv (y54.length:Int)) (qan (A:=A219) (n:=y54.length) (m:=c221) underlying41 rfl)<|lp (iv 0) (qaa rfl)<|ln (hK207 _ _ ?_)
 refine Wc.fresh fun E226 hE=>?_
 have e2:=cg hE 2 e2
 have e3:=cg hE 3 e3
 have e4:=cg hE 4 e4
 have e6:E226 6=pg g194:=cg hE 6 rfl
 have e30:E226 30=.slice A219 y54.length c221:=cg hE 30 rfl
 have e31:E226 31=iv (y54.length:Int):=cg hE 31 rfl
 have e32:E226 32=iv 0:=cg hE 32 rfl
 clear hE
 obtain ⟨o64,hl0,f64,hf64,hb⟩:=bn hb
 refine Wc.cut (fun E wv=> ∃(o:Int) (q:List Int),E 2=pg g6∧E 3=iv 0∧E 4=.slice A12 y10.1.length c14∧E 6=pg g194∧I64 o∧Cx (fun _=>False) O0 w wv [.box g6 48 [iv 0,.slice none 0 0,.slice none 0 0],.own 27 (.sl si) (.slice A12 y10.1.length c14) y10.1,.box g194 48 [iv d,.slice A199 (((rZ d)).length) c200,.slice none 0 0],.own 3 si (.slice A199 (((rZ d)).length) c200) q]∧f64 (o,q)=some r) (fun _ hK228=>?_) ?_
 refine Wc.block ?_
 refine Wc.loop (fun m E wv=> ∃(o:Int) (q:List Int),E 2=pg g6∧E 3=iv 0∧E 4=.slice A12 y10.1.length c14∧E 6=pg g194∧E 30=.slice A219 y54.length c221∧E 31=iv (y54.length:Int)∧E 32=iv o∧I64 o∧Cx (fun _=>False) O0 w wv [.box g6 48 [iv 0,.slice none 0 0,.slice none 0 0],.own 27 (.sl si) (.slice A12 y10.1.length c14) y10.1,.box g194 48 [iv d,.slice A199 (((rZ d)).length) c200,.slice none 0 0],.own 3 si (.slice A199 (((rZ d)).length) c200) q,.own 22 (.sl si) (.slice A219 y54.length c221) y54]∧loopN m (F.qdl n y54) (o,q)=some o64) n ⟨0,(rZ d),e2,e3,e4,e6,e30,e31,e32,(show I64 0 from by unfold I64; omega),hC.sE [5,4,3,2,0],hl0⟩ ?_
 have hbK0:=hb
 clear hb hC hl0
 rintro m230 E232 w231 ⟨o,q,e2,e3,e4,e6,e30,e31,e32,D,hC,hl0⟩ K229 hK229
 obtain ⟨m230',o233,rfl,hb,hl0⟩:=qam hl0
 unfold F.qdl at hb
 refine Wc.seq fun _ hK234=>rg<|lp _ (qau e32 e31)<|ln (hK234 _ _ ?_)
 refine Wc.seq fun _ hK235=>?_
 refine Wc.cond (t:=(decide (o<(y54.length:Int)))) (rfl) (fun hq236=>?_) (fun hq236=>?_)
 replace hb:=tt hq236 hb
 refine Wc.skip (hK235 _ _ ?_)
 refine Wc.seq fun _ hK237=>?_
 refine Wc.block<|Wc.seq fun _ hK238=>rg<|lp _ (qaa e32) ?_
 obtain ⟨x76,h240,hb⟩:=bd hb
 obtain ⟨ad241,cs242,hA,hc243,hr244⟩:=hC.elo (i:=4) rfl (qac h240).2
 subst hA
 refine lp (.pointer (some (ad241.add (o.toNat*1)))) (qag (a:=o) underlying41 sizeOf22 e30 e32 (qac h240).1) ?_
 have hR:=hr244
 obtain ⟨A245,c246,rfl,hl247,hc248,_⟩:=hr244
 replace hC:=hC.ro hR
 clear hR
 refine lv (.slice A245 x76.length c246) (qah isAgg22 rfl (hc243 0 _ rfl))<|lp (iv o) (qab rfl)<|lp (.slice A245 x76.length c246) (qab rfl)<|ln (hK238 _ _ ?_)
 refine Wc.seq fun _ hK250=>rg<|lp (.slice A245 x76.length c246) (qaa rfl)<|lp (iv (x76.length:Int)) (qan (A:=A245) (n:=x76.length) (m:=c246) underlying22 rfl)<|lp (iv 0) (qaa rfl)<|ln (hK250 _ _ ?_)
 obtain ⟨o88,hl1,hb⟩:=bd hb
 refine Wc.cut (fun E wv=> ∃(u:Int) (x:List Int),E 2=pg g6∧E 3=iv 0∧E 4=.slice A12 y10.1.length c14∧E 6=pg g194∧E 7=iv o∧E 8=.slice A245 x76.length c246∧E 30=.slice (some ad241) y54.length c221∧E 31=iv (y54.length:Int)∧E 32=iv o∧E 33=.bool (decide (o<(y54.length:Int)))∧E 37=.slice A245 x76.length c246∧E 38=iv (x76.length:Int)∧E 39=iv u∧I64 u∧Cx (fun _=>False) O0 w wv [.box g6 48 [iv 0,.slice none 0 0,.slice none 0 0],.own 27 (.sl si) (.slice A12 y10.1.length c14) y10.1,.box g194 48 [iv d,.slice A199 (((rZ d)).length) c200,.slice none 0 0],.own 3 si (.slice A199 (((rZ d)).length) c200) x,.ro (.sl si) [.slice A245 x76.length c246] x76,.own 22 (.sl si) (.slice (some ad241) y54.length c221) y54]∧((chk (o+1)).bind fun z117=>some (.inl (z117,x)):Option ((Int×(List Int))⊕((Int×(List Int)))))=some o233) (fun _ hK252=>?_) ?_
 refine Wc.block ?_
 refine Wc.loop (fun m E wv=> ∃(u:Int) (x:List Int),E 2=pg g6∧E 3=iv 0∧E 4=.slice A12 y10.1.length c14∧E 6=pg g194∧E 7=iv o∧E 8=.slice A245 x76.length c246∧E 30=.slice (some ad241) y54.length c221∧E 31=iv (y54.length:Int)∧E 32=iv o∧E 33=.bool (decide (o<(y54.length:Int)))∧E 37=.slice A245 x76.length c246∧E 38=iv (x76.length:Int)∧E 39=iv u∧I64 u∧Cx (fun _=>False) O0 w wv [.box g6 48 [iv 0,.slice none 0 0,.slice none 0 0],.own 27 (.sl si) (.slice A12 y10.1.length c14) y10.1,.box g194 48 [iv d,.slice A199 (((rZ d)).length) c200,.slice none 0 0],.own 3 si (.slice A199 (((rZ d)).length) c200) x,.ro (.sl si) [.slice A245 x76.length c246] x76,.own 22 (.sl si) (.slice (some ad241) y54.length c221) y54]∧loopN m (F.qgf n o x76) (u,x)=some o88) n ⟨0,q,e2,e3,e4,e6,rfl,rfl,e30,e31,e32,rfl,rfl,rfl,rfl,(show I64 0 from by unfold I64; omega),hC.sE [1,2,3,4,0,5],hl1⟩ ?_
 have hbK1:=hb
 clear hb hC hl1
 rintro m254 E256 w255 ⟨u,x,e2,e3,e4,e6,e7,e8,e30,e31,e32,e33,e37,e38,e39,J,hC,hl1⟩ K253 hK253
 obtain ⟨m254',o257,rfl,hb,hl1⟩:=qam hl1
 unfold F.qgf at hb
 refine Wc.seq fun _ hK258=>rg<|lp _ (qau e39 e38)<|ln (hK258 _ _ ?_)
 refine Wc.seq fun _ hK259=>?_
 refine Wc.cond (t:=(decide (u<(x76.length:Int)))) (rfl) (fun hq260=>?_) (fun hq260=>?_)
 replace hb:=tt hq260 hb
 refine Wc.skip (hK259 _ _ ?_)
 refine Wc.seq fun _ hK261=>?_
 refine Wc.block<|Wc.seq fun _ hK262=>rg ?_
 obtain ⟨x100,h264,hb⟩:=bd hb
 obtain ⟨ad265,cs266,hA,hc267,hr268⟩:=hC.elr (i:=4) rfl (qac h264).2
 subst hA
 refine lp (.pointer (some (ad265.add (u.toNat*1)))) (qag (a:=u) underlying22 sizeOf3 e37 e39 (qac h264).1) ?_
 obtain ⟨rfl,hr268'⟩:=hr268
 refine lv (iv x100) (qah isAgg3 rfl (hc267 0 _ rfl))<|lp (iv x100) (qab rfl)<|ln (hK262 _ _ ?_)
 refine rg<|lp (.pointer (some ((⟨g194,0,none⟩:Addr).add 1))) (qal (sz:=1) underlying48 rfl sizeOf22 (by decide) rfl e6)<|lv (.slice A199 (((rZ d)).length) c200) (qar (hC.bx (i:=2) rfl) isAgg22 rfl rfl)<|lp (iv x100) (qaa rfl)<|lp _ (qaa e7) ?_
 obtain ⟨x106,h270,hb⟩:=bd hb
 obtain ⟨ad271,cs272,hA,hc273,hr274⟩:=hC.elo (i:=3) rfl (qac h270).2
 subst hA
 refine lp (.pointer (some (ad271.add (x100.toNat*1)))) (qag (a:=x100) underlying22 sizeOf3 rfl rfl (by rw [(hC.ow (i:=3) rfl).qaf.1]; exact (qac h270).1))<|lex.sk (hC.put (i:=3) rfl rfl sizeOf3 (k:=x100.toNat) (a:=o) (by have:=(qac h270).1; simp at this⊢; omega) (⟨rfl,I64.wr D⟩) rfl rfl rfl) ?_
 rintro w275 ⟨hC,hF⟩
 refine ln (hK261 _ _ ?_)
 refine rg ?_
 obtain ⟨z113,h277,hb⟩:=bd hb
 refine lp (iv z113) (qak (a:=u) (b:=1) e39 rfl h277)<|lp (iv z113) (qaa rfl)<|ln ?_
 obtain rfl:=os hb
 exact hK253 m254' _ _ (Nat.lt_succ_self _) ⟨z113,(x.set x100.toNat o),e2,e3,e4,e6,e7,e8,e30,e31,e32,e33,e37,e38,rfl,(qai h277),hC.sE [0,1,2,3,4,5],lN hl1⟩
 replace hb:=tf hq260 hb
 refine Wc.exit rfl ?_
 obtain rfl:=os hb
 obtain rfl:=(lX hl1).symm
 exact hK252 _ _ ⟨u,x,e2,e3,e4,e6,e7,e8,e30,e31,e32,e33,e37,e38,e39,J,hC.sE [0,1,2,3,4,5],hbK1⟩
 clear hb hC hl1
 rintro E279 w278 ⟨u,x,e2,e3,e4,e6,e7,e8,e30,e31,e32,e33,e37,e38,e39,J,hC,hb⟩
 refine hK237 _ _<|rg ?_
 obtain ⟨z117,h281,hb⟩:=bd hb
 refine lp (iv z117) (qak (a:=o) (b:=1) e32 rfl h281)<|lp (iv z117) (qaa rfl)<|ln ?_
 obtain rfl:=os hb
 exact hK229 m230' _ _ (Nat.lt_succ_self _) ⟨z117,x,e2,e3,e4,e6,e30,e31,rfl,(qai h281),hC.sE [0,1,2,3,5],lN hl0⟩
 replace hb:=tf hq236 hb
 refine Wc.exit rfl ?_
 obtain rfl:=os hb
 obtain rfl:=(lX hl0).symm
 exact hK228 _ _ ⟨o,q,e2,e3,e4,e6,D,hC.sE [0,1,2,3],hbK0⟩
 clear hb hC hl0
 rintro E283 w282 ⟨o,q,e2,e3,e4,e6,D,hC,hb⟩
 subst hf64
 refine hK206 _ _ ?_
 refine Wc.seq fun _ hK284=>?_
 refine Wc.seq fun _ hK285=>rg<|lp _ (qaa e4)<|lp (iv (y10.1.length:Int)) (qan (A:=A12) (n:=y10.1.length) (m:=c14) underlying37 rfl)<|lp (iv 0) (qaa rfl)<|ln (hK285 _ _ ?_)
 replace hC:=hC.nil 27 (.sl si)
 obtain ⟨o124,hl2,f124,hf124,hb⟩:=bn hb
 refine Wc.cut (fun E wv=> ∃(p:Int) (c:List (List Int)) (f:Option Addr) (y g:Nat),E 2=pg g6∧E 3=iv 0∧E 6=pg g194∧I64 p∧Cx (fun _=>False) O0 w wv [.box g6 48 [iv 0,.slice none 0 0,.slice none 0 0],.box g194 48 [iv d,.slice A199 (((rZ d)).length) c200,.slice f y g],.own 3 si (.slice A199 (((rZ d)).length) c200) q,.own 27 (.sl si) (.slice f y g) c]∧f124 (p,c)=some r) (fun _ hK288=>?_) ?_
 refine Wc.block ?_
 refine Wc.loop (fun m E wv=> ∃(p:Int) (c:List (List Int)) (f:Option Addr) (y g:Nat),E 2=pg g6∧E 3=iv 0∧E 6=pg g194∧E 50=.slice A12 y10.1.length c14∧E 51=iv (y10.1.length:Int)∧E 52=iv p∧I64 p∧Cx (fun _=>False) O0 w wv [.box g6 48 [iv 0,.slice none 0 0,.slice none 0 0],.box g194 48 [iv d,.slice A199 (((rZ d)).length) c200,.slice f y g],.own 3 si (.slice A199 (((rZ d)).length) c200) q,.own 27 (.sl si) (.slice f y g) c,.own 27 (.sl si) (.slice A12 y10.1.length c14) y10.1]∧loopN m (F.qcl n y10) (p,c)=some o124) n ⟨0,([]:List (List Int)),none,0,0,e2,e3,e6,rfl,rfl,rfl,(show I64 0 from by unfold I64; omega),hC.sE [1,3,4,0,2],hl2⟩ ?_
 have hbK2:=hb
 clear hb hC hl2
 rintro m290 E292 w291 ⟨p,c,f,y,g,e2,e3,e6,e50,e51,e52,K,hC,hl2⟩ K289 hK289
 obtain ⟨m290',o293,rfl,hb,hl2⟩:=qam hl2
 unfold F.qcl at hb
 obtain ⟨rfl,P,Q⟩:=(hC.ow (i:=3) rfl).qaf
 refine Wc.seq fun _ hK294=>rg<|lp _ (qau e52 e51)<|ln (hK294 _ _ ?_)
 refine Wc.seq fun _ hK295=>?_
 refine Wc.cond (t:=(decide (p<(y10.1.length:Int)))) (rfl) (fun hq296=>?_) (fun hq296=>?_)
 replace hb:=tt hq296 hb
 refine Wc.skip (hK295 _ _ ?_)
 refine Wc.seq fun _ hK297=>?_
 refine Wc.block<|Wc.seq fun _ hK298=>rg<|lp _ (qaa e52) ?_
 obtain ⟨x136,h300,hb⟩:=bd hb
 obtain ⟨ad301,cs302,hA,hc303,hr304⟩:=hC.elo (i:=4) rfl (qac h300).2
 subst hA
 refine lp (.pointer (some (ad301.add (p.toNat*1)))) (qag (a:=p) underlying37 sizeOf27 e50 e52 (qac h300).1) ?_
 have hR:=hr304
 obtain ⟨A305,c306,rfl,hl307,hc308,_⟩:=hr304
 replace hC:=hC.ro hR
 clear hR
 refine lv (.slice A305 x136.length c306) (qah isAgg27 rfl (hc303 0 _ rfl))<|lp (iv p) (qab rfl)<|lp (.slice A305 x136.length c306) (qab rfl)<|ln (hK298 _ _ ?_)
 refine Wc.regionMix [] (frm [] [.own 27 (.sl si) (.slice f c.length g) c] [.box g194 48 [iv d,.slice A199 (((rZ d)).length) c200,.slice f c.length g]]) (fun _=>rfl) mixed (by decide+kernel) (by decide+kernel) fun w311 hw310=>?_
 replace hC:=hC.step (Fr.qbh hw310)
 have hM:=Fr.refl (fun k=>k∈blocks [.own 27 (.sl si) (.slice f c.length g) c]) w311
 clear hw310
 have hS:=hC
 have M:Beside [.own 27 (.sl si) (.slice f c.length g) c] w311 (.slice f c.length g):=Beside.of (i:=0) rfl
 have hD:Fr (fun k=>k∈blocks ([.own 27 (.sl si) (.slice f c.length g) c]++[.box g194 48 [iv d,.slice A199 (((rZ d)).length) c200,.slice f c.length g]])) w311 w311:=hM.wide
 have V:Beside ([.own 27 (.sl si) (.slice f c.length g) c]++[.box g194 48 [iv d,.slice A199 (((rZ d)).length) c200,.slice f c.length g]]) w311 (.slice f c.length g):=Beside.of (i:=0) rfl
 have hUf196:g194<w311.heap.size→g194∈blocks ([.own 27 (.sl si) (.slice f c.length g) c]++[.box g194 48 [iv d,.slice A199 (((rZ d)).length) c200,.slice f c.length g]]):=fun _=>box_in (i:=1) rfl
 refine mp (.pointer (some ((⟨g194,0,none⟩:Addr).add 2))) (qal (sz:=1) underlying48 rfl sizeOf37 (by decide) rfl e6)<|mixE.load hM (v:=.slice f c.length g) (fun _ hF=>qar (hS.bx2 (i:=2) rfl [4] (by decide) hF) isAgg37 rfl rfl)<|mp (.slice A305 x136.length c306) (qaa rfl)<|mp (iv p) (qaa rfl) ?_
 obtain ⟨z149,h313,hb⟩:=bd hb
 refine mp (iv z149) (qak (a:=p) (b:=1) rfl rfl h313) ?_
 obtain ⟨z151,h315,hb⟩:=bd hb
 refine mp (iv z151) (qbx (a:=z149) rfl h315)<|mixE.op hM (hC.lit (s:=si) (vs:=[iv z151]) (xs:=[z151]) underlying27 type3 rfl rfl (nb rfl) rfl rfl (by simp [Value.cells,Sh.n]) rfl (show Elems _ _ si ([iv z151]++([])) ([z151]:List Int) from Elems.cons (⟨rfl,I64.wr (qai h315)⟩) (Elems.nil _ _ _))) ?_
 rintro _ w320 ⟨A316,c317,rfl,hl318,hc319,hC,hF,hN⟩
 have hBf321:=Beside.new hM hN
 have hUf321:=Beside.new (hM.wide (H:=[.box g194 48 [iv d,.slice A199 (((rZ d)).length) c200,.slice f c.length g]])) hN
 replace hM:=hM.none hF
 replace hD:=hM.wide (H:=[.box g194 48 [iv d,.slice A199 (((rZ d)).length) c200,.slice f c.length g]])
 refine ⟨hM,?_⟩
 clear hF hN
 replace hC:=hC.freeze (i:=0) rfl (hC.qdh (i:=0) rfl)
 refine mixE.op hM (hC.lit (s:=(.sl si)) (vs:=[.slice A305 x136.length c306,.slice A316 ((([z151]:List Int)).length) c317]) (xs:=[x136,([z151]:List Int)]) underlying37 type27 rfl rfl (nb rfl) rfl rfl (by simp [Value.cells,Sh.n]) rfl (show Elems _ _ (.sl si) ([.slice A305 x136.length c306]++([.slice A316 ((([z151]:List Int)).length) c317]++([]))) ([x136,([z151]:List Int)]:List (List Int)) from Elems.cons (hC.rd (i:=1) rfl) (Elems.cons (hC.rd (i:=0) rfl) (Elems.nil _ _ _)))) ?_
 rintro _ w326 ⟨A322,c323,rfl,hl324,hc325,hC,hF,hN⟩
 have hBf327:=Beside.new hM hN
 have hUf327:=Beside.new (hM.wide (H:=[.box g194 48 [iv d,.slice A199 (((rZ d)).length) c200,.slice f c.length g]])) hN
 replace hM:=hM.none hF
 replace hD:=hM.wide (H:=[.box g194 48 [iv d,.slice A199 (((rZ d)).length) c200,.slice f c.length g]])
 refine ⟨hM,?_⟩
 clear hF hN
 obtain ⟨y165,h329,hb⟩:=bd hb
 refine mixE.cl hM (⟨_,_,qas (vs:=[.slice A322 ((([x136,([z151]:List Int)]:List (List Int))).length) c323]) call40 rfl rfl rfl,word_Mul_ok n (hC.lentLt [.slice A322 ((([x136,([z151]:List Int)]:List (List Int))).length) c323]) ((hC.ow (i:=0) rfl).lend (vs:=[.slice A322 ((([x136,([z151]:List Int)]:List (List Int))).length) c323]) (by simp)) h329⟩) ?_
 rintro _ w334 ⟨A330,m331,c332,rfl,hK⟩
 have hBf333:=Beside.cl (i:=0) hM hK rfl
 have hUf333:=hBf333.wide (H:=[.box g194 48 [iv d,.slice A199 (((rZ d)).length) c200,.slice f c.length g]])
 replace hM:=hM.none hK.fr
 replace hD:=hM.wide (H:=[.box g194 48 [iv d,.slice A199 (((rZ d)).length) c200,.slice f c.length g]])
 refine ⟨hM,?_⟩
 replace hC:=hC.mergeF hK rfl
 clear hK
 obtain ⟨rfl,hl335,hc336⟩:=(hC.ow (i:=0) rfl).qaf
 replace hC:=hC.freeze (i:=0) rfl (hC.qdh (i:=0) rfl)
 refine mixE.op hM (hC.lit (s:=(.sl si)) (vs:=[.slice A330 y165.length c332]) (xs:=[y165]) underlying37 type27 rfl rfl (nb rfl) rfl rfl (by simp [Value.cells,Sh.n]) rfl (show Elems _ _ (.sl si) ([.slice A330 y165.length c332]++([])) ([y165]:List (List Int)) from Elems.cons (hC.rd (i:=0) rfl) (Elems.nil _ _ _))) ?_
 rintro _ w341 ⟨A337,c338,rfl,hl339,hc340,hC,hF,hN⟩
 have hBf342:=Beside.new hM hN
 have hUf342:=Beside.new (hM.wide (H:=[.box g194 48 [iv d,.slice A199 (((rZ d)).length) c200,.slice f c.length g]])) hN
 replace hM:=hM.none hF
 replace hD:=hM.wide (H:=[.box g194 48 [iv d,.slice A199 (((rZ d)).length) c200,.slice f c.length g]])
 refine ⟨hM,?_⟩
 clear hF hN
 obtain ⟨u180,h344,hb⟩:=bd hb
 refine mixE.op hM (hC.app (i:=8) (s:=(.sl si)) (xs:=c) (ys:=([y165]:List (List Int))) (m:=((([y165]:List (List Int))).length)) rfl underlying37 underlying37 type27 rfl rfl rfl (hC.srco (i:=0) rfl) rfl rfl (by have:=qbn h344; simp at this⊢ <;>omega) (by decide)) ?_
 rintro _ w349 ⟨A345,c346,rfl,hl347,hc348,hC,hF,hN⟩
 have hB:=M
 replace M:=hB.app hM hN
 replace hM:=hM.beside hB hF
 clear hB
 replace hD:=hM.wide (H:=[.box g194 48 [iv d,.slice A199 (((rZ d)).length) c200,.slice f c.length g]])
 refine ⟨hM,?_⟩
 clear hF hN
 refine mp (.pointer (some ((⟨g194,0,none⟩:Addr).add 2))) (qal (sz:=1) underlying48 rfl sizeOf37 (by decide) rfl e6)<|mixE.sk hD (hC.setf (i:=6) (k:=2) (v:=.slice A345 ((c++([y165]:List (List Int))).length) c346) rfl sizeOf37 rfl rfl rfl rfl) ?_
 rintro w350 ⟨hC,hF⟩
 replace hD:=hD.besideG hUf196 hF
 clear hF
 refine ⟨hD,?_⟩
 refine mixE.nil ?_
 clear hS hM
 clear hD
 refine hK297 _ _<|rg ?_
 obtain ⟨z188,h352,hb⟩:=bd hb
 refine lp (iv z188) (qak (a:=p) (b:=1) e52 rfl h352)<|lp (iv z188) (qaa rfl)<|ln ?_
 obtain rfl:=os hb
 exact hK289 m290' _ _ (Nat.lt_succ_self _) ⟨z188,(c++([y165]:List (List Int))),A345,(c++([y165]:List (List Int))).length,c346,e2,e3,e6,e50,e51,rfl,(qai h352),hC.sE [5,6,7,8,9],lN hl2⟩
 replace hb:=tf hq296 hb
 refine Wc.exit rfl ?_
 obtain rfl:=os hb
 obtain rfl:=(lX hl2).symm
 exact hK288 _ _ ⟨p,c,f,c.length,g,e2,e3,e6,K,hC.sE [0,1,2,3],hbK2⟩
 clear hb hC hl2
 rintro E354 w353 ⟨p,c,f,y,g,e2,e3,e6,K,hC,hb⟩
 subst hf124
 obtain ⟨rfl,P,Q⟩:=(hC.ow (i:=3) rfl).qaf
 refine hK284 _ _<|Wc.seq fun _ hK355=>rg<|lv (.agg #[iv d,.slice A199 (((rZ d)).length) c200,.slice f c.length g]) (qbm (hC.bx (i:=1) rfl) isAgg48 sizeOf48 e6)<|lex.sk (hC.seta (i:=0) (ds:=[iv d,.slice A199 (((rZ d)).length) c200,.slice f c.length g]) rfl type48 rfl rfl rfl e2 rfl) ?_
 rintro w356 ⟨hC,hF⟩
 refine lp (iv 0) (qab rfl)<|ln (hK355 _ _ ?_)
 obtain rfl:=os hb
 refine Wc.ret (hKR _ _ ?_)
 refine ⟨_,res2 results21 ⟨_,e2,qem (hC.bx (i:=0) rfl) isAgg48 sizeOf48⟩ (tV (iv 0) rfl),_,rfl,A199,((rZ d)).length,c200,f,c.length,g,rfl,L,(show I64 0 from by unfold I64; omega),hC.sE [2,3]⟩
