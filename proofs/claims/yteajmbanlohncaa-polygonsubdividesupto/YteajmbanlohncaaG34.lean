import Derived.Test.YteajmbanlohncaaS
import Derived.Test.YteajmbanlohncaaG6
import Derived.Test.YteajmbanlohncaaG10
import Derived.Test.YteajmbanlohncaaG11
import Derived.Test.YteajmbanlohncaaG23
import Derived.Test.YteajmbanlohncaaG31
import Derived.Test.YteajmbanlohncaaG32
import Derived.Test.YteajmbanlohncaaG33
set_option linter.unusedVariables false
set_option linter.unusedSimpArgs false
namespace Go.Proofs.Yteajmbanlohncaa
open Ev Try
set_option maxRecDepth 100000
set_option maxHeartbeats 4000000
theorem law46_PolygonSubdivides_ok (n:Nat) {w:World} {O0:List Nat} (hO: ∀k∈O0,k<w.heap.size) {x:Option Addr} {D p:Nat} {o:List (List (Int×(Int×Int)))} (G:Rep O0 w (.sl (.sl (.pr si (.pr si si)))) [.slice x D p] o) {c:Int} (B:I64 c) {l:Int} (C:I64 l) {r:Bool} (hb:F.law46_PolygonSubdivides n o c l=some r):
    Calls prog 9 #[.slice x D p,iv c,iv l] w fun e w'=> ∃v,e=.returned v∧v=.bool r∧Cx (fun _=>False) O0 w w' []:=by
 unfold F.law46_PolygonSubdivides at hb
 have hC:=Cx.start hO
 replace hC:=hC.arg rfl G
 clear hO
 obtain ⟨rfl,J,K⟩:=G.sl_len
 refine calls_of_Wc func9 rfl (by rw [ntmps9]; exact nb rfl) fun KR hKR=>?_
 refine Wc.seq fun _ hK2=>rg<|lp (.bool false) (pu_assign rfl)<|ln (hK2 _ _ ?_)
 refine Wc.seq fun _ hK3=>?_
 refine Wc.seq fun _ hK4=>rg ?_
 obtain ⟨y5,h6,hb⟩:=bd hb
 refine lex.cl (⟨_,_,op_call (vs:=[]) call11 rfl rfl rfl,law46_awake_ok n hC.lt h6⟩) ?_
 rintro _ w7 ⟨rfl,hK⟩
 replace hC:=hC.merge hK
 clear hK
 refine lp (.bool (!y5)) (pu_not (q:=y5) rfl)<|lp (.bool (!y5)) (pu_move rfl) ?_
 rcases bS (!y5) with hq8 | hq8
 replace hb:=tt hq8 hb
 refine gs rfl rfl (!y5) rfl hq8<|gs rfl rfl (!y5) rfl hq8<|gs rfl rfl (!y5) rfl hq8<|lp (.bool true) (pu_pickT (q:=(!y5)) rfl hq8 rfl)<|ln (hK4 _ _ ?_)
 refine Wc.cond_true (rfl) ?_
 refine Wc.seq fun _ hK9=>rg ?_
 obtain ⟨y10,h11,hb⟩:=bd hb
 refine lex.cl (⟨_,_,op_call (vs:=[]) call11 rfl rfl rfl,law46_awake_ok n hC.lt h11⟩) ?_
 rintro _ w12 ⟨rfl,hK⟩
 replace hC:=hC.merge hK
 clear hK
 refine lp (.bool y10) (pu_assign rfl)<|ln (hK9 _ _ ?_)
 obtain rfl:=os hb
 refine Wc.ret (hKR _ _ ?_)
 refine ⟨_,res1 results9 (tV (.bool y10) rfl),_,rfl,rfl,hC.sE []⟩
 replace hb:=tf hq8 hb
 refine gp rfl rfl (!y5) rfl hq8 (.slice x o.length p) (pu_move rfl) ?_
 obtain ⟨y13,h14,hb⟩:=bd hb
 refine lex.gcl (want_t rfl rfl (show _=Value.bool (!y5) from rfl) hq8) (⟨_,_,op_call (vs:=[.slice x o.length p]) call14 rfl rfl rfl,law46_few_ok n hC.lt (hC.rd (i:=0) rfl) h14⟩) ?_
 rintro _ w15 ⟨rfl,hK⟩
 replace hC:=hC.merge hK
 clear hK
 refine gp rfl rfl (!y5) rfl hq8 (.bool (!y13)) (pu_not (q:=y13) rfl)<|lp (.bool (!y13)) (pu_pickF (q:=(!y5)) rfl hq8 rfl)<|ln (hK4 _ _ ?_)
 refine Wc.cond (t:=(!y13)) (rfl) (fun hq16=>?_) (fun hq16=>?_)
 replace hb:=tt hq16 hb
 refine Wc.seq fun _ hK17=>rg ?_
 obtain ⟨y18,h19,hb⟩:=bd hb
 refine lex.cl (⟨_,_,op_call (vs:=[]) call11 rfl rfl rfl,law46_awake_ok n hC.lt h19⟩) ?_
 rintro _ w20 ⟨rfl,hK⟩
 replace hC:=hC.merge hK
 clear hK
 refine lp (.bool y18) (pu_assign rfl)<|ln (hK17 _ _ ?_)
 obtain rfl:=os hb
 refine Wc.ret (hKR _ _ ?_)
 refine ⟨_,res1 results9 (tV (.bool y18) rfl),_,rfl,rfl,hC.sE []⟩
 replace hb:=tf hq16 hb
 refine Wc.skip (hK3 _ _ ?_)
 refine Wc.seq fun _ hK21=>rg<|lp (.slice x o.length p) (pu_move rfl)<|lp (iv c) (pu_move rfl)<|lp (iv l) (pu_move rfl) ?_
 obtain ⟨y22,h23,hb⟩:=bd hb
 refine lex.cl (⟨_,_,op_call (vs:=[.slice x o.length p,iv c,iv l]) call33 rfl rfl rfl,polygon_Subdivide_ok n hC.lt (hC.rd (i:=0) rfl) B C h23⟩) ?_
 rintro _ w29 ⟨A24,m25,c26,rfl,hr28,hK⟩
 replace hC:=hC.merge hK
 clear hK
 obtain ⟨rfl,hl30,hc31⟩:=(hC.rd (i:=0) rfl).sl_len
 refine lp (.tuple #[.slice A24 y22.1.length c26,iv y22.2]) (pu_move rfl)<|lp (.slice A24 y22.1.length c26) (pu_extract rfl rfl)<|lp (iv y22.2) (pu_extract rfl rfl)<|lp (.slice A24 y22.1.length c26) (pu_assign rfl)<|lp (iv y22.2) (pu_assign rfl)<|ln (hK21 _ _ ?_)
 refine Wc.fresh fun E32 hE=>?_
 have e0:E32 0=.slice x o.length p:=cg hE 0 rfl
 have e1:E32 1=iv c:=cg hE 1 rfl
 have e2:E32 2=iv l:=cg hE 2 rfl
 have e6:E32 6=.bool false:=cg hE 6 rfl
 have e7:E32 7=.slice A24 y22.1.length c26:=cg hE 7 rfl
 have e8:E32 8=iv y22.2:=cg hE 8 rfl
 clear hE
 refine Wc.seq fun _ hK33=>?_
 refine Wc.block<|Wc.seq fun _ hK34=>rg<|lp _ (pu_move e0) ?_
 obtain ⟨y35,h36,hb⟩:=bd hb
 refine lex.cl (⟨_,_,op_call (vs:=[.slice x o.length p]) call16 rfl rfl rfl,ref46_Valid_ok n hC.lt (hC.rd (i:=1) rfl) h36⟩) ?_
 rintro _ w37 ⟨rfl,hK⟩
 replace hC:=hC.merge hK
 clear hK
 refine lp (.bool (!y35)) (pu_not (q:=y35) rfl)<|lp (.bool (!y35)) (pu_assign rfl)<|ln (hK34 _ _ ?_)
 refine Wc.cond (t:=(!y35)) (rfl) (fun hq38=>?_) (fun hq38=>?_)
 replace hb:=tt hq38 hb
 refine Wc.seq fun _ hK39=>rg<|lp _ (pu_move e8)<|lp (.bool (decide (y22.2=1))) (pu_eql (k:=.i64) (a:=y22.2) (b:=1) rfl rfl)<|lp (.bool (decide (y22.2=1))) (pu_move rfl) ?_
 rcases bS (decide (y22.2=1)) with hq40 | hq40
 replace hb:=tt hq40 hb
 refine gp rfl rfl (decide (y22.2=1)) rfl hq40 (.slice A24 y22.1.length c26) (pu_move e7)<|gp rfl rfl (decide (y22.2=1)) rfl hq40 (iv (y22.1.length:Int)) (pu_len (A:=A24) (n:=y22.1.length) (m:=c26) underlying28 rfl)<|gp rfl rfl (decide (y22.2=1)) rfl hq40 (.bool (decide ((y22.1.length:Int)=0))) (pu_eql (k:=.i64) (a:=(y22.1.length:Int)) (b:=0) rfl rfl)<|lp (.bool (decide ((y22.1.length:Int)=0))) (pu_pickT (q:=(decide (y22.2=1))) rfl hq40 rfl)<|lp (.bool (decide ((y22.1.length:Int)=0))) (pu_assign rfl)<|ln (hK39 _ _ ?_)
 obtain rfl:=os hb
 refine Wc.ret (hKR _ _ ?_)
 refine ⟨_,res1 results9 (tV (.bool (decide ((y22.1.length:Int)=0))) rfl),_,rfl,rfl,hC.sE []⟩
 replace hb:=tf hq40 hb
 refine gs rfl rfl (decide (y22.2=1)) rfl hq40<|gs rfl rfl (decide (y22.2=1)) rfl hq40<|gs rfl rfl (decide (y22.2=1)) rfl hq40<|lp (.bool false) (pu_pickF (q:=(decide (y22.2=1))) rfl hq40 rfl)<|lp (.bool false) (pu_assign rfl)<|ln (hK39 _ _ ?_)
 obtain rfl:=os hb
 refine Wc.ret (hKR _ _ ?_)
 refine ⟨_,res1 results9 (tV (.bool false) rfl),_,rfl,rfl,hC.sE []⟩
 replace hb:=tf hq38 hb
 refine Wc.seqJ (fun E wv=> ∃(z:Bool),E 0=.slice x o.length p∧E 1=iv c∧E 2=iv l∧E 6=.bool false∧E 7=.slice A24 y22.1.length c26∧E 8=iv y22.2∧E 44=.bool z∧Cx (fun _=>False) O0 w wv [.ro (.sl (.sl (.pr si (.pr si si)))) [.slice x o.length p] o,.ro (.sl (.sl (.pr si (.pr si si)))) [.slice A24 y22.1.length c26] y22.1]∧F.law46_PolygonSubdivides_j0 n o c l y22 z=some r) (fun _ hK41=>?_) ?_
 refine rg<|lp _ (pu_move e1)<|lp (.bool (decide (c<0))) (pu_lss (k:=.i64) (a:=c) (b:=0) rfl rfl)<|lp (.bool (decide (c<0))) (pu_move rfl) ?_
 rcases bS (decide (c<0)) with hq42 | hq42
 replace hb:=tt hq42 hb
 refine gs rfl rfl (decide (c<0)) rfl hq42<|gs rfl rfl (decide (c<0)) rfl hq42<|gs rfl rfl (decide (c<0)) rfl hq42<|gs rfl rfl (decide (c<0)) rfl hq42<|lp (.bool true) (pu_pickT (q:=(decide (c<0))) rfl hq42 rfl)<|lp (.bool true) (pu_move rfl)<|gs rfl rfl true rfl rfl<|gs rfl rfl true rfl rfl<|lp (.bool true) (pu_pickT (q:=true) rfl rfl rfl)<|lp (.bool true) (pu_move rfl)<|gs rfl rfl true rfl rfl<|gs rfl rfl true rfl rfl<|gs rfl rfl true rfl rfl<|gs rfl rfl true rfl rfl<|gs rfl rfl true rfl rfl<|gs rfl rfl true rfl rfl<|gs rfl rfl true rfl rfl<|lp (.bool true) (pu_pickT (q:=true) rfl rfl rfl)<|lp (.bool true) (pu_assign rfl)<|ln ?_
 exact hK41 _ _ ⟨true,e0,e1,e2,e6,e7,e8,rfl,hC.sE [1,0],hb⟩
 replace hb:=tf hq42 hb
 refine gp rfl rfl (decide (c<0)) rfl hq42 (iv c) (pu_move e1)<|gp rfl rfl (decide (c<0)) rfl hq42 (.slice x o.length p) (pu_move e0)<|gp rfl rfl (decide (c<0)) rfl hq42 (iv (o.length:Int)) (pu_len (A:=x) (n:=o.length) (m:=p) underlying28 rfl)<|gp rfl rfl (decide (c<0)) rfl hq42 (.bool (decide ((o.length:Int)≤c))) (pu_geq (k:=.i64) (a:=c) (b:=(o.length:Int)) rfl rfl)<|lp (.bool (decide ((o.length:Int)≤c))) (pu_pickF (q:=(decide (c<0))) rfl hq42 rfl)<|lp (.bool (decide ((o.length:Int)≤c))) (pu_move rfl) ?_
 rcases bS (decide ((o.length:Int)≤c)) with hq43 | hq43
 replace hb:=tt hq43 hb
 refine gs rfl rfl (decide ((o.length:Int)≤c)) rfl hq43<|gs rfl rfl (decide ((o.length:Int)≤c)) rfl hq43<|lp (.bool true) (pu_pickT (q:=(decide ((o.length:Int)≤c))) rfl hq43 rfl)<|lp (.bool true) (pu_move rfl)<|gs rfl rfl true rfl rfl<|gs rfl rfl true rfl rfl<|gs rfl rfl true rfl rfl<|gs rfl rfl true rfl rfl<|gs rfl rfl true rfl rfl<|gs rfl rfl true rfl rfl<|gs rfl rfl true rfl rfl<|lp (.bool true) (pu_pickT (q:=true) rfl rfl rfl)<|lp (.bool true) (pu_assign rfl)<|ln ?_
 exact hK41 _ _ ⟨true,e0,e1,e2,e6,e7,e8,rfl,hC.sE [1,0],hb⟩
 replace hb:=tf hq43 hb
 refine gp rfl rfl (decide ((o.length:Int)≤c)) rfl hq43 (iv l) (pu_move e2)<|gp rfl rfl (decide ((o.length:Int)≤c)) rfl hq43 (.bool (decide (l<0))) (pu_lss (k:=.i64) (a:=l) (b:=0) rfl rfl)<|lp (.bool (decide (l<0))) (pu_pickF (q:=(decide ((o.length:Int)≤c))) rfl hq43 rfl)<|lp (.bool (decide (l<0))) (pu_move rfl) ?_
 rcases bS (decide (l<0)) with hq44 | hq44
 replace hb:=tt hq44 hb
 refine gs rfl rfl (decide (l<0)) rfl hq44<|gs rfl rfl (decide (l<0)) rfl hq44<|gs rfl rfl (decide (l<0)) rfl hq44<|gs rfl rfl (decide (l<0)) rfl hq44<|gs rfl rfl (decide (l<0)) rfl hq44<|gs rfl rfl (decide (l<0)) rfl hq44<|gs rfl rfl (decide (l<0)) rfl hq44<|lp (.bool true) (pu_pickT (q:=(decide (l<0))) rfl hq44 rfl)<|lp (.bool true) (pu_assign rfl)<|ln ?_
 exact hK41 _ _ ⟨true,e0,e1,e2,e6,e7,e8,rfl,hC.sE [1,0],hb⟩
 replace hb:=tf hq44 hb
 refine gp rfl rfl (decide (l<0)) rfl hq44 (iv l) (pu_move e2)<|gp rfl rfl (decide (l<0)) rfl hq44 (.slice x o.length p) (pu_move e0)<|gp rfl rfl (decide (l<0)) rfl hq44 (iv c) (pu_move e1) ?_
 obtain ⟨x45,h46,hb⟩:=bd hb
 obtain ⟨ad47,cs48,hA,hc49,hr50⟩:=hC.elr (i:=1) rfl (get_some h46).2
 subst hA
 refine gp rfl rfl (decide (l<0)) rfl hq44 (.pointer (some (ad47.add (c.toNat*1)))) (pu_index (a:=c) underlying28 sizeOf43 rfl rfl (get_some h46).1) ?_
 have hR:=hr50
 obtain ⟨A51,c52,rfl,hl53,hc54,_⟩:=hr50
 replace hC:=hC.ro hR
 clear hR
 refine gv rfl rfl (decide (l<0)) rfl hq44 (.slice A51 x45.length c52) (ld_one isAgg43 rfl (hc49 0 _ rfl))<|gp rfl rfl (decide (l<0)) rfl hq44 (iv (x45.length:Int)) (pu_len (A:=A51) (n:=x45.length) (m:=c52) underlying43 rfl)<|gp rfl rfl (decide (l<0)) rfl hq44 (.bool (decide ((x45.length:Int)≤l))) (pu_geq (k:=.i64) (a:=l) (b:=(x45.length:Int)) rfl rfl)<|lp (.bool (decide ((x45.length:Int)≤l))) (pu_pickF (q:=(decide (l<0))) rfl hq44 rfl)<|lp (.bool (decide ((x45.length:Int)≤l))) (pu_assign rfl)<|ln ?_
 exact hK41 _ _ ⟨(decide ((x45.length:Int)≤l)),e0,e1,e2,e6,e7,e8,rfl,hC.sE [2,1],hb⟩
 clear hb hC
 rintro E57 w56 ⟨z,e0,e1,e2,e6,e7,e8,e44,hC,hb⟩
 unfold F.law46_PolygonSubdivides_j0 at hb
 refine Wc.cond (t:=z) (e44) (fun hq58=>?_) (fun hq58=>?_)
 replace hb:=tt hq58 hb
 refine Wc.seq fun _ hK59=>rg<|lp _ (pu_move e8)<|lp (.bool (decide (y22.2=2))) (pu_eql (k:=.i64) (a:=y22.2) (b:=2) rfl rfl)<|lp (.bool (decide (y22.2=2))) (pu_move rfl) ?_
 rcases bS (decide (y22.2=2)) with hq60 | hq60
 replace hb:=tt hq60 hb
 refine gp rfl rfl (decide (y22.2=2)) rfl hq60 (.slice A24 y22.1.length c26) (pu_move e7)<|gp rfl rfl (decide (y22.2=2)) rfl hq60 (iv (y22.1.length:Int)) (pu_len (A:=A24) (n:=y22.1.length) (m:=c26) underlying28 rfl)<|gp rfl rfl (decide (y22.2=2)) rfl hq60 (.bool (decide ((y22.1.length:Int)=0))) (pu_eql (k:=.i64) (a:=(y22.1.length:Int)) (b:=0) rfl rfl)<|lp (.bool (decide ((y22.1.length:Int)=0))) (pu_pickT (q:=(decide (y22.2=2))) rfl hq60 rfl)<|lp (.bool (decide ((y22.1.length:Int)=0))) (pu_assign rfl)<|ln (hK59 _ _ ?_)
 obtain rfl:=os hb
 refine Wc.ret (hKR _ _ ?_)
 refine ⟨_,res1 results9 (tV (.bool (decide ((y22.1.length:Int)=0))) rfl),_,rfl,rfl,hC.sE []⟩
 replace hb:=tf hq60 hb
 refine gs rfl rfl (decide (y22.2=2)) rfl hq60<|gs rfl rfl (decide (y22.2=2)) rfl hq60<|gs rfl rfl (decide (y22.2=2)) rfl hq60<|lp (.bool false) (pu_pickF (q:=(decide (y22.2=2))) rfl hq60 rfl)<|lp (.bool false) (pu_assign rfl)<|ln (hK59 _ _ ?_)
 obtain rfl:=os hb
 refine Wc.ret (hKR _ _ ?_)
 refine ⟨_,res1 results9 (tV (.bool false) rfl),_,rfl,rfl,hC.sE []⟩
 replace hb:=tf hq58 hb
 refine Wc.skip (hK33 _ _ ?_)
 refine Wc.seq fun _ hK61=>?_
 refine Wc.regionAlt [76,79,83,89,93] (frm [76,79,83,89,93] ([]:List Fact) ([]:List Fact)) 21 (fun _=>rfl) mixed (by decide+kernel) (by decide+kernel) (pl:=(chainP [0,1,2,3,4,5,6,7,8,9,10,11,12,13,14,15,16,17,18,19,20] (.alt (chainP [21] (chainP [22,23,24] .done)) (chainP [22] (chainP [21,23,24] .done))))) rfl fun w63 hw62=>?_
 replace hC:=hC.step (Fr.of_drew hw62)
 have hM:=Fr.refl (fun k=>k∈blocks ([]:List Fact)) w63
 clear hw62
 have hS:=hC
 have hD:Fr (fun k=>k∈blocks (([]:List Fact)++([]:List Fact))) w63 w63:=hM.wide
 refine mixPE_chain ?_
 refine mp (.slice x o.length p) (pu_move e0)<|mp (iv c) (pu_move e1) ?_
 obtain ⟨x64,h65,hb⟩:=bd hb
 obtain ⟨ad66,cs67,hA,ho70,hc68,hr69⟩:=hS.elr2 (i:=0) rfl (get_some h65).2 []
 subst hA
 refine mp (.pointer (some (ad66.add (c.toNat*1)))) (pu_index (a:=c) underlying28 sizeOf43 rfl rfl (get_some h65).1) ?_
 have hR:=hr69
 obtain ⟨A71,c72,rfl,hl73,hc74,_⟩:=hr69
 replace hS:=hS.ro hR
 replace hC:=hC.ro hR
 clear hR
 refine mixE.steady hD (v:=.slice A71 x64.length c72) (fun _ hF=>ld_one isAgg43 rfl (hF.cell (hc68 0 _ rfl) (off1 ho70)))<|mp (iv l) (pu_move e2) ?_
 obtain ⟨x76,h77,hb⟩:=bd hb
 obtain ⟨ad78,cs79,hA,ho82,hc80,hr81⟩:=hS.elr2 (i:=0) rfl (get_some h77).2 []
 subst hA
 refine mp (.pointer (some (ad78.add (l.toNat*3)))) (pu_index (a:=l) underlying43 sizeOf23 rfl rfl (get_some h77).1) ?_
 obtain ⟨k83,k84,rfl,hr85,hr86⟩:=hr81
 obtain ⟨rfl,hr85⟩:=hr85
 obtain ⟨k87,k88,rfl,hr89,hr90⟩:=hr86
 obtain ⟨rfl,hr89⟩:=hr89
 obtain ⟨rfl,hr90⟩:=hr90
 refine mixE.steady hD (v:=.agg #[iv x76.1,iv x76.2.1,iv x76.2.2]) (fun _ hF=>ld_agg isAgg23 sizeOf23 rfl rfl (fun j u hu=>hF.cell (hc80 j u hu) (off2 ho82)))<|mp (.slice (some ad66) o.length p) (pu_move e0)<|mp (iv c) (pu_move e1) ?_
 obtain ⟨x91,h92,hb⟩:=bd hb
 obtain ⟨ad93,cs94,hA,ho97,hc95,hr96⟩:=hS.elr2 (i:=1) rfl (get_some h92).2 []
 obtain rfl:=Option.some.inj hA
 refine mp (.pointer (some (ad66.add (c.toNat*1)))) (pu_index (a:=c) underlying28 sizeOf43 rfl rfl (get_some h92).1) ?_
 have hR:=hr96
 obtain ⟨A98,c99,rfl,hl100,hc101,_⟩:=hr96
 replace hS:=hS.ro hR
 replace hC:=hC.ro hR
 clear hR
 refine mixE.steady hD (v:=.slice A98 x91.length c99) (fun _ hF=>ld_one isAgg43 rfl (hF.cell (hc95 0 _ rfl) (off1 ho97)))<|mp (iv l) (pu_move e2) ?_
 obtain ⟨z103,h104,hb⟩:=bd hb
 refine mp (iv z103) (pu_addc (a:=l) (b:=1) rfl rfl h104)<|mp (.slice (some ad66) o.length p) (pu_move e0)<|mp (iv c) (pu_move e1) ?_
 obtain ⟨x105,h106,hb⟩:=bd hb
 obtain ⟨ad107,cs108,hA,ho111,hc109,hr110⟩:=hS.elr2 (i:=2) rfl (get_some h106).2 []
 obtain rfl:=Option.some.inj hA
 refine mp (.pointer (some (ad66.add (c.toNat*1)))) (pu_index (a:=c) underlying28 sizeOf43 rfl rfl (get_some h106).1) ?_
 have hR:=hr110
 obtain ⟨A112,c113,rfl,hl114,hc115,_⟩:=hr110
 replace hS:=hS.ro hR
 replace hC:=hC.ro hR
 clear hR
 refine mixE.steady hD (v:=.slice A112 x105.length c113) (fun _ hF=>ld_one isAgg43 rfl (hF.cell (hc109 0 _ rfl) (off1 ho111)))<|mp (iv (x105.length:Int)) (pu_len (A:=A112) (n:=x105.length) (m:=c113) underlying43 rfl) ?_
 obtain ⟨u117,h118,hb⟩:=bd hb
 refine mp (iv (Int.tmod z103 (x105.length:Int))) (pu_remc (a:=z103) (b:=(x105.length:Int)) rfl rfl h118) ?_
 obtain ⟨x119,h120,hb⟩:=bd hb
 obtain ⟨ad121,cs122,hA,ho125,hc123,hr124⟩:=hS.elr2 (i:=1) rfl (get_some h120).2 []
 subst hA
 refine mp (.pointer (some (ad121.add ((Int.tmod z103 (x105.length:Int)).toNat*3)))) (pu_index (a:=(Int.tmod z103 (x105.length:Int))) underlying43 sizeOf23 rfl rfl (get_some h120).1) ?_
 obtain ⟨k126,k127,rfl,hr128,hr129⟩:=hr124
 obtain ⟨rfl,hr128⟩:=hr128
 obtain ⟨k130,k131,rfl,hr132,hr133⟩:=hr129
 obtain ⟨rfl,hr132⟩:=hr132
 obtain ⟨rfl,hr133⟩:=hr133
 refine mixE.steady hD (v:=.agg #[iv x119.1,iv x119.2.1,iv x119.2.2]) (fun _ hF=>ld_agg isAgg23 sizeOf23 rfl rfl (fun j u hu=>hF.cell (hc123 j u hu) (off2 ho125)))<|mixE.nil ?_
 refine mixPE_alt ?_ ?_
 refine mixPE_chain ?_
 refine mixE.op hM (hC.alloc (cs:=[iv 0,iv 0,iv 0]) zeroValue23 rfl) ?_
 rintro _ w135 ⟨g134,rfl,hC,hF,hG⟩
 have hUf136:g134<w63.heap.size→g134∈blocks (([]:List Fact)++([]:List Fact)):=fun h=>absurd (Nat.lt_of_lt_of_le h (Nat.le_trans hM.size hG)) (Nat.lt_irrefl _)
 clear hG
 replace hM:=hM.none hF
 replace hD:=hM.wide (H:=([]:List Fact))
 refine ⟨hM,?_⟩
 refine mixE.nil ?_
 refine mixPE_chain ?_
 refine mixE.op hM (hC.alloc (cs:=[iv 0,iv 0,iv 0]) zeroValue23 rfl) ?_
 rintro _ w138 ⟨g137,rfl,hC,hF,hG⟩
 have hUf139:g137<w63.heap.size→g137∈blocks (([]:List Fact)++([]:List Fact)):=fun h=>absurd (Nat.lt_of_lt_of_le h (Nat.le_trans hM.size hG)) (Nat.lt_irrefl _)
 clear hG
 replace hM:=hM.none hF
 replace hD:=hM.wide (H:=([]:List Fact))
 refine ⟨hM,?_⟩
 refine mixE.sk hD (hC.seta (i:=1) (ds:=[iv x76.1,iv x76.2.1,iv x76.2.2]) rfl type23 rfl rfl rfl rfl rfl) ?_
 rintro w140 ⟨hC,hF⟩
 replace hD:=hD.besideG hUf136 hF
 clear hF
 refine ⟨hD,?_⟩
 refine mixE.sk hD (hC.seta (i:=0) (ds:=[iv x119.1,iv x119.2.1,iv x119.2.2]) rfl type23 rfl rfl rfl rfl rfl) ?_
 rintro w141 ⟨hC,hF⟩
 replace hD:=hD.besideG hUf139 hF
 clear hF
 refine ⟨hD,?_⟩
 refine mixE.nil ?_
 clear hS hM
 clear hD
 refine hK61 _ _<|Wc.fresh fun E142 hE=>?_
 have e0:=cg hE 0 e0
 have e1:=cg hE 1 e1
 have e2:=cg hE 2 e2
 have e6:=cg hE 6 e6
 have e7:=cg hE 7 e7
 have e8:=cg hE 8 e8
 have e9:E142 9=pg g134:=cg hE 9 rfl
 have e10:E142 10=pg g137:=cg hE 10 rfl
 clear hE
 refine Wc.seq fun _ hK143=>?_
 refine Wc.seq fun _ hK144=>rg<|lv (.agg #[iv x76.1,iv x76.2.1,iv x76.2.2]) (ld_blk (hC.bx (i:=1) rfl) isAgg23 sizeOf23 e9)<|lv (.agg #[iv x119.1,iv x119.2.1,iv x119.2.2]) (ld_blk (hC.bx (i:=0) rfl) isAgg23 sizeOf23 e10) ?_
 obtain ⟨y145,h146,hb⟩:=bd hb
 refine lex.cl (⟨_,_,op_call (vs:=[.agg #[iv x76.1,iv x76.2.1,iv x76.2.2],.agg #[iv x119.1,iv x119.2.1,iv x119.2.2]]) call34 rfl rfl rfl,ref46_Even_ok n hC.lt (wrap_I64 hr85) (wrap_I64 hr89) (wrap_I64 hr90) (wrap_I64 hr128) (wrap_I64 hr132) (wrap_I64 hr133) h146⟩) ?_
 rintro _ w147 ⟨rfl,hK⟩
 replace hC:=hC.merge hK
 clear hK
 refine lp (.bool (!y145)) (pu_not (q:=y145) rfl)<|ln (hK144 _ _ ?_)
 refine Wc.cond (t:=(!y145)) (rfl) (fun hq148=>?_) (fun hq148=>?_)
 replace hb:=tt hq148 hb
 refine Wc.seq fun _ hK149=>rg<|lp _ (pu_move e8)<|lp (.bool (decide (y22.2=10))) (pu_eql (k:=.i64) (a:=y22.2) (b:=10) rfl rfl)<|lp (.bool (decide (y22.2=10))) (pu_move rfl) ?_
 rcases bS (decide (y22.2=10)) with hq150 | hq150
 replace hb:=tt hq150 hb
 refine gp rfl rfl (decide (y22.2=10)) rfl hq150 (.slice A24 y22.1.length c26) (pu_move e7)<|gp rfl rfl (decide (y22.2=10)) rfl hq150 (iv (y22.1.length:Int)) (pu_len (A:=A24) (n:=y22.1.length) (m:=c26) underlying28 rfl)<|gp rfl rfl (decide (y22.2=10)) rfl hq150 (.bool (decide ((y22.1.length:Int)=0))) (pu_eql (k:=.i64) (a:=(y22.1.length:Int)) (b:=0) rfl rfl)<|lp (.bool (decide ((y22.1.length:Int)=0))) (pu_pickT (q:=(decide (y22.2=10))) rfl hq150 rfl)<|lp (.bool (decide ((y22.1.length:Int)=0))) (pu_assign rfl)<|ln (hK149 _ _ ?_)
 obtain rfl:=os hb
 refine Wc.ret (hKR _ _ ?_)
 refine ⟨_,res1 results9 (tV (.bool (decide ((y22.1.length:Int)=0))) rfl),_,rfl,rfl,hC.sE []⟩
 replace hb:=tf hq150 hb
 refine gs rfl rfl (decide (y22.2=10)) rfl hq150<|gs rfl rfl (decide (y22.2=10)) rfl hq150<|gs rfl rfl (decide (y22.2=10)) rfl hq150<|lp (.bool false) (pu_pickF (q:=(decide (y22.2=10))) rfl hq150 rfl)<|lp (.bool false) (pu_assign rfl)<|ln (hK149 _ _ ?_)
 obtain rfl:=os hb
 refine Wc.ret (hKR _ _ ?_)
 refine ⟨_,res1 results9 (tV (.bool false) rfl),_,rfl,rfl,hC.sE []⟩
 replace hb:=tf hq148 hb
 refine Wc.skip (hK143 _ _ ?_)
 refine Wc.seq fun _ hK151=>?_
 refine Wc.seq fun _ hK152=>rg<|lp _ (pu_move e8)<|lp (.bool (!(decide (y22.2=0)))) (pu_neq (k:=.i64) (a:=y22.2) (b:=0) rfl rfl)<|lp (.bool (!(decide (y22.2=0)))) (pu_move rfl) ?_
 rcases bS (!(decide (y22.2=0))) with hq153 | hq153
 replace hb:=tt hq153 hb
 refine gs rfl rfl (!(decide (y22.2=0))) rfl hq153<|gs rfl rfl (!(decide (y22.2=0))) rfl hq153<|gs rfl rfl (!(decide (y22.2=0))) rfl hq153<|gs rfl rfl (!(decide (y22.2=0))) rfl hq153<|gs rfl rfl (!(decide (y22.2=0))) rfl hq153<|lp (.bool true) (pu_pickT (q:=(!(decide (y22.2=0)))) rfl hq153 rfl)<|ln (hK152 _ _ ?_)
 refine Wc.cond_true (rfl) ?_
 refine Wc.seq fun _ hK154=>rg<|lp (.bool false) (pu_assign rfl)<|ln (hK154 _ _ ?_)
 obtain rfl:=os hb
 refine Wc.ret (hKR _ _ ?_)
 refine ⟨_,res1 results9 (tV (.bool false) rfl),_,rfl,rfl,hC.sE []⟩
 replace hb:=tf hq153 hb
 refine gp rfl rfl (!(decide (y22.2=0))) rfl hq153 (.slice A24 y22.1.length c26) (pu_move e7)<|gp rfl rfl (!(decide (y22.2=0))) rfl hq153 (iv (y22.1.length:Int)) (pu_len (A:=A24) (n:=y22.1.length) (m:=c26) underlying28 rfl)<|gp rfl rfl (!(decide (y22.2=0))) rfl hq153 (.slice (some ad66) o.length p) (pu_move e0)<|gp rfl rfl (!(decide (y22.2=0))) rfl hq153 (iv (o.length:Int)) (pu_len (A:=(some ad66)) (n:=o.length) (m:=p) underlying28 rfl)<|gp rfl rfl (!(decide (y22.2=0))) rfl hq153 (.bool (!(decide ((y22.1.length:Int)=(o.length:Int))))) (pu_neq (k:=.i64) (a:=(y22.1.length:Int)) (b:=(o.length:Int)) rfl rfl)<|lp (.bool (!(decide ((y22.1.length:Int)=(o.length:Int))))) (pu_pickF (q:=(!(decide (y22.2=0)))) rfl hq153 rfl)<|ln (hK152 _ _ ?_)
 refine Wc.cond (t:=(!(decide ((y22.1.length:Int)=(o.length:Int))))) (rfl) (fun hq155=>?_) (fun hq155=>?_)
 replace hb:=tt hq155 hb
 refine Wc.seq fun _ hK156=>rg<|lp (.bool false) (pu_assign rfl)<|ln (hK156 _ _ ?_)
 obtain rfl:=os hb
 refine Wc.ret (hKR _ _ ?_)
 refine ⟨_,res1 results9 (tV (.bool false) rfl),_,rfl,rfl,hC.sE []⟩
 replace hb:=tf hq155 hb
 refine Wc.skip (hK151 _ _ ?_)
 refine Wc.fresh fun E157 hE=>?_
 have e0:=cg hE 0 e0
 have e1:=cg hE 1 e1
 have e2:=cg hE 2 e2
 have e6:=cg hE 6 e6
 have e7:=cg hE 7 e7
 have e9:=cg hE 9 e9
 have e10:=cg hE 10 e10
 clear hE
 refine Wc.seq fun _ hK158=>?_
 refine Wc.seq fun _ hK159=>rg<|lp _ (pu_move e0)<|lp (iv (o.length:Int)) (pu_len (A:=(some ad66)) (n:=o.length) (m:=p) underlying28 rfl)<|lp (iv 0) (pu_move rfl)<|ln (hK159 _ _ ?_)
 obtain ⟨o160,hl1,hb⟩:=bd hb
 refine Wc.cut (fun E wv=> ∃(d:Int),E 0=.slice (some ad66) o.length p∧E 6=.bool false∧E 7=.slice A24 y22.1.length c26∧I64 d∧Cx (fun _=>False) O0 w wv [.ro (.sl (.sl (.pr si (.pr si si)))) [.slice (some ad66) o.length p] o,.ro (.sl (.sl (.pr si (.pr si si)))) [.slice A24 y22.1.length c26] y22.1]∧((F.polygon_Project n o).bind fun y265=>(F.polygon_Project n y22.1).bind fun y287=>cond (!(decide (y265.2.2.2=0))) (some true) (cond (decide (y287.2.2.2=15)) (some true) (cond (decide (y287.2.2.2=0)) ((F.diagram_Equal n y287.1 y287.2.1 y287.2.2.1 y265.1 y265.2.1 y265.2.2.1).bind fun y313=>some y313) (some false))):Option (Bool))=some r) (fun _ hK161=>?_) ?_
 refine Wc.block ?_
 refine Wc.loop (fun m E wv=> ∃(d:Int),E 0=.slice (some ad66) o.length p∧E 1=iv c∧E 2=iv l∧E 6=.bool false∧E 7=.slice A24 y22.1.length c26∧E 9=pg g134∧E 10=pg g137∧E 114=.slice (some ad66) o.length p∧E 115=iv (o.length:Int)∧E 116=iv d∧I64 d∧Cx (fun _=>False) O0 w wv [.ro (.sl (.sl (.pr si (.pr si si)))) [.slice (some ad66) o.length p] o,.ro (.sl (.sl (.pr si (.pr si si)))) [.slice A24 y22.1.length c26] y22.1,.box g134 23 [iv x76.1,iv x76.2.1,iv x76.2.2],.box g137 23 [iv x119.1,iv x119.2.1,iv x119.2.2]]∧loopN m (F.law46_PolygonSubdivides_b1 n o c l y22 x76 x119) d=some o160) n ⟨0,e0,e1,e2,e6,e7,e9,e10,rfl,rfl,rfl,(show I64 0 from by unfold I64; omega),hC.sE [5,6,1,0],hl1⟩ ?_
 have hbK1:=hb
 clear hb hC hl1
 rintro m163 E165 w164 ⟨d,e0,e1,e2,e6,e7,e9,e10,e114,e115,e116,y,hC,hl1⟩ K162 hK162
 obtain ⟨m163',o166,rfl,hb,hl1⟩:=loopN_some hl1
 unfold F.law46_PolygonSubdivides_b1 at hb
 refine Wc.seq fun _ hK167=>rg<|lp _ (pu_lss e116 e115)<|ln (hK167 _ _ ?_)
 refine Wc.seq fun _ hK168=>?_
 refine Wc.cond (t:=(decide (d<(o.length:Int)))) (rfl) (fun hq169=>?_) (fun hq169=>?_)
 replace hb:=tt hq169 hb
 refine Wc.skip (hK168 _ _ ?_)
 refine Wc.seq fun _ hK170=>?_
 refine Wc.block<|Wc.seq fun _ hK171=>rg<|lp _ (pu_move e116) ?_
 obtain ⟨x172,h173,hb⟩:=bd hb
 obtain ⟨ad174,cs175,hA,hc176,hr177⟩:=hC.elr (i:=0) rfl (get_some h173).2
 obtain rfl:=Option.some.inj hA
 refine lp (.pointer (some (ad66.add (d.toNat*1)))) (pu_index (a:=d) underlying28 sizeOf43 e114 e116 (get_some h173).1) ?_
 have hR:=hr177
 obtain ⟨A178,c179,rfl,hl180,hc181,_⟩:=hr177
 replace hC:=hC.ro hR
 clear hR
 refine lv (.slice A178 x172.length c179) (ld_one isAgg43 rfl (hc176 0 _ rfl))<|lp (iv d) (pu_assign rfl)<|lp (.slice A178 x172.length c179) (pu_assign rfl)<|ln (hK171 _ _ ?_)
 refine Wc.seq fun _ hK183=>rg<|lp (.slice A178 x172.length c179) (pu_move rfl)<|lp (.slice A178 x172.length c179) (pu_assign rfl)<|ln (hK183 _ _ ?_)
 refine Wc.seq fun _ hK184=>?_
 refine Wc.seq fun _ hK185=>rg<|lp (iv d) (pu_move rfl)<|lp _ (pu_move e1)<|lp (.bool (decide (d=c))) (pu_eql (k:=.i64) (a:=d) (b:=c) rfl rfl)<|ln (hK185 _ _ ?_)
 refine Wc.fresh fun E186 hE=>?_
 have e0:=cg hE 0 e0
 have e1:=cg hE 1 e1
 have e2:=cg hE 2 e2
 have e6:=cg hE 6 e6
 have e7:=cg hE 7 e7
 have e9:=cg hE 9 e9
 have e10:=cg hE 10 e10
 have e11:E186 11=iv d:=cg hE 11 rfl
 have e12:E186 12=.slice A178 x172.length c179:=cg hE 12 rfl
 have e13:E186 13=.slice A178 x172.length c179:=cg hE 13 rfl
 have e114:=cg hE 114 e114
 have e115:=cg hE 115 e115
 have e116:=cg hE 116 e116
 have e117:E186 117=.bool (decide (d<(o.length:Int))):=cg hE 117 rfl
 have e124:E186 124=.bool (decide (d=c)):=cg hE 124 rfl
 clear hE
 refine Wc.cond (t:=(decide (d=c))) (e124) (fun hq187=>?_) (fun hq187=>?_)
 replace hb:=tt hq187 hb
 refine Wc.regionMix [] (frm [] ([]:List Fact) ([]:List Fact)) (fun _=>rfl) mixed (by decide+kernel) (by decide+kernel) fun w189 hw188=>?_
 replace hC:=hC.step (Fr.of_drew hw188)
 have hM:=Fr.refl (fun k=>k∈blocks ([]:List Fact)) w189
 clear hw188
 have hS:=hC
 refine mp (.slice A178 x172.length c179) (pu_move e12) ?_
 obtain ⟨y190,h191,hb⟩:=bd hb
 refine mixE.cl hM (⟨_,_,op_call (vs:=[.slice A178 x172.length c179]) call36 rfl rfl rfl,slices_Clone_Point_Point_ok n hC.lt (hC.rd (i:=0) rfl) h191⟩) ?_
 rintro _ w196 ⟨A192,m193,c194,rfl,hK⟩
 have hBf195:=Beside.cl (i:=0) hM hK rfl
 replace hM:=hM.none hK.fr
 refine ⟨hM,?_⟩
 replace hC:=hC.merge hK
 clear hK
 obtain ⟨rfl,hl197,hc198⟩:=(hC.ow (i:=0) rfl).sl_len
 refine mp (iv l) (pu_move e2) ?_
 obtain ⟨z199,h200,hb⟩:=bd hb
 refine mp (iv z199) (pu_addc (a:=l) (b:=1) rfl rfl h200)<|mixE.load hM (v:=.agg #[iv x76.1,iv x76.2.1,iv x76.2.2]) (fun _ hF=>ld_blk (hS.bx2 (i:=3) rfl [] (by decide) hF) isAgg23 sizeOf23 e9)<|mixE.load hM (v:=.agg #[iv x119.1,iv x119.2.1,iv x119.2.2]) (fun _ hF=>ld_blk (hS.bx2 (i:=4) rfl [] (by decide) hF) isAgg23 sizeOf23 e10) ?_
 obtain ⟨y201,h202,hb⟩:=bd hb
 refine mixE.cl hM (⟨_,_,op_call (vs:=[.agg #[iv x76.1,iv x76.2.1,iv x76.2.2],.agg #[iv x119.1,iv x119.2.1,iv x119.2.2]]) call37 rfl rfl rfl,ref46_Middle_ok n hC.lt (wrap_I64 hr85) (wrap_I64 hr89) (wrap_I64 hr90) (wrap_I64 hr128) (wrap_I64 hr132) (wrap_I64 hr133) h202⟩) ?_
 rintro _ w206 ⟨rfl,hr203,hr204,hr205,hK⟩
 replace hM:=hM.none hK.fr
 refine ⟨hM,?_⟩
 replace hC:=hC.merge hK
 clear hK
 refine mixE.op hM (hC.lit (s:=(.pr si (.pr si si))) (vs:=[.agg #[iv y201.1,iv y201.2.1,iv y201.2.2]]) (xs:=[(y201.1,(y201.2.1,y201.2.2))]) underlying43 type23 rfl rfl (nb rfl) rfl rfl (by simp [Value.cells,Sh.n]) rfl (show Elems _ _ (.pr si (.pr si si)) ([iv y201.1,iv y201.2.1,iv y201.2.2]++([])) ([(y201.1,(y201.2.1,y201.2.2))]:List (Int×(Int×Int))) from Elems.cons (⟨[iv y201.1],[iv y201.2.1,iv y201.2.2],rfl,⟨rfl,I64.wr hr203⟩,⟨[iv y201.2.1],[iv y201.2.2],rfl,⟨rfl,I64.wr hr204⟩,⟨rfl,I64.wr hr205⟩⟩⟩) (Elems.nil _ _ _))) ?_
 rintro _ w211 ⟨A207,c208,rfl,hl209,hc210,hC,hF,hN⟩
 have hBf212:=Beside.new hM hN
 replace hM:=hM.none hF
 refine ⟨hM,?_⟩
 clear hF hN
 replace hC:Cx (fun _=>False) O0 w w211 ([.own 23 (.pr si (.pr si si)) (.slice A192 y190.length c194) y190,.own 23 (.pr si (.pr si si)) (.slice A207 ((([(y201.1,(y201.2.1,y201.2.2))]:List (Int×(Int×Int)))).length) c208) ([(y201.1,(y201.2.1,y201.2.2))]:List (Int×(Int×Int)))]++[.ro (.sl (.pr si (.pr si si))) [.slice A178 x172.length c179] x172,.ro (.sl (.sl (.pr si (.pr si si)))) [.slice (some ad66) o.length p] o,.ro (.sl (.sl (.pr si (.pr si si)))) [.slice A24 y22.1.length c26] y22.1,.box g134 23 [iv x76.1,iv x76.2.1,iv x76.2.2],.box g137 23 [iv x119.1,iv x119.2.1,iv x119.2.2]]):=hC.sE [1,0,2,3,4,5,6]
 obtain ⟨y213,h214,hb⟩:=bd hb
 refine mixE.cl hM (⟨_,_,op_call (vs:=[.slice A192 y190.length c194,iv z199,.slice A207 ((([(y201.1,(y201.2.1,y201.2.2))]:List (Int×(Int×Int)))).length) c208]) call35 rfl rfl rfl,slices_Insert_Point_Point_ok n hC.lt (chk_rng h200) hC.give h214⟩) ?_
 rintro _ w219 ⟨A215,m216,c217,rfl,hK⟩
 have hL220: ∀f∈([.own 23 (.pr si (.pr si si)) (.slice A192 y190.length c194) y190,.own 23 (.pr si (.pr si si)) (.slice A207 ((([(y201.1,(y201.2.1,y201.2.2))]:List (Int×(Int×Int)))).length) c208) ([(y201.1,(y201.2.1,y201.2.2))]:List (Int×(Int×Int)))]:List Fact),∀g,g<w189.heap.size→f.blk=some g→g∈blocks ([]:List Fact):=List.forall_mem_cons.2 ⟨hBf195,List.forall_mem_cons.2 ⟨hBf212,fun _ h=>absurd h List.not_mem_nil⟩⟩
 have hBf218:=Beside.io (i:=0) hM hL220 hK rfl
 replace hM:=hM.besideL hL220 hK.fr
 refine ⟨hM,?_⟩
 replace hC:=hC.back hK
 clear hK
 obtain ⟨rfl,hl221,hc222⟩:=(hC.ow (i:=0) rfl).sl_len
 refine mp (.slice A215 y213.length c217) (pu_assign rfl)<|mixE.nil ?_
 clear hS hM
 refine hK184 _ _<|Wc.fresh fun E223 hE=>?_
 have e0:=cg hE 0 e0
 have e1:=cg hE 1 e1
 have e2:=cg hE 2 e2
 have e6:=cg hE 6 e6
 have e7:=cg hE 7 e7
 have e9:=cg hE 9 e9
 have e10:=cg hE 10 e10
 have e11:=cg hE 11 e11
 have e12:=cg hE 12 e12
 have e13:E223 13=.slice A215 y213.length c217:=cg hE 13 rfl
 have e114:=cg hE 114 e114
 have e115:=cg hE 115 e115
 have e116:=cg hE 116 e116
 have e117:=cg hE 117 e117
 have e124:=cg hE 124 e124
 clear hE
 refine Wc.seq fun _ hK224=>rg<|lp _ (pu_move e7)<|lp _ (pu_move e11) ?_
 obtain ⟨x225,h226,hb⟩:=bd hb
 obtain ⟨ad227,cs228,hA,hc229,hr230⟩:=hC.elr (i:=3) rfl (get_some h226).2
 subst hA
 refine lp (.pointer (some (ad227.add (d.toNat*1)))) (pu_index (a:=d) underlying28 sizeOf43 rfl rfl (get_some h226).1) ?_
 have hR:=hr230
 obtain ⟨A231,c232,rfl,hl233,hc234,_⟩:=hr230
 replace hC:=hC.ro hR
 clear hR
 refine lv (.slice A231 x225.length c232) (ld_one isAgg43 rfl (hc229 0 _ rfl))<|lp _ (pu_move e13) ?_
 obtain ⟨y236,h237,hb⟩:=bd hb
 refine lex.cl (⟨_,_,op_call (vs:=[.slice A231 x225.length c232,.slice A215 y213.length c217]) call38 rfl rfl rfl,slices_Equal_Point_Point_ok n (hC.lentLt [.slice A215 y213.length c217]) ((hC.rd (i:=0) rfl).lent [.slice A215 y213.length c217]) ((hC.ow (i:=1) rfl).lend (vs:=[.slice A215 y213.length c217]) (by simp)) h237⟩) ?_
 rintro _ w238 ⟨rfl,hK⟩
 replace hC:=hC.mergeF hK rfl
 clear hK
 refine lp (.bool (!y236)) (pu_not (q:=y236) rfl)<|ln (hK224 _ _ ?_)
 refine Wc.cond (t:=(!y236)) (rfl) (fun hq239=>?_) (fun hq239=>?_)
 replace hb:=tt hq239 hb
 refine Wc.seq fun _ hK240=>rg<|lp (.bool false) (pu_assign rfl)<|ln (hK240 _ _ ?_)
 obtain rfl:=os hb
 obtain rfl:=(lX hl1).symm
 replace hb:=hbK1
 obtain rfl:=os hb
 refine Wc.ret (hKR _ _ ?_)
 refine ⟨_,res1 results9 (tV (.bool false) rfl),_,rfl,rfl,hC.sE []⟩
 replace hb:=tf hq239 hb
 refine Wc.skip (hK170 _ _ ?_)
 refine rg ?_
 obtain ⟨z241,h242,hb⟩:=bd hb
 refine lp (iv z241) (pu_addc (a:=d) (b:=1) e116 rfl h242)<|lp (iv z241) (pu_move rfl)<|ln ?_
 obtain rfl:=os hb
 exact hK162 m163' _ _ (Nat.lt_succ_self _) ⟨z241,e0,e1,e2,e6,e7,e9,e10,e114,e115,rfl,(chk_rng h242),hC.sE [3,4,5,6],lN hl1⟩
 replace hb:=tf hq187 hb
 refine Wc.skip (hK184 _ _ ?_)
 refine Wc.seq fun _ hK243=>rg<|lp _ (pu_move e7)<|lp _ (pu_move e11) ?_
 obtain ⟨x244,h245,hb⟩:=bd hb
 obtain ⟨ad246,cs247,hA,hc248,hr249⟩:=hC.elr (i:=2) rfl (get_some h245).2
 subst hA
 refine lp (.pointer (some (ad246.add (d.toNat*1)))) (pu_index (a:=d) underlying28 sizeOf43 rfl rfl (get_some h245).1) ?_
 have hR:=hr249
 obtain ⟨A250,c251,rfl,hl252,hc253,_⟩:=hr249
 replace hC:=hC.ro hR
 clear hR
 refine lv (.slice A250 x244.length c251) (ld_one isAgg43 rfl (hc248 0 _ rfl))<|lp _ (pu_move e13) ?_
 obtain ⟨y255,h256,hb⟩:=bd hb
 refine lex.cl (⟨_,_,op_call (vs:=[.slice A250 x244.length c251,.slice A178 x172.length c179]) call38 rfl rfl rfl,slices_Equal_Point_Point_ok n hC.lt (hC.rd (i:=0) rfl) (hC.rd (i:=1) rfl) h256⟩) ?_
 rintro _ w257 ⟨rfl,hK⟩
 replace hC:=hC.merge hK
 clear hK
 refine lp (.bool (!y255)) (pu_not (q:=y255) rfl)<|ln (hK243 _ _ ?_)
 refine Wc.cond (t:=(!y255)) (rfl) (fun hq258=>?_) (fun hq258=>?_)
 replace hb:=tt hq258 hb
 refine Wc.seq fun _ hK259=>rg<|lp (.bool false) (pu_assign rfl)<|ln (hK259 _ _ ?_)
 obtain rfl:=os hb
 obtain rfl:=(lX hl1).symm
 replace hb:=hbK1
 obtain rfl:=os hb
 refine Wc.ret (hKR _ _ ?_)
 refine ⟨_,res1 results9 (tV (.bool false) rfl),_,rfl,rfl,hC.sE []⟩
 replace hb:=tf hq258 hb
 refine Wc.skip (hK170 _ _ ?_)
 refine rg ?_
 obtain ⟨z260,h261,hb⟩:=bd hb
 refine lp (iv z260) (pu_addc (a:=d) (b:=1) e116 rfl h261)<|lp (iv z260) (pu_move rfl)<|ln ?_
 obtain rfl:=os hb
 exact hK162 m163' _ _ (Nat.lt_succ_self _) ⟨z260,e0,e1,e2,e6,e7,e9,e10,e114,e115,rfl,(chk_rng h261),hC.sE [2,3,4,5],lN hl1⟩
 replace hb:=tf hq169 hb
 refine Wc.exit rfl ?_
 obtain rfl:=os hb
 obtain rfl:=(lX hl1).symm
 exact hK161 _ _ ⟨d,e0,e6,e7,y,hC.sE [0,1],hbK1⟩
 clear hb hC hl1
 rintro E263 w262 ⟨d,e0,e6,e7,y,hC,hb⟩
 refine hK158 _ _<|Wc.seq fun _ hK264=>rg<|lp _ (pu_move e0) ?_
 obtain ⟨y265,h266,hb⟩:=bd hb
 refine lex.cl (⟨_,_,op_call (vs:=[.slice (some ad66) o.length p]) call15 rfl rfl rfl,polygon_Project_ok n hC.lt (hC.rd (i:=0) rfl) h266⟩) ?_
 rintro _ w277 ⟨A267,m268,c269,A271,m272,c273,rfl,hr275,hr276,hK⟩
 replace hC:=hC.merge hK
 clear hK
 obtain ⟨rfl,hl278,hc279⟩:=(hC.ow (i:=0) rfl).sl_len
 obtain ⟨rfl,hl280,hc281⟩:=(hC.ow (i:=1) rfl).sl_len
 refine lp (.tuple #[.agg #[.slice A267 y265.1.length c269,.slice A271 y265.2.1.length c273,iv y265.2.2.1],iv y265.2.2.2]) (pu_move rfl)<|lp (.agg #[.slice A267 y265.1.length c269,.slice A271 y265.2.1.length c273,iv y265.2.2.1]) (pu_extract rfl rfl)<|lp (iv y265.2.2.2) (pu_extract rfl rfl)<|lex.op (hC.alloc (cs:=[.slice none 0 0,.slice none 0 0,iv 0]) zeroValue32 rfl) ?_
 rintro _ w283 ⟨g282,rfl,hC,hF,-⟩
 refine lex.sk (hC.seta (i:=0) (ds:=[.slice A267 y265.1.length c269,.slice A271 y265.2.1.length c273,iv y265.2.2.1]) rfl type32 rfl rfl rfl rfl rfl) ?_
 rintro w285 ⟨hC,hF⟩
 refine lp (iv y265.2.2.2) (pu_assign rfl)<|ln (hK264 _ _ ?_)
 refine Wc.seq fun _ hK286=>rg<|lp _ (pu_move e7) ?_
 obtain ⟨y287,h288,hb⟩:=bd hb
 refine lex.cl (⟨_,_,op_call (vs:=[.slice A24 y22.1.length c26]) call15 rfl rfl rfl,polygon_Project_ok n hC.lt (hC.rd (i:=4) rfl) h288⟩) ?_
 rintro _ w299 ⟨A289,m290,c291,A293,m294,c295,rfl,hr297,hr298,hK⟩
 replace hC:=hC.merge hK
 clear hK
 obtain ⟨rfl,hl300,hc301⟩:=(hC.ow (i:=0) rfl).sl_len
 obtain ⟨rfl,hl302,hc303⟩:=(hC.ow (i:=1) rfl).sl_len
 refine lp (.tuple #[.agg #[.slice A289 y287.1.length c291,.slice A293 y287.2.1.length c295,iv y287.2.2.1],iv y287.2.2.2]) (pu_move rfl)<|lp (.agg #[.slice A289 y287.1.length c291,.slice A293 y287.2.1.length c295,iv y287.2.2.1]) (pu_extract rfl rfl)<|lp (iv y287.2.2.2) (pu_extract rfl rfl)<|lex.op (hC.alloc (cs:=[.slice none 0 0,.slice none 0 0,iv 0]) zeroValue32 rfl) ?_
 rintro _ w305 ⟨g304,rfl,hC,hF,-⟩
 refine lex.sk (hC.seta (i:=0) (ds:=[.slice A289 y287.1.length c291,.slice A293 y287.2.1.length c295,iv y287.2.2.1]) rfl type32 rfl rfl rfl rfl rfl) ?_
 rintro w307 ⟨hC,hF⟩
 refine lp (iv y287.2.2.2) (pu_assign rfl)<|ln (hK286 _ _ ?_)
 refine Wc.fresh fun E308 hE=>?_
 have e6:=cg hE 6 e6
 have e14:E308 14=pg g282:=cg hE 14 rfl
 have e15:E308 15=iv y265.2.2.2:=cg hE 15 rfl
 have e16:E308 16=pg g304:=cg hE 16 rfl
 have e17:E308 17=iv y287.2.2.2:=cg hE 17 rfl
 clear hE
 refine Wc.seq fun _ hK309=>rg<|lp _ (pu_move e15)<|lp (.bool (!(decide (y265.2.2.2=0)))) (pu_neq (k:=.i64) (a:=y265.2.2.2) (b:=0) rfl rfl)<|lp (.bool (!(decide (y265.2.2.2=0)))) (pu_move rfl) ?_
 rcases bS (!(decide (y265.2.2.2=0))) with hq310 | hq310
 replace hb:=tt hq310 hb
 refine gs rfl rfl (!(decide (y265.2.2.2=0))) rfl hq310<|gs rfl rfl (!(decide (y265.2.2.2=0))) rfl hq310<|lp (.bool true) (pu_pickT (q:=(!(decide (y265.2.2.2=0)))) rfl hq310 rfl)<|lp (.bool true) (pu_move rfl)<|gs rfl rfl true rfl rfl<|gs rfl rfl true rfl rfl<|gs rfl rfl true rfl rfl ?_
 refine lex.gskip (want_n rfl rfl rfl) ?_
 refine lex.gskip (want_n rfl rfl rfl) ?_
 refine lex.gskip (want_n rfl rfl rfl) ?_
 refine gs rfl rfl true rfl rfl<|lp (.bool true) (pu_pickT (q:=true) rfl rfl rfl)<|lp (.bool true) (pu_assign rfl)<|ln (hK309 _ _ ?_)
 obtain rfl:=os hb
 refine Wc.ret (hKR _ _ ?_)
 refine ⟨_,res1 results9 (tV (.bool true) rfl),_,rfl,rfl,hC.sE []⟩
 replace hb:=tf hq310 hb
 refine gp rfl rfl (!(decide (y265.2.2.2=0))) rfl hq310 (iv y287.2.2.2) (pu_move e17)<|gp rfl rfl (!(decide (y265.2.2.2=0))) rfl hq310 (.bool (decide (y287.2.2.2=15))) (pu_eql (k:=.i64) (a:=y287.2.2.2) (b:=15) rfl rfl)<|lp (.bool (decide (y287.2.2.2=15))) (pu_pickF (q:=(!(decide (y265.2.2.2=0)))) rfl hq310 rfl)<|lp (.bool (decide (y287.2.2.2=15))) (pu_move rfl) ?_
 rcases bS (decide (y287.2.2.2=15)) with hq311 | hq311
 replace hb:=tt hq311 hb
 refine gs rfl rfl (decide (y287.2.2.2=15)) rfl hq311<|gs rfl rfl (decide (y287.2.2.2=15)) rfl hq311<|gs rfl rfl (decide (y287.2.2.2=15)) rfl hq311 ?_
 refine lex.gskip (want_n rfl rfl rfl) ?_
 refine lex.gskip (want_n rfl rfl rfl) ?_
 refine lex.gskip (want_n rfl rfl rfl) ?_
 refine gs rfl rfl (decide (y287.2.2.2=15)) rfl hq311<|lp (.bool true) (pu_pickT (q:=(decide (y287.2.2.2=15))) rfl hq311 rfl)<|lp (.bool true) (pu_assign rfl)<|ln (hK309 _ _ ?_)
 obtain rfl:=os hb
 refine Wc.ret (hKR _ _ ?_)
 refine ⟨_,res1 results9 (tV (.bool true) rfl),_,rfl,rfl,hC.sE []⟩
 replace hb:=tf hq311 hb
 refine gp rfl rfl (decide (y287.2.2.2=15)) rfl hq311 (iv y287.2.2.2) (pu_move e17)<|gp rfl rfl (decide (y287.2.2.2=15)) rfl hq311 (.bool (decide (y287.2.2.2=0))) (pu_eql (k:=.i64) (a:=y287.2.2.2) (b:=0) rfl rfl)<|gp rfl rfl (decide (y287.2.2.2=15)) rfl hq311 (.bool (decide (y287.2.2.2=0))) (pu_move rfl) ?_
 rcases bS (decide (y287.2.2.2=0)) with hq312 | hq312
 replace hb:=tt hq312 hb
 refine gv rfl rfl (decide (y287.2.2.2=0)) rfl hq312 (.agg #[.slice A289 y287.1.length c291,.slice A293 y287.2.1.length c295,iv y287.2.2.1]) (ld_blk (hC.bx (i:=0) rfl) isAgg32 sizeOf32 e16)<|gv rfl rfl (decide (y287.2.2.2=0)) rfl hq312 (.agg #[.slice A267 y265.1.length c269,.slice A271 y265.2.1.length c273,iv y265.2.2.1]) (ld_blk (hC.bx (i:=3) rfl) isAgg32 sizeOf32 e14) ?_
 obtain ⟨y313,h314,hb⟩:=bd hb
 refine lex.gcl (want_t rfl rfl (show _=Value.bool (decide (y287.2.2.2=0)) from rfl) hq312) (⟨_,_,op_call (vs:=[.agg #[.slice A289 y287.1.length c291,.slice A293 y287.2.1.length c295,iv y287.2.2.1],.agg #[.slice A267 y265.1.length c269,.slice A271 y265.2.1.length c273,iv y265.2.2.1]]) call26 rfl rfl rfl,diagram_Equal_ok n (hC.lentLt [.slice A267 y265.1.length c269,.slice A271 y265.2.1.length c273,.slice A289 y287.1.length c291,.slice A293 y287.2.1.length c295]) ((hC.ow (i:=1) rfl).lend (vs:=[.slice A267 y265.1.length c269,.slice A271 y265.2.1.length c273,.slice A289 y287.1.length c291,.slice A293 y287.2.1.length c295]) (by simp)) ((hC.ow (i:=2) rfl).lend (vs:=[.slice A267 y265.1.length c269,.slice A271 y265.2.1.length c273,.slice A289 y287.1.length c291,.slice A293 y287.2.1.length c295]) (by simp)) hr297 ((hC.ow (i:=4) rfl).lend (vs:=[.slice A267 y265.1.length c269,.slice A271 y265.2.1.length c273,.slice A289 y287.1.length c291,.slice A293 y287.2.1.length c295]) (by simp)) ((hC.ow (i:=5) rfl).lend (vs:=[.slice A267 y265.1.length c269,.slice A271 y265.2.1.length c273,.slice A289 y287.1.length c291,.slice A293 y287.2.1.length c295]) (by simp)) hr275 h314⟩) ?_
 rintro _ w315 ⟨rfl,hK⟩
 replace hC:=hC.mergeF hK rfl
 clear hK
 refine gp rfl rfl (decide (y287.2.2.2=15)) rfl hq311 (.bool y313) (pu_pickT (q:=(decide (y287.2.2.2=0))) rfl hq312 rfl)<|lp (.bool y313) (pu_pickF (q:=(decide (y287.2.2.2=15))) rfl hq311 rfl)<|lp (.bool y313) (pu_assign rfl)<|ln (hK309 _ _ ?_)
 obtain rfl:=os hb
 refine Wc.ret (hKR _ _ ?_)
 refine ⟨_,res1 results9 (tV (.bool y313) rfl),_,rfl,rfl,hC.sE []⟩
 replace hb:=tf hq312 hb
 refine gs rfl rfl (decide (y287.2.2.2=0)) rfl hq312<|gs rfl rfl (decide (y287.2.2.2=0)) rfl hq312<|gs rfl rfl (decide (y287.2.2.2=0)) rfl hq312<|gp rfl rfl (decide (y287.2.2.2=15)) rfl hq311 (.bool false) (pu_pickF (q:=(decide (y287.2.2.2=0))) rfl hq312 rfl)<|lp (.bool false) (pu_pickF (q:=(decide (y287.2.2.2=15))) rfl hq311 rfl)<|lp (.bool false) (pu_assign rfl)<|ln (hK309 _ _ ?_)
 obtain rfl:=os hb
 refine Wc.ret (hKR _ _ ?_)
 refine ⟨_,res1 results9 (tV (.bool false) rfl),_,rfl,rfl,hC.sE []⟩
 refine mixPE_chain ?_
 refine mixE.op hM (hC.alloc (cs:=[iv 0,iv 0,iv 0]) zeroValue23 rfl) ?_
 rintro _ w317 ⟨g316,rfl,hC,hF,hG⟩
 have hUf318:g316<w63.heap.size→g316∈blocks (([]:List Fact)++([]:List Fact)):=fun h=>absurd (Nat.lt_of_lt_of_le h (Nat.le_trans hM.size hG)) (Nat.lt_irrefl _)
 clear hG
 replace hM:=hM.none hF
 replace hD:=hM.wide (H:=([]:List Fact))
 refine ⟨hM,?_⟩
 refine mixE.nil ?_
 refine mixPE_chain ?_
 refine mixE.op hM (hC.alloc (cs:=[iv 0,iv 0,iv 0]) zeroValue23 rfl) ?_
 rintro _ w320 ⟨g319,rfl,hC,hF,hG⟩
 have hUf321:g319<w63.heap.size→g319∈blocks (([]:List Fact)++([]:List Fact)):=fun h=>absurd (Nat.lt_of_lt_of_le h (Nat.le_trans hM.size hG)) (Nat.lt_irrefl _)
 clear hG
 replace hM:=hM.none hF
 replace hD:=hM.wide (H:=([]:List Fact))
 refine ⟨hM,?_⟩
 refine mixE.sk hD (hC.seta (i:=0) (ds:=[iv x76.1,iv x76.2.1,iv x76.2.2]) rfl type23 rfl rfl rfl rfl rfl) ?_
 rintro w322 ⟨hC,hF⟩
 replace hD:=hD.besideG hUf321 hF
 clear hF
 refine ⟨hD,?_⟩
 refine mixE.sk hD (hC.seta (i:=1) (ds:=[iv x119.1,iv x119.2.1,iv x119.2.2]) rfl type23 rfl rfl rfl rfl rfl) ?_
 rintro w323 ⟨hC,hF⟩
 replace hD:=hD.besideG hUf318 hF
 clear hF
 refine ⟨hD,?_⟩
 refine mixE.nil ?_
 clear hS hM
 clear hD
 refine hK61 _ _<|Wc.fresh fun E324 hE=>?_
 have e0:=cg hE 0 e0
 have e1:=cg hE 1 e1
 have e2:=cg hE 2 e2
 have e6:=cg hE 6 e6
 have e7:=cg hE 7 e7
 have e8:=cg hE 8 e8
 have e9:E324 9=pg g319:=cg hE 9 rfl
 have e10:E324 10=pg g316:=cg hE 10 rfl
 clear hE
 refine Wc.seq fun _ hK325=>?_
 refine Wc.seq fun _ hK326=>rg<|lv (.agg #[iv x76.1,iv x76.2.1,iv x76.2.2]) (ld_blk (hC.bx (i:=0) rfl) isAgg23 sizeOf23 e9)<|lv (.agg #[iv x119.1,iv x119.2.1,iv x119.2.2]) (ld_blk (hC.bx (i:=1) rfl) isAgg23 sizeOf23 e10) ?_
 obtain ⟨y145,h328,hb⟩:=bd hb
 refine lex.cl (⟨_,_,op_call (vs:=[.agg #[iv x76.1,iv x76.2.1,iv x76.2.2],.agg #[iv x119.1,iv x119.2.1,iv x119.2.2]]) call34 rfl rfl rfl,ref46_Even_ok n hC.lt (wrap_I64 hr85) (wrap_I64 hr89) (wrap_I64 hr90) (wrap_I64 hr128) (wrap_I64 hr132) (wrap_I64 hr133) h328⟩) ?_
 rintro _ w329 ⟨rfl,hK⟩
 replace hC:=hC.merge hK
 clear hK
 refine lp (.bool (!y145)) (pu_not (q:=y145) rfl)<|ln (hK326 _ _ ?_)
 refine Wc.cond (t:=(!y145)) (rfl) (fun hq330=>?_) (fun hq330=>?_)
 replace hb:=tt hq330 hb
 refine Wc.seq fun _ hK331=>rg<|lp _ (pu_move e8)<|lp (.bool (decide (y22.2=10))) (pu_eql (k:=.i64) (a:=y22.2) (b:=10) rfl rfl)<|lp (.bool (decide (y22.2=10))) (pu_move rfl) ?_
 rcases bS (decide (y22.2=10)) with hq332 | hq332
 replace hb:=tt hq332 hb
 refine gp rfl rfl (decide (y22.2=10)) rfl hq332 (.slice A24 y22.1.length c26) (pu_move e7)<|gp rfl rfl (decide (y22.2=10)) rfl hq332 (iv (y22.1.length:Int)) (pu_len (A:=A24) (n:=y22.1.length) (m:=c26) underlying28 rfl)<|gp rfl rfl (decide (y22.2=10)) rfl hq332 (.bool (decide ((y22.1.length:Int)=0))) (pu_eql (k:=.i64) (a:=(y22.1.length:Int)) (b:=0) rfl rfl)<|lp (.bool (decide ((y22.1.length:Int)=0))) (pu_pickT (q:=(decide (y22.2=10))) rfl hq332 rfl)<|lp (.bool (decide ((y22.1.length:Int)=0))) (pu_assign rfl)<|ln (hK331 _ _ ?_)
 obtain rfl:=os hb
 refine Wc.ret (hKR _ _ ?_)
 refine ⟨_,res1 results9 (tV (.bool (decide ((y22.1.length:Int)=0))) rfl),_,rfl,rfl,hC.sE []⟩
 replace hb:=tf hq332 hb
 refine gs rfl rfl (decide (y22.2=10)) rfl hq332<|gs rfl rfl (decide (y22.2=10)) rfl hq332<|gs rfl rfl (decide (y22.2=10)) rfl hq332<|lp (.bool false) (pu_pickF (q:=(decide (y22.2=10))) rfl hq332 rfl)<|lp (.bool false) (pu_assign rfl)<|ln (hK331 _ _ ?_)
 obtain rfl:=os hb
 refine Wc.ret (hKR _ _ ?_)
 refine ⟨_,res1 results9 (tV (.bool false) rfl),_,rfl,rfl,hC.sE []⟩
 replace hb:=tf hq330 hb
 refine Wc.skip (hK325 _ _ ?_)
 refine Wc.seq fun _ hK333=>?_
 refine Wc.seq fun _ hK334=>rg<|lp _ (pu_move e8)<|lp (.bool (!(decide (y22.2=0)))) (pu_neq (k:=.i64) (a:=y22.2) (b:=0) rfl rfl)<|lp (.bool (!(decide (y22.2=0)))) (pu_move rfl) ?_
 rcases bS (!(decide (y22.2=0))) with hq335 | hq335
 replace hb:=tt hq335 hb
 refine gs rfl rfl (!(decide (y22.2=0))) rfl hq335<|gs rfl rfl (!(decide (y22.2=0))) rfl hq335<|gs rfl rfl (!(decide (y22.2=0))) rfl hq335<|gs rfl rfl (!(decide (y22.2=0))) rfl hq335<|gs rfl rfl (!(decide (y22.2=0))) rfl hq335<|lp (.bool true) (pu_pickT (q:=(!(decide (y22.2=0)))) rfl hq335 rfl)<|ln (hK334 _ _ ?_)
 refine Wc.cond_true (rfl) ?_
 refine Wc.seq fun _ hK336=>rg<|lp (.bool false) (pu_assign rfl)<|ln (hK336 _ _ ?_)
 obtain rfl:=os hb
 refine Wc.ret (hKR _ _ ?_)
 refine ⟨_,res1 results9 (tV (.bool false) rfl),_,rfl,rfl,hC.sE []⟩
 replace hb:=tf hq335 hb
 refine gp rfl rfl (!(decide (y22.2=0))) rfl hq335 (.slice A24 y22.1.length c26) (pu_move e7)<|gp rfl rfl (!(decide (y22.2=0))) rfl hq335 (iv (y22.1.length:Int)) (pu_len (A:=A24) (n:=y22.1.length) (m:=c26) underlying28 rfl)<|gp rfl rfl (!(decide (y22.2=0))) rfl hq335 (.slice (some ad66) o.length p) (pu_move e0)<|gp rfl rfl (!(decide (y22.2=0))) rfl hq335 (iv (o.length:Int)) (pu_len (A:=(some ad66)) (n:=o.length) (m:=p) underlying28 rfl)<|gp rfl rfl (!(decide (y22.2=0))) rfl hq335 (.bool (!(decide ((y22.1.length:Int)=(o.length:Int))))) (pu_neq (k:=.i64) (a:=(y22.1.length:Int)) (b:=(o.length:Int)) rfl rfl)<|lp (.bool (!(decide ((y22.1.length:Int)=(o.length:Int))))) (pu_pickF (q:=(!(decide (y22.2=0)))) rfl hq335 rfl)<|ln (hK334 _ _ ?_)
 refine Wc.cond (t:=(!(decide ((y22.1.length:Int)=(o.length:Int))))) (rfl) (fun hq337=>?_) (fun hq337=>?_)
 replace hb:=tt hq337 hb
 refine Wc.seq fun _ hK338=>rg<|lp (.bool false) (pu_assign rfl)<|ln (hK338 _ _ ?_)
 obtain rfl:=os hb
 refine Wc.ret (hKR _ _ ?_)
 refine ⟨_,res1 results9 (tV (.bool false) rfl),_,rfl,rfl,hC.sE []⟩
 replace hb:=tf hq337 hb
 refine Wc.skip (hK333 _ _ ?_)
 refine Wc.fresh fun E339 hE=>?_
 have e0:=cg hE 0 e0
 have e1:=cg hE 1 e1
 have e2:=cg hE 2 e2
 have e6:=cg hE 6 e6
 have e7:=cg hE 7 e7
 have e9:=cg hE 9 e9
 have e10:=cg hE 10 e10
 clear hE
 refine Wc.seq fun _ hK340=>?_
 refine Wc.seq fun _ hK341=>rg<|lp _ (pu_move e0)<|lp (iv (o.length:Int)) (pu_len (A:=(some ad66)) (n:=o.length) (m:=p) underlying28 rfl)<|lp (iv 0) (pu_move rfl)<|ln (hK341 _ _ ?_)
 obtain ⟨o160,hl1,hb⟩:=bd hb
 refine Wc.cut (fun E wv=> ∃(d:Int),E 0=.slice (some ad66) o.length p∧E 6=.bool false∧E 7=.slice A24 y22.1.length c26∧I64 d∧Cx (fun _=>False) O0 w wv [.ro (.sl (.sl (.pr si (.pr si si)))) [.slice (some ad66) o.length p] o,.ro (.sl (.sl (.pr si (.pr si si)))) [.slice A24 y22.1.length c26] y22.1]∧((F.polygon_Project n o).bind fun y265=>(F.polygon_Project n y22.1).bind fun y287=>cond (!(decide (y265.2.2.2=0))) (some true) (cond (decide (y287.2.2.2=15)) (some true) (cond (decide (y287.2.2.2=0)) ((F.diagram_Equal n y287.1 y287.2.1 y287.2.2.1 y265.1 y265.2.1 y265.2.2.1).bind fun y313=>some y313) (some false))):Option (Bool))=some r) (fun _ hK343=>?_) ?_
 refine Wc.block ?_
 refine Wc.loop (fun m E wv=> ∃(d:Int),E 0=.slice (some ad66) o.length p∧E 1=iv c∧E 2=iv l∧E 6=.bool false∧E 7=.slice A24 y22.1.length c26∧E 9=pg g319∧E 10=pg g316∧E 114=.slice (some ad66) o.length p∧E 115=iv (o.length:Int)∧E 116=iv d∧I64 d∧Cx (fun _=>False) O0 w wv [.ro (.sl (.sl (.pr si (.pr si si)))) [.slice (some ad66) o.length p] o,.ro (.sl (.sl (.pr si (.pr si si)))) [.slice A24 y22.1.length c26] y22.1,.box g319 23 [iv x76.1,iv x76.2.1,iv x76.2.2],.box g316 23 [iv x119.1,iv x119.2.1,iv x119.2.2]]∧loopN m (F.law46_PolygonSubdivides_b1 n o c l y22 x76 x119) d=some o160) n ⟨0,e0,e1,e2,e6,e7,e9,e10,rfl,rfl,rfl,(show I64 0 from by unfold I64; omega),hC.sE [5,6,0,1],hl1⟩ ?_
 have hbK1:=hb
 clear hb hC hl1
 rintro m345 E347 w346 ⟨d,e0,e1,e2,e6,e7,e9,e10,e114,e115,e116,y,hC,hl1⟩ K344 hK344
 obtain ⟨m345',o348,rfl,hb,hl1⟩:=loopN_some hl1
 unfold F.law46_PolygonSubdivides_b1 at hb
 refine Wc.seq fun _ hK349=>rg<|lp _ (pu_lss e116 e115)<|ln (hK349 _ _ ?_)
 refine Wc.seq fun _ hK350=>?_
 refine Wc.cond (t:=(decide (d<(o.length:Int)))) (rfl) (fun hq351=>?_) (fun hq351=>?_)
 replace hb:=tt hq351 hb
 refine Wc.skip (hK350 _ _ ?_)
 refine Wc.seq fun _ hK352=>?_
 refine Wc.block<|Wc.seq fun _ hK353=>rg<|lp _ (pu_move e116) ?_
 obtain ⟨x172,h355,hb⟩:=bd hb
 obtain ⟨ad356,cs357,hA,hc358,hr359⟩:=hC.elr (i:=0) rfl (get_some h355).2
 obtain rfl:=Option.some.inj hA
 refine lp (.pointer (some (ad66.add (d.toNat*1)))) (pu_index (a:=d) underlying28 sizeOf43 e114 e116 (get_some h355).1) ?_
 have hR:=hr359
 obtain ⟨A360,c361,rfl,hl362,hc363,_⟩:=hr359
 replace hC:=hC.ro hR
 clear hR
 refine lv (.slice A360 x172.length c361) (ld_one isAgg43 rfl (hc358 0 _ rfl))<|lp (iv d) (pu_assign rfl)<|lp (.slice A360 x172.length c361) (pu_assign rfl)<|ln (hK353 _ _ ?_)
 refine Wc.seq fun _ hK365=>rg<|lp (.slice A360 x172.length c361) (pu_move rfl)<|lp (.slice A360 x172.length c361) (pu_assign rfl)<|ln (hK365 _ _ ?_)
 refine Wc.seq fun _ hK366=>?_
 refine Wc.seq fun _ hK367=>rg<|lp (iv d) (pu_move rfl)<|lp _ (pu_move e1)<|lp (.bool (decide (d=c))) (pu_eql (k:=.i64) (a:=d) (b:=c) rfl rfl)<|ln (hK367 _ _ ?_)
 refine Wc.fresh fun E368 hE=>?_
 have e0:=cg hE 0 e0
 have e1:=cg hE 1 e1
 have e2:=cg hE 2 e2
 have e6:=cg hE 6 e6
 have e7:=cg hE 7 e7
 have e9:=cg hE 9 e9
 have e10:=cg hE 10 e10
 have e11:E368 11=iv d:=cg hE 11 rfl
 have e12:E368 12=.slice A360 x172.length c361:=cg hE 12 rfl
 have e13:E368 13=.slice A360 x172.length c361:=cg hE 13 rfl
 have e114:=cg hE 114 e114
 have e115:=cg hE 115 e115
 have e116:=cg hE 116 e116
 have e117:E368 117=.bool (decide (d<(o.length:Int))):=cg hE 117 rfl
 have e124:E368 124=.bool (decide (d=c)):=cg hE 124 rfl
 clear hE
 refine Wc.cond (t:=(decide (d=c))) (e124) (fun hq369=>?_) (fun hq369=>?_)
 replace hb:=tt hq369 hb
 refine Wc.regionMix [] (frm [] ([]:List Fact) ([]:List Fact)) (fun _=>rfl) mixed (by decide+kernel) (by decide+kernel) fun w371 hw370=>?_
 replace hC:=hC.step (Fr.of_drew hw370)
 have hM:=Fr.refl (fun k=>k∈blocks ([]:List Fact)) w371
 clear hw370
 have hS:=hC
 refine mp (.slice A360 x172.length c361) (pu_move e12) ?_
 obtain ⟨y190,h373,hb⟩:=bd hb
 refine mixE.cl hM (⟨_,_,op_call (vs:=[.slice A360 x172.length c361]) call36 rfl rfl rfl,slices_Clone_Point_Point_ok n hC.lt (hC.rd (i:=0) rfl) h373⟩) ?_
 rintro _ w378 ⟨A374,m375,c376,rfl,hK⟩
 have hBf377:=Beside.cl (i:=0) hM hK rfl
 replace hM:=hM.none hK.fr
 refine ⟨hM,?_⟩
 replace hC:=hC.merge hK
 clear hK
 obtain ⟨rfl,hl379,hc380⟩:=(hC.ow (i:=0) rfl).sl_len
 refine mp (iv l) (pu_move e2) ?_
 obtain ⟨z199,h382,hb⟩:=bd hb
 refine mp (iv z199) (pu_addc (a:=l) (b:=1) rfl rfl h382)<|mixE.load hM (v:=.agg #[iv x76.1,iv x76.2.1,iv x76.2.2]) (fun _ hF=>ld_blk (hS.bx2 (i:=3) rfl [] (by decide) hF) isAgg23 sizeOf23 e9)<|mixE.load hM (v:=.agg #[iv x119.1,iv x119.2.1,iv x119.2.2]) (fun _ hF=>ld_blk (hS.bx2 (i:=4) rfl [] (by decide) hF) isAgg23 sizeOf23 e10) ?_
 obtain ⟨y201,h384,hb⟩:=bd hb
 refine mixE.cl hM (⟨_,_,op_call (vs:=[.agg #[iv x76.1,iv x76.2.1,iv x76.2.2],.agg #[iv x119.1,iv x119.2.1,iv x119.2.2]]) call37 rfl rfl rfl,ref46_Middle_ok n hC.lt (wrap_I64 hr85) (wrap_I64 hr89) (wrap_I64 hr90) (wrap_I64 hr128) (wrap_I64 hr132) (wrap_I64 hr133) h384⟩) ?_
 rintro _ w388 ⟨rfl,hr385,hr386,hr387,hK⟩
 replace hM:=hM.none hK.fr
 refine ⟨hM,?_⟩
 replace hC:=hC.merge hK
 clear hK
 refine mixE.op hM (hC.lit (s:=(.pr si (.pr si si))) (vs:=[.agg #[iv y201.1,iv y201.2.1,iv y201.2.2]]) (xs:=[(y201.1,(y201.2.1,y201.2.2))]) underlying43 type23 rfl rfl (nb rfl) rfl rfl (by simp [Value.cells,Sh.n]) rfl (show Elems _ _ (.pr si (.pr si si)) ([iv y201.1,iv y201.2.1,iv y201.2.2]++([])) ([(y201.1,(y201.2.1,y201.2.2))]:List (Int×(Int×Int))) from Elems.cons (⟨[iv y201.1],[iv y201.2.1,iv y201.2.2],rfl,⟨rfl,I64.wr hr385⟩,⟨[iv y201.2.1],[iv y201.2.2],rfl,⟨rfl,I64.wr hr386⟩,⟨rfl,I64.wr hr387⟩⟩⟩) (Elems.nil _ _ _))) ?_
 rintro _ w393 ⟨A389,c390,rfl,hl391,hc392,hC,hF,hN⟩
 have hBf394:=Beside.new hM hN
 replace hM:=hM.none hF
 refine ⟨hM,?_⟩
 clear hF hN
 replace hC:Cx (fun _=>False) O0 w w393 ([.own 23 (.pr si (.pr si si)) (.slice A374 y190.length c376) y190,.own 23 (.pr si (.pr si si)) (.slice A389 ((([(y201.1,(y201.2.1,y201.2.2))]:List (Int×(Int×Int)))).length) c390) ([(y201.1,(y201.2.1,y201.2.2))]:List (Int×(Int×Int)))]++[.ro (.sl (.pr si (.pr si si))) [.slice A360 x172.length c361] x172,.ro (.sl (.sl (.pr si (.pr si si)))) [.slice (some ad66) o.length p] o,.ro (.sl (.sl (.pr si (.pr si si)))) [.slice A24 y22.1.length c26] y22.1,.box g319 23 [iv x76.1,iv x76.2.1,iv x76.2.2],.box g316 23 [iv x119.1,iv x119.2.1,iv x119.2.2]]):=hC.sE [1,0,2,3,4,5,6]
 obtain ⟨y213,h396,hb⟩:=bd hb
 refine mixE.cl hM (⟨_,_,op_call (vs:=[.slice A374 y190.length c376,iv z199,.slice A389 ((([(y201.1,(y201.2.1,y201.2.2))]:List (Int×(Int×Int)))).length) c390]) call35 rfl rfl rfl,slices_Insert_Point_Point_ok n hC.lt (chk_rng h382) hC.give h396⟩) ?_
 rintro _ w401 ⟨A397,m398,c399,rfl,hK⟩
 have hL402: ∀f∈([.own 23 (.pr si (.pr si si)) (.slice A374 y190.length c376) y190,.own 23 (.pr si (.pr si si)) (.slice A389 ((([(y201.1,(y201.2.1,y201.2.2))]:List (Int×(Int×Int)))).length) c390) ([(y201.1,(y201.2.1,y201.2.2))]:List (Int×(Int×Int)))]:List Fact),∀g,g<w371.heap.size→f.blk=some g→g∈blocks ([]:List Fact):=List.forall_mem_cons.2 ⟨hBf377,List.forall_mem_cons.2 ⟨hBf394,fun _ h=>absurd h List.not_mem_nil⟩⟩
 have hBf400:=Beside.io (i:=0) hM hL402 hK rfl
 replace hM:=hM.besideL hL402 hK.fr
 refine ⟨hM,?_⟩
 replace hC:=hC.back hK
 clear hK
 obtain ⟨rfl,hl403,hc404⟩:=(hC.ow (i:=0) rfl).sl_len
 refine mp (.slice A397 y213.length c399) (pu_assign rfl)<|mixE.nil ?_
 clear hS hM
 refine hK366 _ _<|Wc.fresh fun E405 hE=>?_
 have e0:=cg hE 0 e0
 have e1:=cg hE 1 e1
 have e2:=cg hE 2 e2
 have e6:=cg hE 6 e6
 have e7:=cg hE 7 e7
 have e9:=cg hE 9 e9
 have e10:=cg hE 10 e10
 have e11:=cg hE 11 e11
 have e12:=cg hE 12 e12
 have e13:E405 13=.slice A397 y213.length c399:=cg hE 13 rfl
 have e114:=cg hE 114 e114
 have e115:=cg hE 115 e115
 have e116:=cg hE 116 e116
 have e117:=cg hE 117 e117
 have e124:=cg hE 124 e124
 clear hE
 refine Wc.seq fun _ hK406=>rg<|lp _ (pu_move e7)<|lp _ (pu_move e11) ?_
 obtain ⟨x225,h408,hb⟩:=bd hb
 obtain ⟨ad409,cs410,hA,hc411,hr412⟩:=hC.elr (i:=3) rfl (get_some h408).2
 subst hA
 refine lp (.pointer (some (ad409.add (d.toNat*1)))) (pu_index (a:=d) underlying28 sizeOf43 rfl rfl (get_some h408).1) ?_
 have hR:=hr412
 obtain ⟨A413,c414,rfl,hl415,hc416,_⟩:=hr412
 replace hC:=hC.ro hR
 clear hR
 refine lv (.slice A413 x225.length c414) (ld_one isAgg43 rfl (hc411 0 _ rfl))<|lp _ (pu_move e13) ?_
 obtain ⟨y236,h419,hb⟩:=bd hb
 refine lex.cl (⟨_,_,op_call (vs:=[.slice A413 x225.length c414,.slice A397 y213.length c399]) call38 rfl rfl rfl,slices_Equal_Point_Point_ok n (hC.lentLt [.slice A397 y213.length c399]) ((hC.rd (i:=0) rfl).lent [.slice A397 y213.length c399]) ((hC.ow (i:=1) rfl).lend (vs:=[.slice A397 y213.length c399]) (by simp)) h419⟩) ?_
 rintro _ w420 ⟨rfl,hK⟩
 replace hC:=hC.mergeF hK rfl
 clear hK
 refine lp (.bool (!y236)) (pu_not (q:=y236) rfl)<|ln (hK406 _ _ ?_)
 refine Wc.cond (t:=(!y236)) (rfl) (fun hq421=>?_) (fun hq421=>?_)
 replace hb:=tt hq421 hb
 refine Wc.seq fun _ hK422=>rg<|lp (.bool false) (pu_assign rfl)<|ln (hK422 _ _ ?_)
 obtain rfl:=os hb
 obtain rfl:=(lX hl1).symm
 replace hb:=hbK1
 obtain rfl:=os hb
 refine Wc.ret (hKR _ _ ?_)
 refine ⟨_,res1 results9 (tV (.bool false) rfl),_,rfl,rfl,hC.sE []⟩
 replace hb:=tf hq421 hb
 refine Wc.skip (hK352 _ _ ?_)
 refine rg ?_
 obtain ⟨z241,h424,hb⟩:=bd hb
 refine lp (iv z241) (pu_addc (a:=d) (b:=1) e116 rfl h424)<|lp (iv z241) (pu_move rfl)<|ln ?_
 obtain rfl:=os hb
 exact hK344 m345' _ _ (Nat.lt_succ_self _) ⟨z241,e0,e1,e2,e6,e7,e9,e10,e114,e115,rfl,(chk_rng h424),hC.sE [3,4,5,6],lN hl1⟩
 replace hb:=tf hq369 hb
 refine Wc.skip (hK366 _ _ ?_)
 refine Wc.seq fun _ hK425=>rg<|lp _ (pu_move e7)<|lp _ (pu_move e11) ?_
 obtain ⟨x244,h427,hb⟩:=bd hb
 obtain ⟨ad428,cs429,hA,hc430,hr431⟩:=hC.elr (i:=2) rfl (get_some h427).2
 subst hA
 refine lp (.pointer (some (ad428.add (d.toNat*1)))) (pu_index (a:=d) underlying28 sizeOf43 rfl rfl (get_some h427).1) ?_
 have hR:=hr431
 obtain ⟨A432,c433,rfl,hl434,hc435,_⟩:=hr431
 replace hC:=hC.ro hR
 clear hR
 refine lv (.slice A432 x244.length c433) (ld_one isAgg43 rfl (hc430 0 _ rfl))<|lp _ (pu_move e13) ?_
 obtain ⟨y255,h438,hb⟩:=bd hb
 refine lex.cl (⟨_,_,op_call (vs:=[.slice A432 x244.length c433,.slice A360 x172.length c361]) call38 rfl rfl rfl,slices_Equal_Point_Point_ok n hC.lt (hC.rd (i:=0) rfl) (hC.rd (i:=1) rfl) h438⟩) ?_
 rintro _ w439 ⟨rfl,hK⟩
 replace hC:=hC.merge hK
 clear hK
 refine lp (.bool (!y255)) (pu_not (q:=y255) rfl)<|ln (hK425 _ _ ?_)
 refine Wc.cond (t:=(!y255)) (rfl) (fun hq440=>?_) (fun hq440=>?_)
 replace hb:=tt hq440 hb
 refine Wc.seq fun _ hK441=>rg<|lp (.bool false) (pu_assign rfl)<|ln (hK441 _ _ ?_)
 obtain rfl:=os hb
 obtain rfl:=(lX hl1).symm
 replace hb:=hbK1
 obtain rfl:=os hb
 refine Wc.ret (hKR _ _ ?_)
 refine ⟨_,res1 results9 (tV (.bool false) rfl),_,rfl,rfl,hC.sE []⟩
 replace hb:=tf hq440 hb
 refine Wc.skip (hK352 _ _ ?_)
 refine rg ?_
 obtain ⟨z260,h443,hb⟩:=bd hb
 refine lp (iv z260) (pu_addc (a:=d) (b:=1) e116 rfl h443)<|lp (iv z260) (pu_move rfl)<|ln ?_
 obtain rfl:=os hb
 exact hK344 m345' _ _ (Nat.lt_succ_self _) ⟨z260,e0,e1,e2,e6,e7,e9,e10,e114,e115,rfl,(chk_rng h443),hC.sE [2,3,4,5],lN hl1⟩
 replace hb:=tf hq351 hb
 refine Wc.exit rfl ?_
 obtain rfl:=os hb
 obtain rfl:=(lX hl1).symm
 exact hK343 _ _ ⟨d,e0,e6,e7,y,hC.sE [0,1],hbK1⟩
 clear hb hC hl1
 rintro E445 w444 ⟨d,e0,e6,e7,y,hC,hb⟩
 refine hK340 _ _<|Wc.seq fun _ hK446=>rg<|lp _ (pu_move e0) ?_
 obtain ⟨y265,h448,hb⟩:=bd hb
 refine lex.cl (⟨_,_,op_call (vs:=[.slice (some ad66) o.length p]) call15 rfl rfl rfl,polygon_Project_ok n hC.lt (hC.rd (i:=0) rfl) h448⟩) ?_
 rintro _ w459 ⟨A449,m450,c451,A453,m454,c455,rfl,hr457,hr458,hK⟩
 replace hC:=hC.merge hK
 clear hK
 obtain ⟨rfl,hl460,hc461⟩:=(hC.ow (i:=0) rfl).sl_len
 obtain ⟨rfl,hl462,hc463⟩:=(hC.ow (i:=1) rfl).sl_len
 refine lp (.tuple #[.agg #[.slice A449 y265.1.length c451,.slice A453 y265.2.1.length c455,iv y265.2.2.1],iv y265.2.2.2]) (pu_move rfl)<|lp (.agg #[.slice A449 y265.1.length c451,.slice A453 y265.2.1.length c455,iv y265.2.2.1]) (pu_extract rfl rfl)<|lp (iv y265.2.2.2) (pu_extract rfl rfl)<|lex.op (hC.alloc (cs:=[.slice none 0 0,.slice none 0 0,iv 0]) zeroValue32 rfl) ?_
 rintro _ w465 ⟨g464,rfl,hC,hF,-⟩
 refine lex.sk (hC.seta (i:=0) (ds:=[.slice A449 y265.1.length c451,.slice A453 y265.2.1.length c455,iv y265.2.2.1]) rfl type32 rfl rfl rfl rfl rfl) ?_
 rintro w467 ⟨hC,hF⟩
 refine lp (iv y265.2.2.2) (pu_assign rfl)<|ln (hK446 _ _ ?_)
 refine Wc.seq fun _ hK468=>rg<|lp _ (pu_move e7) ?_
 obtain ⟨y287,h470,hb⟩:=bd hb
 refine lex.cl (⟨_,_,op_call (vs:=[.slice A24 y22.1.length c26]) call15 rfl rfl rfl,polygon_Project_ok n hC.lt (hC.rd (i:=4) rfl) h470⟩) ?_
 rintro _ w481 ⟨A471,m472,c473,A475,m476,c477,rfl,hr479,hr480,hK⟩
 replace hC:=hC.merge hK
 clear hK
 obtain ⟨rfl,hl482,hc483⟩:=(hC.ow (i:=0) rfl).sl_len
 obtain ⟨rfl,hl484,hc485⟩:=(hC.ow (i:=1) rfl).sl_len
 refine lp (.tuple #[.agg #[.slice A471 y287.1.length c473,.slice A475 y287.2.1.length c477,iv y287.2.2.1],iv y287.2.2.2]) (pu_move rfl)<|lp (.agg #[.slice A471 y287.1.length c473,.slice A475 y287.2.1.length c477,iv y287.2.2.1]) (pu_extract rfl rfl)<|lp (iv y287.2.2.2) (pu_extract rfl rfl)<|lex.op (hC.alloc (cs:=[.slice none 0 0,.slice none 0 0,iv 0]) zeroValue32 rfl) ?_
 rintro _ w487 ⟨g486,rfl,hC,hF,-⟩
 refine lex.sk (hC.seta (i:=0) (ds:=[.slice A471 y287.1.length c473,.slice A475 y287.2.1.length c477,iv y287.2.2.1]) rfl type32 rfl rfl rfl rfl rfl) ?_
 rintro w489 ⟨hC,hF⟩
 refine lp (iv y287.2.2.2) (pu_assign rfl)<|ln (hK468 _ _ ?_)
 refine Wc.fresh fun E490 hE=>?_
 have e6:=cg hE 6 e6
 have e14:E490 14=pg g464:=cg hE 14 rfl
 have e15:E490 15=iv y265.2.2.2:=cg hE 15 rfl
 have e16:E490 16=pg g486:=cg hE 16 rfl
 have e17:E490 17=iv y287.2.2.2:=cg hE 17 rfl
 clear hE
 refine Wc.seq fun _ hK491=>rg<|lp _ (pu_move e15)<|lp (.bool (!(decide (y265.2.2.2=0)))) (pu_neq (k:=.i64) (a:=y265.2.2.2) (b:=0) rfl rfl)<|lp (.bool (!(decide (y265.2.2.2=0)))) (pu_move rfl) ?_
 rcases bS (!(decide (y265.2.2.2=0))) with hq492 | hq492
 replace hb:=tt hq492 hb
 refine gs rfl rfl (!(decide (y265.2.2.2=0))) rfl hq492<|gs rfl rfl (!(decide (y265.2.2.2=0))) rfl hq492<|lp (.bool true) (pu_pickT (q:=(!(decide (y265.2.2.2=0)))) rfl hq492 rfl)<|lp (.bool true) (pu_move rfl)<|gs rfl rfl true rfl rfl<|gs rfl rfl true rfl rfl<|gs rfl rfl true rfl rfl ?_
 refine lex.gskip (want_n rfl rfl rfl) ?_
 refine lex.gskip (want_n rfl rfl rfl) ?_
 refine lex.gskip (want_n rfl rfl rfl) ?_
 refine gs rfl rfl true rfl rfl<|lp (.bool true) (pu_pickT (q:=true) rfl rfl rfl)<|lp (.bool true) (pu_assign rfl)<|ln (hK491 _ _ ?_)
 obtain rfl:=os hb
 refine Wc.ret (hKR _ _ ?_)
 refine ⟨_,res1 results9 (tV (.bool true) rfl),_,rfl,rfl,hC.sE []⟩
 replace hb:=tf hq492 hb
 refine gp rfl rfl (!(decide (y265.2.2.2=0))) rfl hq492 (iv y287.2.2.2) (pu_move e17)<|gp rfl rfl (!(decide (y265.2.2.2=0))) rfl hq492 (.bool (decide (y287.2.2.2=15))) (pu_eql (k:=.i64) (a:=y287.2.2.2) (b:=15) rfl rfl)<|lp (.bool (decide (y287.2.2.2=15))) (pu_pickF (q:=(!(decide (y265.2.2.2=0)))) rfl hq492 rfl)<|lp (.bool (decide (y287.2.2.2=15))) (pu_move rfl) ?_
 rcases bS (decide (y287.2.2.2=15)) with hq493 | hq493
 replace hb:=tt hq493 hb
 refine gs rfl rfl (decide (y287.2.2.2=15)) rfl hq493<|gs rfl rfl (decide (y287.2.2.2=15)) rfl hq493<|gs rfl rfl (decide (y287.2.2.2=15)) rfl hq493 ?_
 refine lex.gskip (want_n rfl rfl rfl) ?_
 refine lex.gskip (want_n rfl rfl rfl) ?_
 refine lex.gskip (want_n rfl rfl rfl) ?_
 refine gs rfl rfl (decide (y287.2.2.2=15)) rfl hq493<|lp (.bool true) (pu_pickT (q:=(decide (y287.2.2.2=15))) rfl hq493 rfl)<|lp (.bool true) (pu_assign rfl)<|ln (hK491 _ _ ?_)
 obtain rfl:=os hb
 refine Wc.ret (hKR _ _ ?_)
 refine ⟨_,res1 results9 (tV (.bool true) rfl),_,rfl,rfl,hC.sE []⟩
 replace hb:=tf hq493 hb
 refine gp rfl rfl (decide (y287.2.2.2=15)) rfl hq493 (iv y287.2.2.2) (pu_move e17)<|gp rfl rfl (decide (y287.2.2.2=15)) rfl hq493 (.bool (decide (y287.2.2.2=0))) (pu_eql (k:=.i64) (a:=y287.2.2.2) (b:=0) rfl rfl)<|gp rfl rfl (decide (y287.2.2.2=15)) rfl hq493 (.bool (decide (y287.2.2.2=0))) (pu_move rfl) ?_
 rcases bS (decide (y287.2.2.2=0)) with hq494 | hq494
 replace hb:=tt hq494 hb
 refine gv rfl rfl (decide (y287.2.2.2=0)) rfl hq494 (.agg #[.slice A471 y287.1.length c473,.slice A475 y287.2.1.length c477,iv y287.2.2.1]) (ld_blk (hC.bx (i:=0) rfl) isAgg32 sizeOf32 e16)<|gv rfl rfl (decide (y287.2.2.2=0)) rfl hq494 (.agg #[.slice A449 y265.1.length c451,.slice A453 y265.2.1.length c455,iv y265.2.2.1]) (ld_blk (hC.bx (i:=3) rfl) isAgg32 sizeOf32 e14) ?_
 obtain ⟨y313,h496,hb⟩:=bd hb
 refine lex.gcl (want_t rfl rfl (show _=Value.bool (decide (y287.2.2.2=0)) from rfl) hq494) (⟨_,_,op_call (vs:=[.agg #[.slice A471 y287.1.length c473,.slice A475 y287.2.1.length c477,iv y287.2.2.1],.agg #[.slice A449 y265.1.length c451,.slice A453 y265.2.1.length c455,iv y265.2.2.1]]) call26 rfl rfl rfl,diagram_Equal_ok n (hC.lentLt [.slice A449 y265.1.length c451,.slice A453 y265.2.1.length c455,.slice A471 y287.1.length c473,.slice A475 y287.2.1.length c477]) ((hC.ow (i:=1) rfl).lend (vs:=[.slice A449 y265.1.length c451,.slice A453 y265.2.1.length c455,.slice A471 y287.1.length c473,.slice A475 y287.2.1.length c477]) (by simp)) ((hC.ow (i:=2) rfl).lend (vs:=[.slice A449 y265.1.length c451,.slice A453 y265.2.1.length c455,.slice A471 y287.1.length c473,.slice A475 y287.2.1.length c477]) (by simp)) hr479 ((hC.ow (i:=4) rfl).lend (vs:=[.slice A449 y265.1.length c451,.slice A453 y265.2.1.length c455,.slice A471 y287.1.length c473,.slice A475 y287.2.1.length c477]) (by simp)) ((hC.ow (i:=5) rfl).lend (vs:=[.slice A449 y265.1.length c451,.slice A453 y265.2.1.length c455,.slice A471 y287.1.length c473,.slice A475 y287.2.1.length c477]) (by simp)) hr457 h496⟩) ?_
 rintro _ w497 ⟨rfl,hK⟩
 replace hC:=hC.mergeF hK rfl
 clear hK
 refine gp rfl rfl (decide (y287.2.2.2=15)) rfl hq493 (.bool y313) (pu_pickT (q:=(decide (y287.2.2.2=0))) rfl hq494 rfl)<|lp (.bool y313) (pu_pickF (q:=(decide (y287.2.2.2=15))) rfl hq493 rfl)<|lp (.bool y313) (pu_assign rfl)<|ln (hK491 _ _ ?_)
 obtain rfl:=os hb
 refine Wc.ret (hKR _ _ ?_)
 refine ⟨_,res1 results9 (tV (.bool y313) rfl),_,rfl,rfl,hC.sE []⟩
 replace hb:=tf hq494 hb
 refine gs rfl rfl (decide (y287.2.2.2=0)) rfl hq494<|gs rfl rfl (decide (y287.2.2.2=0)) rfl hq494<|gs rfl rfl (decide (y287.2.2.2=0)) rfl hq494<|gp rfl rfl (decide (y287.2.2.2=15)) rfl hq493 (.bool false) (pu_pickF (q:=(decide (y287.2.2.2=0))) rfl hq494 rfl)<|lp (.bool false) (pu_pickF (q:=(decide (y287.2.2.2=15))) rfl hq493 rfl)<|lp (.bool false) (pu_assign rfl)<|ln (hK491 _ _ ?_)
 obtain rfl:=os hb
 refine Wc.ret (hKR _ _ ?_)
 refine ⟨_,res1 results9 (tV (.bool false) rfl),_,rfl,rfl,hC.sE []⟩
end Go.Proofs.Yteajmbanlohncaa
