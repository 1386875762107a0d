import Derived.Test.YtpnppjlnfhlmpaaS
import Derived.Test.YtpnppjlnfhlmpaaG1
import Derived.Test.YtpnppjlnfhlmpaaG6
set_option linter.all false
namespace Go.Proofs.Ytpnppjlnfhlmpaa
open Ev Try
set_option maxRecDepth 100000
set_option maxHeartbeats 4000000
theorem mirror_Smooth_ok (n:Nat) {w:World} {O0:List Nat} (hO: ∀k∈O0,k<w.heap.size) {u:Option Addr} {X x:Nat} {j:List Int} (Y:Rep O0 w (.sl si) [.slice u X x] j) {y:Option Addr} {Z l:Nat} {g:List Int} (a0:Rep O0 w (.sl si) [.slice y Z l] g) {D:Int} (a1:I64 D) {f:Int} (U:I64 f) {r:(List Int)×(List Int)×Int×Int} (hb:F.qgr n j g D f=some r):
    Calls prog 37 #[.agg #[.slice u X x,.slice y Z l,iv D],iv f] w fun e w'=> ∃v,e=.returned v∧∃(A0:Option Addr) (m0 c0:Nat) (A1:Option Addr) (m1 c1:Nat),v=.tuple #[.agg #[.slice A0 m0 c0,.slice A1 m1 c1,iv r.2.2.1],iv r.2.2.2]∧I64 r.2.2.1∧I64 r.2.2.2∧Cx (fun _=>False) O0 w w' [.own 3 si (.slice A0 m0 c0) r.1,.own 3 si (.slice A1 m1 c1) r.2.1]:=by
 unfold F.qgr at hb
 have hC:=Cx.start hO
 replace hC:=hC.arg rfl Y
 replace hC:=hC.arg rfl a0
 clear hO
 obtain ⟨rfl,a2,a3⟩:=Y.qae
 obtain ⟨rfl,a4,a5⟩:=a0.qae
 refine qao func37 rfl (by rw [ntmps37]; exact nb rfl) fun KR hKR=>?_
 refine Wc.seq fun _ hK3=>rg<|lex.op (hC.box (cs:=[.slice u j.length x,.slice y g.length l,iv D]) rfl rfl) ?_
 rintro _ w5 ⟨g4,rfl,hC,hF,-⟩
 refine lex.op (hC.alloc (cs:=[.slice none 0 0,.slice none 0 0,iv 0]) zeroValue32 rfl) ?_
 rintro _ w8 ⟨g7,rfl,hC,hF,-⟩
 refine lp (iv 0) (qab rfl)<|ln (hK3 _ _ ?_)
 refine Wc.seq fun _ hK10=>?_
 refine Wc.seq fun _ hK11=>rg<|lv (.agg #[.slice u j.length x,.slice y g.length l,iv D]) (qaq (hC.bx (i:=1) rfl) isAgg32 sizeOf32 rfl) ?_
 obtain ⟨y12,h13,hb⟩:=bd hb
 refine lex.cl (⟨_,_,qam (vs:=[.agg #[.slice u j.length x,.slice y g.length l,iv D]]) call11 rfl rfl rfl,qdm n hC.lt (hC.rd (i:=3) rfl) (hC.rd (i:=2) rfl) a1 h13⟩) ?_
 rintro _ w14 ⟨rfl,hK⟩
 replace hC:=hC.merge hK
 clear hK
 refine lp (.bool (!y12)) (qbt (q:=y12) rfl)<|ln (hK11 _ _ ?_)
 refine Wc.cond (t:=(!y12)) (rfl) (fun hq15=>?_) (fun hq15=>?_)
 replace hb:=tt hq15 hb
 refine Wc.seq fun _ hK16=>rg<|lp (.agg #[.slice none 0 0,.slice none 0 0,iv 0]) (qat (places:=[(0,1),(1,1),(2,1)]) (pv:=[]) type32 underlying32 rfl (qag type22 (qag type22 (qag type3 qbb rfl rfl) rfl rfl) rfl rfl) rfl (by simp [Instr.fill,Value.cells]))<|lex.sk (hC.seta (i:=0) (ds:=[.slice none 0 0,.slice none 0 0,iv 0]) rfl type32 rfl rfl rfl rfl rfl) ?_
 rintro w17 ⟨hC,hF⟩
 refine lp (iv 1) (qab rfl)<|ln (hK16 _ _ ?_)
 replace hC:=hC.nil 3 si
 replace hC:=hC.nil 3 si
 obtain rfl:=os hb
 refine Wc.ret (hKR _ _ ?_)
 refine ⟨_,res2 results37 ⟨_,rfl,qai (hC.bx (i:=2) rfl) isAgg32 sizeOf32⟩ (tV (iv 1) rfl),_,rfl,none,0,0,none,0,0,rfl,(show I64 0 from by unfold I64; omega),(show I64 1 from by unfold I64; omega),hC.sE [1,0]⟩
 replace hb:=tf hq15 hb
 refine Wc.skip (hK10 _ _ ?_)
 refine Wc.seq fun _ hK20=>rg<|lp (.pointer (some ((⟨g4,0,none⟩:Addr).add 0))) (qaf (sz:=1) underlying32 rfl sizeOf22 (by decide) rfl rfl)<|lv (.slice u j.length x) (qal (hC.bx (i:=1) rfl) isAgg22 rfl rfl)<|lp (iv (j.length:Int)) (qay (A:=u) (n:=j.length) (m:=x) underlying22 rfl)<|lp (iv (j.length:Int)) (qab rfl)<|ln (hK20 _ _ ?_)
 refine Wc.fresh fun E21 hE=>?_
 have e1:E21 1=iv f:=cg hE 1 rfl
 have e2:E21 2=pg g4:=cg hE 2 rfl
 have e4:E21 4=pg g7:=cg hE 4 rfl
 have e5:E21 5=iv 0:=cg hE 5 rfl
 have e6:E21 6=iv (j.length:Int):=cg hE 6 rfl
 clear hE
 refine Wc.seq fun _ hK22=>?_
 refine Wc.seq fun _ hK23=>rg<|lp _ (qaa e1)<|lp (.bool (decide (f<0))) (qbj (k:=.i64) (a:=f) (b:=0) rfl rfl)<|lp (.bool (decide (f<0))) (qaa rfl) ?_
 rcases bS (decide (f<0)) with hq24 | hq24
 replace hb:=tt hq24 hb
 refine gs rfl rfl (decide (f<0)) rfl hq24<|gs rfl rfl (decide (f<0)) rfl hq24<|gs rfl rfl (decide (f<0)) rfl hq24<|lp (.bool true) (qap (q:=(decide (f<0))) rfl hq24 rfl)<|ln (hK23 _ _ ?_)
 refine Wc.cond_true (rfl) ?_
 refine Wc.seq fun _ hK25=>rg<|lp (.agg #[.slice none 0 0,.slice none 0 0,iv 0]) (qat (places:=[(0,1),(1,1),(2,1)]) (pv:=[]) type32 underlying32 rfl (qag type22 (qag type22 (qag type3 qbb rfl rfl) rfl rfl) rfl rfl) rfl (by simp [Instr.fill,Value.cells]))<|lex.sk (hC.seta (i:=0) (ds:=[.slice none 0 0,.slice none 0 0,iv 0]) rfl type32 rfl rfl rfl e4 rfl) ?_
 rintro w26 ⟨hC,hF⟩
 refine lp (iv 2) (qab rfl)<|ln (hK25 _ _ ?_)
 replace hC:=hC.nil 3 si
 replace hC:=hC.nil 3 si
 obtain rfl:=os hb
 refine Wc.ret (hKR _ _ ?_)
 refine ⟨_,res2 results37 ⟨_,e4,qai (hC.bx (i:=2) rfl) isAgg32 sizeOf32⟩ (tV (iv 2) rfl),_,rfl,none,0,0,none,0,0,rfl,(show I64 0 from by unfold I64; omega),(show I64 2 from by unfold I64; omega),hC.sE [1,0]⟩
 replace hb:=tf hq24 hb
 refine gp rfl rfl (decide (f<0)) rfl hq24 (iv f) (qaa e1)<|gp rfl rfl (decide (f<0)) rfl hq24 (iv (j.length:Int)) (qaa e6)<|gp rfl rfl (decide (f<0)) rfl hq24 (.bool (decide ((j.length:Int)≤f))) (pu_geq (k:=.i64) (a:=f) (b:=(j.length:Int)) rfl rfl)<|lp (.bool (decide ((j.length:Int)≤f))) (qak (q:=(decide (f<0))) rfl hq24 rfl)<|ln (hK23 _ _ ?_)
 refine Wc.cond (t:=(decide ((j.length:Int)≤f))) (rfl) (fun hq29=>?_) (fun hq29=>?_)
 replace hb:=tt hq29 hb
 refine Wc.seq fun _ hK30=>rg<|lp (.agg #[.slice none 0 0,.slice none 0 0,iv 0]) (qat (places:=[(0,1),(1,1),(2,1)]) (pv:=[]) type32 underlying32 rfl (qag type22 (qag type22 (qag type3 qbb rfl rfl) rfl rfl) rfl rfl) rfl (by simp [Instr.fill,Value.cells]))<|lex.sk (hC.seta (i:=0) (ds:=[.slice none 0 0,.slice none 0 0,iv 0]) rfl type32 rfl rfl rfl e4 rfl) ?_
 rintro w31 ⟨hC,hF⟩
 refine lp (iv 2) (qab rfl)<|ln (hK30 _ _ ?_)
 replace hC:=hC.nil 3 si
 replace hC:=hC.nil 3 si
 obtain rfl:=os hb
 refine Wc.ret (hKR _ _ ?_)
 refine ⟨_,res2 results37 ⟨_,e4,qai (hC.bx (i:=2) rfl) isAgg32 sizeOf32⟩ (tV (iv 2) rfl),_,rfl,none,0,0,none,0,0,rfl,(show I64 0 from by unfold I64; omega),(show I64 2 from by unfold I64; omega),hC.sE [1,0]⟩
 replace hb:=tf hq29 hb
 refine Wc.skip (hK22 _ _ ?_)
 refine Wc.seq fun _ hK34=>rg<|lp _ (qaa e1) ?_
 obtain ⟨z35,h36,hb⟩:=bd hb
 refine lp (iv z35) (qfx (a:=4) (b:=f) rfl rfl h36)<|lp (iv z35) (qab rfl)<|ln (hK34 _ _ ?_)
 refine Wc.fresh fun E37 hE=>?_
 have e1:=cg hE 1 e1
 have e2:=cg hE 2 e2
 have e4:=cg hE 4 e4
 have e5:=cg hE 5 e5
 have e7:E37 7=iv z35:=cg hE 7 rfl
 clear hE
 refine Wc.seq fun _ hK38=>rg<|lp _ (qaa e7) ?_
 obtain ⟨z39,h40,hb⟩:=bd hb
 refine lp (iv z39) (qau (a:=z35) (b:=3) rfl rfl h40)<|lp _ (qaa e7) ?_
 obtain ⟨z41,h42,hb⟩:=bd hb
 refine lp (iv z41) (qau (a:=z35) (b:=1) rfl rfl h42)<|lp (iv z39) (qab rfl)<|lp (iv z41) (qab rfl)<|ln (hK38 _ _ ?_)
 refine Wc.seqJ (fun E wv=> ∃(c:Int) (d:Int),E 1=iv f∧E 2=pg g4∧E 4=pg g7∧E 5=iv 0∧E 7=iv z35∧E 8=iv c∧E 9=iv d∧I64 c∧I64 d∧Cx (fun _=>False) O0 w wv [.box g4 32 [.slice u j.length x,.slice y g.length l,iv D],.ro (.sl si) [.slice u j.length x] j,.ro (.sl si) [.slice y g.length l] g,.box g7 32 [.slice none 0 0,.slice none 0 0,iv 0]]∧F.qgl n j g D f z35 c d=some r) (fun _ hK43=>?_) ?_
 refine Wc.seq fun _ hK44=>rg<|lp (.pointer (some ((⟨g4,0,none⟩:Addr).add 0))) (qaf (sz:=1) underlying32 rfl sizeOf22 (by decide) rfl e2)<|lv (.slice u j.length x) (qal (hC.bx (i:=1) rfl) isAgg22 rfl rfl)<|lp _ (qaa e1) ?_
 obtain ⟨x45,h46,hb⟩:=bd hb
 obtain ⟨ad47,cs48,hA,hc49,hr50⟩:=hC.elr (i:=3) rfl (qad h46).2
 subst hA
 refine lp (.pointer (some (ad47.add (f.toNat*1)))) (qar (a:=f) underlying22 sizeOf3 rfl rfl (qad h46).1) ?_
 obtain ⟨rfl,hr50'⟩:=hr50
 refine lv (iv x45) (qaw isAgg3 rfl (hc49 0 _ rfl))<|lp (.bool (decide (x45=(-1)))) (qbl (k:=.i64) (a:=x45) (b:=(-1)) rfl rfl)<|ln (hK44 _ _ ?_)
 refine Wc.fresh fun E51 hE=>?_
 have e1:=cg hE 1 e1
 have e2:=cg hE 2 e2
 have e4:=cg hE 4 e4
 have e5:=cg hE 5 e5
 have e7:=cg hE 7 e7
 have e8:E51 8=iv z39:=cg hE 8 rfl
 have e9:E51 9=iv z41:=cg hE 9 rfl
 have e45:E51 45=.bool (decide (x45=(-1))):=cg hE 45 rfl
 clear hE
 refine Wc.cond (t:=(decide (x45=(-1)))) (e45) (fun hq52=>?_) (fun hq52=>?_)
 replace hb:=tt hq52 hb
 refine rg<|lp _ (qaa e9)<|lp _ (qaa e8)<|lp (iv z41) (qab rfl)<|lp (iv z39) (qab rfl)<|ln ?_
 exact hK43 _ _ ⟨z41,z39,e1,e2,e4,e5,e7,rfl,rfl,(qah h42),(qah h40),hC.sE [1,3,2,0],hb⟩
 replace hb:=tf hq52 hb
 refine Wc.skip ?_
 exact hK43 _ _ ⟨z39,z41,e1,e2,e4,e5,e7,e8,e9,(qah h40),(qah h42),hC.sE [1,3,2,0],hb⟩
 clear hb hC
 rintro E54 w53 ⟨c,d,e1,e2,e4,e5,e7,e8,e9,o,p,hC,hb⟩
 unfold F.qgl at hb
 refine Wc.seqJ (fun E wv=> ∃(gP10:Nat) (G:List (Int×Int)),E 1=iv f∧E 2=pg g4∧E 4=pg g7∧E 5=iv 0∧E 7=iv z35∧E 8=iv c∧E 10=.map (some gP10)∧Cx (fun _=>False) O0 w wv [.box g4 32 [.slice u j.length x,.slice y g.length l,iv D],.ro (.sl si) [.slice u j.length x] j,.ro (.sl si) [.slice y g.length l] g,.box g7 32 [.slice none 0 0,.slice none 0 0,iv 0],.mp gP10 .int si G]∧F.qgk n j g D f z35 c G=some r) (fun _ hK55=>?_) ?_
 refine Wc.regionPlan [] (frm [] ([]:List Fact) ([]:List Fact)) (chainP [0,1,2,4,5,7,8,9,11,12,13] (.alt (chainP [3] (.alt (chainP [6] (.alt (chainP [10] (chainP [14,15,16] .done)) (chainP [14] (chainP [10,15,16] .done)))) (.alt (chainP [10] (.alt (chainP [6] (chainP [14,15,16] .done)) (chainP [14] (chainP [6,15,16] .done)))) (chainP [14] (.alt (chainP [6] (chainP [10,15,16] .done)) (chainP [10] (chainP [6,15,16] .done))))))) (.alt (chainP [6] (.alt (chainP [3] (.alt (chainP [10] (chainP [14,15,16] .done)) (chainP [14] (chainP [10,15,16] .done)))) (.alt (chainP [10] (.alt (chainP [3] (chainP [14,15,16] .done)) (chainP [14] (chainP [3,15,16] .done)))) (chainP [14] (.alt (chainP [3] (chainP [10,15,16] .done)) (chainP [10] (chainP [3,15,16] .done))))))) (.alt (chainP [10] (.alt (chainP [3] (.alt (chainP [6] (chainP [14,15,16] .done)) (chainP [14] (chainP [6,15,16] .done)))) (.alt (chainP [6] (.alt (chainP [3] (chainP [14,15,16] .done)) (chainP [14] (chainP [3,15,16] .done)))) (chainP [14] (.alt (chainP [3] (chainP [6,15,16] .done)) (chainP [6] (chainP [3,15,16] .done))))))) (chainP [14] (.alt (chainP [3] (.alt (chainP [6] (chainP [10,15,16] .done)) (chainP [10] (chainP [6,15,16] .done)))) (.alt (chainP [6] (.alt (chainP [3] (chainP [10,15,16] .done)) (chainP [10] (chainP [3,15,16] .done)))) (chainP [10] (.alt (chainP [3] (chainP [6,15,16] .done)) (chainP [6] (chainP [3,15,16] .done))))))))))) (fun _=>rfl) mixed (by decide+kernel) (by decide+kernel) fun w57 hw56=>?_
 replace hC:=hC.step (Fr.qcx hw56)
 have hM:=Fr.refl (fun k=>k∈blocks ([]:List Fact)) w57
 clear hw56
 have hS:=hC
 refine qac ?_
 refine mixE.op hM (hC.mkmp .int si) ?_
 rintro _ w59 ⟨g58,rfl,hC,hF,hG⟩
 have hVf60:g58<w57.heap.size→g58∈blocks ([]:List Fact):=fun h=>absurd (Nat.lt_of_lt_of_le h (Nat.le_trans hM.size hG)) (Nat.lt_irrefl _)
 replace hM:=hM.none hF
 clear hF hG
 refine ⟨hM,?_⟩
 refine mp (iv z35) (qaa e7)<|mp (iv d) (qaa e9)<|mp (iv d) (qaa e9)<|mp (iv z35) (qaa e7)<|mp (iv c) (qaa e8)<|mp (iv z35) (qaa e7) ?_
 obtain ⟨z61,h62,hb⟩:=bd hb
 refine mp (iv z61) (qau (a:=z35) (b:=2) rfl rfl h62)<|mp (iv z35) (qaa e7) ?_
 obtain ⟨z63,h64,hb⟩:=bd hb
 refine mp (iv z63) (qau (a:=z35) (b:=2) rfl rfl h64)<|mp (iv c) (qaa e8)<|mixE.nil ?_
 refine qas ?_ ?_
 refine qac ?_
 refine mixE.ssk hM (hC.mpins (i:=0) (k:=z35) (cs:=[iv d]) (v:=d) rfl (KL.int underlying3) (qah h36) underlying82 (⟨rfl,I64.wr p⟩) rfl rfl rfl) ?_
 rintro w65 ⟨hC,hF⟩
 replace hM:=hM.besideG hVf60 hF
 clear hF
 refine ⟨hM,?_⟩
 refine mixE.nil ?_
 refine qas ?_ ?_
 refine qac ?_
 refine mixE.ssk hM (hC.mpins (i:=0) (k:=d) (cs:=[iv z35]) (v:=z35) rfl (KL.int underlying3) p underlying82 (⟨rfl,I64.wr (qah h36)⟩) rfl rfl rfl) ?_
 rintro w66 ⟨hC,hF⟩
 replace hM:=hM.besideG hVf60 hF
 clear hF
 refine ⟨hM,?_⟩
 refine mixE.nil ?_
 refine qas ?_ ?_
 refine qac ?_
 refine mixE.ssk hM (hC.mpins (i:=0) (k:=c) (cs:=[iv z61]) (v:=z61) rfl (KL.int underlying3) o underlying82 (⟨rfl,I64.wr (qah h62)⟩) rfl rfl rfl) ?_
 rintro w67 ⟨hC,hF⟩
 replace hM:=hM.besideG hVf60 hF
 clear hF
 refine ⟨hM,?_⟩
 refine mixE.nil ?_
 refine qac ?_
 refine mixE.ssk hM (hC.mpins (i:=0) (k:=z63) (cs:=[iv c]) (v:=c) rfl (KL.int underlying3) (qah h64) underlying82 (⟨rfl,I64.wr o⟩) rfl rfl rfl) ?_
 rintro w68 ⟨hC,hF⟩
 replace hM:=hM.besideG hVf60 hF
 clear hF
 refine ⟨hM,?_⟩
 refine mp (.map (some g58)) (qaa rfl)<|mp (.map (some g58)) (qab rfl)<|mixE.nil ?_
 obtain ⟨u69,h70,hb⟩:=bd hb
 replace hC:=hC.mpperm (i:=0) rfl (qci (kvs:=([(z35,d),(d,z35),(c,z61),(z63,c)]:List (Int×Int))) (qcb h70) (List.Perm.map (fun i=>([(z35,d),(d,z35),(c,z61),(z63,c)]:List (Int×Int)).getD i (z35,d)) (show [0,1,2,3].Perm [0,1,2,3] by decide)))
 clear hS hM
 exact hK55 _ _ ⟨g58,([(z35,d),(d,z35),(c,z61),(z63,c)]:List (Int×Int)),e1,e2,e4,e5,e7,e8,rfl,hC.sE [1,2,3,4,0],hb⟩
 refine qac ?_
 refine mixE.ssk hM (hC.mpins (i:=0) (k:=z63) (cs:=[iv c]) (v:=c) rfl (KL.int underlying3) (qah h64) underlying82 (⟨rfl,I64.wr o⟩) rfl rfl rfl) ?_
 rintro w71 ⟨hC,hF⟩
 replace hM:=hM.besideG hVf60 hF
 clear hF
 refine ⟨hM,?_⟩
 refine mixE.nil ?_
 refine qac ?_
 refine mixE.ssk hM (hC.mpins (i:=0) (k:=c) (cs:=[iv z61]) (v:=z61) rfl (KL.int underlying3) o underlying82 (⟨rfl,I64.wr (qah h62)⟩) rfl rfl rfl) ?_
 rintro w72 ⟨hC,hF⟩
 replace hM:=hM.besideG hVf60 hF
 clear hF
 refine ⟨hM,?_⟩
 refine mp (.map (some g58)) (qaa rfl)<|mp (.map (some g58)) (qab rfl)<|mixE.nil ?_
 obtain ⟨u69,h74,hb⟩:=bd hb
 replace hC:=hC.mpperm (i:=0) rfl (qci (kvs:=([(z35,d),(d,z35),(c,z61),(z63,c)]:List (Int×Int))) (qcb h74) (List.Perm.map (fun i=>([(z35,d),(d,z35),(c,z61),(z63,c)]:List (Int×Int)).getD i (z35,d)) (show [0,1,3,2].Perm [0,1,2,3] by decide)))
 clear hS hM
 exact hK55 _ _ ⟨g58,([(z35,d),(d,z35),(c,z61),(z63,c)]:List (Int×Int)),e1,e2,e4,e5,e7,e8,rfl,hC.sE [1,2,3,4,0],hb⟩
 refine qas ?_ ?_
 refine qac ?_
 refine mixE.ssk hM (hC.mpins (i:=0) (k:=c) (cs:=[iv z61]) (v:=z61) rfl (KL.int underlying3) o underlying82 (⟨rfl,I64.wr (qah h62)⟩) rfl rfl rfl) ?_
 rintro w75 ⟨hC,hF⟩
 replace hM:=hM.besideG hVf60 hF
 clear hF
 refine ⟨hM,?_⟩
 refine mixE.nil ?_
 refine qas ?_ ?_
 refine qac ?_
 refine mixE.ssk hM (hC.mpins (i:=0) (k:=d) (cs:=[iv z35]) (v:=z35) rfl (KL.int underlying3) p underlying82 (⟨rfl,I64.wr (qah h36)⟩) rfl rfl rfl) ?_
 rintro w76 ⟨hC,hF⟩
 replace hM:=hM.besideG hVf60 hF
 clear hF
 refine ⟨hM,?_⟩
 refine mixE.nil ?_
 refine qac ?_
 refine mixE.ssk hM (hC.mpins (i:=0) (k:=z63) (cs:=[iv c]) (v:=c) rfl (KL.int underlying3) (qah h64) underlying82 (⟨rfl,I64.wr o⟩) rfl rfl rfl) ?_
 rintro w77 ⟨hC,hF⟩
 replace hM:=hM.besideG hVf60 hF
 clear hF
 refine ⟨hM,?_⟩
 refine mp (.map (some g58)) (qaa rfl)<|mp (.map (some g58)) (qab rfl)<|mixE.nil ?_
 obtain ⟨u69,h79,hb⟩:=bd hb
 replace hC:=hC.mpperm (i:=0) rfl (qci (kvs:=([(z35,d),(d,z35),(c,z61),(z63,c)]:List (Int×Int))) (qcb h79) (List.Perm.map (fun i=>([(z35,d),(d,z35),(c,z61),(z63,c)]:List (Int×Int)).getD i (z35,d)) (show [0,2,1,3].Perm [0,1,2,3] by decide)))
 clear hS hM
 exact hK55 _ _ ⟨g58,([(z35,d),(d,z35),(c,z61),(z63,c)]:List (Int×Int)),e1,e2,e4,e5,e7,e8,rfl,hC.sE [1,2,3,4,0],hb⟩
 refine qac ?_
 refine mixE.ssk hM (hC.mpins (i:=0) (k:=z63) (cs:=[iv c]) (v:=c) rfl (KL.int underlying3) (qah h64) underlying82 (⟨rfl,I64.wr o⟩) rfl rfl rfl) ?_
 rintro w80 ⟨hC,hF⟩
 replace hM:=hM.besideG hVf60 hF
 clear hF
 refine ⟨hM,?_⟩
 refine mixE.nil ?_
 refine qac ?_
 refine mixE.ssk hM (hC.mpins (i:=0) (k:=d) (cs:=[iv z35]) (v:=z35) rfl (KL.int underlying3) p underlying82 (⟨rfl,I64.wr (qah h36)⟩) rfl rfl rfl) ?_
 rintro w81 ⟨hC,hF⟩
 replace hM:=hM.besideG hVf60 hF
 clear hF
 refine ⟨hM,?_⟩
 refine mp (.map (some g58)) (qaa rfl)<|mp (.map (some g58)) (qab rfl)<|mixE.nil ?_
 obtain ⟨u69,h83,hb⟩:=bd hb
 replace hC:=hC.mpperm (i:=0) rfl (qci (kvs:=([(z35,d),(d,z35),(c,z61),(z63,c)]:List (Int×Int))) (qcb h83) (List.Perm.map (fun i=>([(z35,d),(d,z35),(c,z61),(z63,c)]:List (Int×Int)).getD i (z35,d)) (show [0,2,3,1].Perm [0,1,2,3] by decide)))
 clear hS hM
 exact hK55 _ _ ⟨g58,([(z35,d),(d,z35),(c,z61),(z63,c)]:List (Int×Int)),e1,e2,e4,e5,e7,e8,rfl,hC.sE [1,2,3,4,0],hb⟩
 refine qac ?_
 refine mixE.ssk hM (hC.mpins (i:=0) (k:=z63) (cs:=[iv c]) (v:=c) rfl (KL.int underlying3) (qah h64) underlying82 (⟨rfl,I64.wr o⟩) rfl rfl rfl) ?_
 rintro w84 ⟨hC,hF⟩
 replace hM:=hM.besideG hVf60 hF
 clear hF
 refine ⟨hM,?_⟩
 refine mixE.nil ?_
 refine qas ?_ ?_
 refine qac ?_
 refine mixE.ssk hM (hC.mpins (i:=0) (k:=d) (cs:=[iv z35]) (v:=z35) rfl (KL.int underlying3) p underlying82 (⟨rfl,I64.wr (qah h36)⟩) rfl rfl rfl) ?_
 rintro w85 ⟨hC,hF⟩
 replace hM:=hM.besideG hVf60 hF
 clear hF
 refine ⟨hM,?_⟩
 refine mixE.nil ?_
 refine qac ?_
 refine mixE.ssk hM (hC.mpins (i:=0) (k:=c) (cs:=[iv z61]) (v:=z61) rfl (KL.int underlying3) o underlying82 (⟨rfl,I64.wr (qah h62)⟩) rfl rfl rfl) ?_
 rintro w86 ⟨hC,hF⟩
 replace hM:=hM.besideG hVf60 hF
 clear hF
 refine ⟨hM,?_⟩
 refine mp (.map (some g58)) (qaa rfl)<|mp (.map (some g58)) (qab rfl)<|mixE.nil ?_
 obtain ⟨u69,h88,hb⟩:=bd hb
 replace hC:=hC.mpperm (i:=0) rfl (qci (kvs:=([(z35,d),(d,z35),(c,z61),(z63,c)]:List (Int×Int))) (qcb h88) (List.Perm.map (fun i=>([(z35,d),(d,z35),(c,z61),(z63,c)]:List (Int×Int)).getD i (z35,d)) (show [0,3,1,2].Perm [0,1,2,3] by decide)))
 clear hS hM
 exact hK55 _ _ ⟨g58,([(z35,d),(d,z35),(c,z61),(z63,c)]:List (Int×Int)),e1,e2,e4,e5,e7,e8,rfl,hC.sE [1,2,3,4,0],hb⟩
 refine qac ?_
 refine mixE.ssk hM (hC.mpins (i:=0) (k:=c) (cs:=[iv z61]) (v:=z61) rfl (KL.int underlying3) o underlying82 (⟨rfl,I64.wr (qah h62)⟩) rfl rfl rfl) ?_
 rintro w89 ⟨hC,hF⟩
 replace hM:=hM.besideG hVf60 hF
 clear hF
 refine ⟨hM,?_⟩
 refine mixE.nil ?_
 refine qac ?_
 refine mixE.ssk hM (hC.mpins (i:=0) (k:=d) (cs:=[iv z35]) (v:=z35) rfl (KL.int underlying3) p underlying82 (⟨rfl,I64.wr (qah h36)⟩) rfl rfl rfl) ?_
 rintro w90 ⟨hC,hF⟩
 replace hM:=hM.besideG hVf60 hF
 clear hF
 refine ⟨hM,?_⟩
 refine mp (.map (some g58)) (qaa rfl)<|mp (.map (some g58)) (qab rfl)<|mixE.nil ?_
 obtain ⟨u69,h92,hb⟩:=bd hb
 replace hC:=hC.mpperm (i:=0) rfl (qci (kvs:=([(z35,d),(d,z35),(c,z61),(z63,c)]:List (Int×Int))) (qcb h92) (List.Perm.map (fun i=>([(z35,d),(d,z35),(c,z61),(z63,c)]:List (Int×Int)).getD i (z35,d)) (show [0,3,2,1].Perm [0,1,2,3] by decide)))
 clear hS hM
 exact hK55 _ _ ⟨g58,([(z35,d),(d,z35),(c,z61),(z63,c)]:List (Int×Int)),e1,e2,e4,e5,e7,e8,rfl,hC.sE [1,2,3,4,0],hb⟩
 refine qas ?_ ?_
 refine qac ?_
 refine mixE.ssk hM (hC.mpins (i:=0) (k:=d) (cs:=[iv z35]) (v:=z35) rfl (KL.int underlying3) p underlying82 (⟨rfl,I64.wr (qah h36)⟩) rfl rfl rfl) ?_
 rintro w93 ⟨hC,hF⟩
 replace hM:=hM.besideG hVf60 hF
 clear hF
 refine ⟨hM,?_⟩
 refine mixE.nil ?_
 refine qas ?_ ?_
 refine qac ?_
 refine mixE.ssk hM (hC.mpins (i:=0) (k:=z35) (cs:=[iv d]) (v:=d) rfl (KL.int underlying3) (qah h36) underlying82 (⟨rfl,I64.wr p⟩) rfl rfl rfl) ?_
 rintro w94 ⟨hC,hF⟩
 replace hM:=hM.besideG hVf60 hF
 clear hF
 refine ⟨hM,?_⟩
 refine mixE.nil ?_
 refine qas ?_ ?_
 refine qac ?_
 refine mixE.ssk hM (hC.mpins (i:=0) (k:=c) (cs:=[iv z61]) (v:=z61) rfl (KL.int underlying3) o underlying82 (⟨rfl,I64.wr (qah h62)⟩) rfl rfl rfl) ?_
 rintro w95 ⟨hC,hF⟩
 replace hM:=hM.besideG hVf60 hF
 clear hF
 refine ⟨hM,?_⟩
 refine mixE.nil ?_
 refine qac ?_
 refine mixE.ssk hM (hC.mpins (i:=0) (k:=z63) (cs:=[iv c]) (v:=c) rfl (KL.int underlying3) (qah h64) underlying82 (⟨rfl,I64.wr o⟩) rfl rfl rfl) ?_
 rintro w96 ⟨hC,hF⟩
 replace hM:=hM.besideG hVf60 hF
 clear hF
 refine ⟨hM,?_⟩
 refine mp (.map (some g58)) (qaa rfl)<|mp (.map (some g58)) (qab rfl)<|mixE.nil ?_
 obtain ⟨u69,h98,hb⟩:=bd hb
 replace hC:=hC.mpperm (i:=0) rfl (qci (kvs:=([(z35,d),(d,z35),(c,z61),(z63,c)]:List (Int×Int))) (qcb h98) (List.Perm.map (fun i=>([(z35,d),(d,z35),(c,z61),(z63,c)]:List (Int×Int)).getD i (z35,d)) (show [1,0,2,3].Perm [0,1,2,3] by decide)))
 clear hS hM
 exact hK55 _ _ ⟨g58,([(z35,d),(d,z35),(c,z61),(z63,c)]:List (Int×Int)),e1,e2,e4,e5,e7,e8,rfl,hC.sE [1,2,3,4,0],hb⟩
 refine qac ?_
 refine mixE.ssk hM (hC.mpins (i:=0) (k:=z63) (cs:=[iv c]) (v:=c) rfl (KL.int underlying3) (qah h64) underlying82 (⟨rfl,I64.wr o⟩) rfl rfl rfl) ?_
 rintro w99 ⟨hC,hF⟩
 replace hM:=hM.besideG hVf60 hF
 clear hF
 refine ⟨hM,?_⟩
 refine mixE.nil ?_
 refine qac ?_
 refine mixE.ssk hM (hC.mpins (i:=0) (k:=c) (cs:=[iv z61]) (v:=z61) rfl (KL.int underlying3) o underlying82 (⟨rfl,I64.wr (qah h62)⟩) rfl rfl rfl) ?_
 rintro w100 ⟨hC,hF⟩
 replace hM:=hM.besideG hVf60 hF
 clear hF
 refine ⟨hM,?_⟩
 refine mp (.map (some g58)) (qaa rfl)<|mp (.map (some g58)) (qab rfl)<|mixE.nil ?_
 obtain ⟨u69,h102,hb⟩:=bd hb
 replace hC:=hC.mpperm (i:=0) rfl (qci (kvs:=([(z35,d),(d,z35),(c,z61),(z63,c)]:List (Int×Int))) (qcb h102) (List.Perm.map (fun i=>([(z35,d),(d,z35),(c,z61),(z63,c)]:List (Int×Int)).getD i (z35,d)) (show [1,0,3,2].Perm [0,1,2,3] by decide)))
 clear hS hM
 exact hK55 _ _ ⟨g58,([(z35,d),(d,z35),(c,z61),(z63,c)]:List (Int×Int)),e1,e2,e4,e5,e7,e8,rfl,hC.sE [1,2,3,4,0],hb⟩
 refine qas ?_ ?_
 refine qac ?_
 refine mixE.ssk hM (hC.mpins (i:=0) (k:=c) (cs:=[iv z61]) (v:=z61) rfl (KL.int underlying3) o underlying82 (⟨rfl,I64.wr (qah h62)⟩) rfl rfl rfl) ?_
 rintro w103 ⟨hC,hF⟩
 replace hM:=hM.besideG hVf60 hF
 clear hF
 refine ⟨hM,?_⟩
 refine mixE.nil ?_
 refine qas ?_ ?_
 refine qac ?_
 refine mixE.ssk hM (hC.mpins (i:=0) (k:=z35) (cs:=[iv d]) (v:=d) rfl (KL.int underlying3) (qah h36) underlying82 (⟨rfl,I64.wr p⟩) rfl rfl rfl) ?_
 rintro w104 ⟨hC,hF⟩
 replace hM:=hM.besideG hVf60 hF
 clear hF
 refine ⟨hM,?_⟩
 refine mixE.nil ?_
 refine qac ?_
 refine mixE.ssk hM (hC.mpins (i:=0) (k:=z63) (cs:=[iv c]) (v:=c) rfl (KL.int underlying3) (qah h64) underlying82 (⟨rfl,I64.wr o⟩) rfl rfl rfl) ?_
 rintro w105 ⟨hC,hF⟩
 replace hM:=hM.besideG hVf60 hF
 clear hF
 refine ⟨hM,?_⟩
 refine mp (.map (some g58)) (qaa rfl)<|mp (.map (some g58)) (qab rfl)<|mixE.nil ?_
 obtain ⟨u69,h107,hb⟩:=bd hb
 replace hC:=hC.mpperm (i:=0) rfl (qci (kvs:=([(z35,d),(d,z35),(c,z61),(z63,c)]:List (Int×Int))) (qcb h107) (List.Perm.map (fun i=>([(z35,d),(d,z35),(c,z61),(z63,c)]:List (Int×Int)).getD i (z35,d)) (show [1,2,0,3].Perm [0,1,2,3] by decide)))
 clear hS hM
 exact hK55 _ _ ⟨g58,([(z35,d),(d,z35),(c,z61),(z63,c)]:List (Int×Int)),e1,e2,e4,e5,e7,e8,rfl,hC.sE [1,2,3,4,0],hb⟩
 refine qac ?_
 refine mixE.ssk hM (hC.mpins (i:=0) (k:=z63) (cs:=[iv c]) (v:=c) rfl (KL.int underlying3) (qah h64) underlying82 (⟨rfl,I64.wr o⟩) rfl rfl rfl) ?_
 rintro w108 ⟨hC,hF⟩
 replace hM:=hM.besideG hVf60 hF
 clear hF
 refine ⟨hM,?_⟩
 refine mixE.nil ?_
 refine qac ?_
 refine mixE.ssk hM (hC.mpins (i:=0) (k:=z35) (cs:=[iv d]) (v:=d) rfl (KL.int underlying3) (qah h36) underlying82 (⟨rfl,I64.wr p⟩) rfl rfl rfl) ?_
 rintro w109 ⟨hC,hF⟩
 replace hM:=hM.besideG hVf60 hF
 clear hF
 refine ⟨hM,?_⟩
 refine mp (.map (some g58)) (qaa rfl)<|mp (.map (some g58)) (qab rfl)<|mixE.nil ?_
 obtain ⟨u69,h111,hb⟩:=bd hb
 replace hC:=hC.mpperm (i:=0) rfl (qci (kvs:=([(z35,d),(d,z35),(c,z61),(z63,c)]:List (Int×Int))) (qcb h111) (List.Perm.map (fun i=>([(z35,d),(d,z35),(c,z61),(z63,c)]:List (Int×Int)).getD i (z35,d)) (show [1,2,3,0].Perm [0,1,2,3] by decide)))
 clear hS hM
 exact hK55 _ _ ⟨g58,([(z35,d),(d,z35),(c,z61),(z63,c)]:List (Int×Int)),e1,e2,e4,e5,e7,e8,rfl,hC.sE [1,2,3,4,0],hb⟩
 refine qac ?_
 refine mixE.ssk hM (hC.mpins (i:=0) (k:=z63) (cs:=[iv c]) (v:=c) rfl (KL.int underlying3) (qah h64) underlying82 (⟨rfl,I64.wr o⟩) rfl rfl rfl) ?_
 rintro w112 ⟨hC,hF⟩
 replace hM:=hM.besideG hVf60 hF
 clear hF
 refine ⟨hM,?_⟩
 refine mixE.nil ?_
 refine qas ?_ ?_
 refine qac ?_
 refine mixE.ssk hM (hC.mpins (i:=0) (k:=z35) (cs:=[iv d]) (v:=d) rfl (KL.int underlying3) (qah h36) underlying82 (⟨rfl,I64.wr p⟩) rfl rfl rfl) ?_
 rintro w113 ⟨hC,hF⟩
 replace hM:=hM.besideG hVf60 hF
 clear hF
 refine ⟨hM,?_⟩
 refine mixE.nil ?_
 refine qac ?_
 refine mixE.ssk hM (hC.mpins (i:=0) (k:=c) (cs:=[iv z61]) (v:=z61) rfl (KL.int underlying3) o underlying82 (⟨rfl,I64.wr (qah h62)⟩) rfl rfl rfl) ?_
 rintro w114 ⟨hC,hF⟩
 replace hM:=hM.besideG hVf60 hF
 clear hF
 refine ⟨hM,?_⟩
 refine mp (.map (some g58)) (qaa rfl)<|mp (.map (some g58)) (qab rfl)<|mixE.nil ?_
 obtain ⟨u69,h116,hb⟩:=bd hb
 replace hC:=hC.mpperm (i:=0) rfl (qci (kvs:=([(z35,d),(d,z35),(c,z61),(z63,c)]:List (Int×Int))) (qcb h116) (List.Perm.map (fun i=>([(z35,d),(d,z35),(c,z61),(z63,c)]:List (Int×Int)).getD i (z35,d)) (show [1,3,0,2].Perm [0,1,2,3] by decide)))
 clear hS hM
 exact hK55 _ _ ⟨g58,([(z35,d),(d,z35),(c,z61),(z63,c)]:List (Int×Int)),e1,e2,e4,e5,e7,e8,rfl,hC.sE [1,2,3,4,0],hb⟩
 refine qac ?_
 refine mixE.ssk hM (hC.mpins (i:=0) (k:=c) (cs:=[iv z61]) (v:=z61) rfl (KL.int underlying3) o underlying82 (⟨rfl,I64.wr (qah h62)⟩) rfl rfl rfl) ?_
 rintro w117 ⟨hC,hF⟩
 replace hM:=hM.besideG hVf60 hF
 clear hF
 refine ⟨hM,?_⟩
 refine mixE.nil ?_
 refine qac ?_
 refine mixE.ssk hM (hC.mpins (i:=0) (k:=z35) (cs:=[iv d]) (v:=d) rfl (KL.int underlying3) (qah h36) underlying82 (⟨rfl,I64.wr p⟩) rfl rfl rfl) ?_
 rintro w118 ⟨hC,hF⟩
 replace hM:=hM.besideG hVf60 hF
 clear hF
 refine ⟨hM,?_⟩
 refine mp (.map (some g58)) (qaa rfl)<|mp (.map (some g58)) (qab rfl)<|mixE.nil ?_
 obtain ⟨u69,h120,hb⟩:=bd hb
 replace hC:=hC.mpperm (i:=0) rfl (qci (kvs:=([(z35,d),(d,z35),(c,z61),(z63,c)]:List (Int×Int))) (qcb h120) (List.Perm.map (fun i=>([(z35,d),(d,z35),(c,z61),(z63,c)]:List (Int×Int)).getD i (z35,d)) (show [1,3,2,0].Perm [0,1,2,3] by decide)))
 clear hS hM
 exact hK55 _ _ ⟨g58,([(z35,d),(d,z35),(c,z61),(z63,c)]:List (Int×Int)),e1,e2,e4,e5,e7,e8,rfl,hC.sE [1,2,3,4,0],hb⟩
 refine qas ?_ ?_
 refine qac ?_
 refine mixE.ssk hM (hC.mpins (i:=0) (k:=c) (cs:=[iv z61]) (v:=z61) rfl (KL.int underlying3) o underlying82 (⟨rfl,I64.wr (qah h62)⟩) rfl rfl rfl) ?_
 rintro w121 ⟨hC,hF⟩
 replace hM:=hM.besideG hVf60 hF
 clear hF
 refine ⟨hM,?_⟩
 refine mixE.nil ?_
 refine qas ?_ ?_
 refine qac ?_
 refine mixE.ssk hM (hC.mpins (i:=0) (k:=z35) (cs:=[iv d]) (v:=d) rfl (KL.int underlying3) (qah h36) underlying82 (⟨rfl,I64.wr p⟩) rfl rfl rfl) ?_
 rintro w122 ⟨hC,hF⟩
 replace hM:=hM.besideG hVf60 hF
 clear hF
 refine ⟨hM,?_⟩
 refine mixE.nil ?_
 refine qas ?_ ?_
 refine qac ?_
 refine mixE.ssk hM (hC.mpins (i:=0) (k:=d) (cs:=[iv z35]) (v:=z35) rfl (KL.int underlying3) p underlying82 (⟨rfl,I64.wr (qah h36)⟩) rfl rfl rfl) ?_
 rintro w123 ⟨hC,hF⟩
 replace hM:=hM.besideG hVf60 hF
 clear hF
 refine ⟨hM,?_⟩
 refine mixE.nil ?_
 refine qac ?_
 refine mixE.ssk hM (hC.mpins (i:=0) (k:=z63) (cs:=[iv c]) (v:=c) rfl (KL.int underlying3) (qah h64) underlying82 (⟨rfl,I64.wr o⟩) rfl rfl rfl) ?_
 rintro w124 ⟨hC,hF⟩
 replace hM:=hM.besideG hVf60 hF
 clear hF
 refine ⟨hM,?_⟩
 refine mp (.map (some g58)) (qaa rfl)<|mp (.map (some g58)) (qab rfl)<|mixE.nil ?_
 obtain ⟨u69,h126,hb⟩:=bd hb
 replace hC:=hC.mpperm (i:=0) rfl (qci (kvs:=([(z35,d),(d,z35),(c,z61),(z63,c)]:List (Int×Int))) (qcb h126) (List.Perm.map (fun i=>([(z35,d),(d,z35),(c,z61),(z63,c)]:List (Int×Int)).getD i (z35,d)) (show [2,0,1,3].Perm [0,1,2,3] by decide)))
 clear hS hM
 exact hK55 _ _ ⟨g58,([(z35,d),(d,z35),(c,z61),(z63,c)]:List (Int×Int)),e1,e2,e4,e5,e7,e8,rfl,hC.sE [1,2,3,4,0],hb⟩
 refine qac ?_
 refine mixE.ssk hM (hC.mpins (i:=0) (k:=z63) (cs:=[iv c]) (v:=c) rfl (KL.int underlying3) (qah h64) underlying82 (⟨rfl,I64.wr o⟩) rfl rfl rfl) ?_
 rintro w127 ⟨hC,hF⟩
 replace hM:=hM.besideG hVf60 hF
 clear hF
 refine ⟨hM,?_⟩
 refine mixE.nil ?_
 refine qac ?_
 refine mixE.ssk hM (hC.mpins (i:=0) (k:=d) (cs:=[iv z35]) (v:=z35) rfl (KL.int underlying3) p underlying82 (⟨rfl,I64.wr (qah h36)⟩) rfl rfl rfl) ?_
 rintro w128 ⟨hC,hF⟩
 replace hM:=hM.besideG hVf60 hF
 clear hF
 refine ⟨hM,?_⟩
 refine mp (.map (some g58)) (qaa rfl)<|mp (.map (some g58)) (qab rfl)<|mixE.nil ?_
 obtain ⟨u69,h130,hb⟩:=bd hb
 replace hC:=hC.mpperm (i:=0) rfl (qci (kvs:=([(z35,d),(d,z35),(c,z61),(z63,c)]:List (Int×Int))) (qcb h130) (List.Perm.map (fun i=>([(z35,d),(d,z35),(c,z61),(z63,c)]:List (Int×Int)).getD i (z35,d)) (show [2,0,3,1].Perm [0,1,2,3] by decide)))
 clear hS hM
 exact hK55 _ _ ⟨g58,([(z35,d),(d,z35),(c,z61),(z63,c)]:List (Int×Int)),e1,e2,e4,e5,e7,e8,rfl,hC.sE [1,2,3,4,0],hb⟩
 refine qas ?_ ?_
 refine qac ?_
 refine mixE.ssk hM (hC.mpins (i:=0) (k:=d) (cs:=[iv z35]) (v:=z35) rfl (KL.int underlying3) p underlying82 (⟨rfl,I64.wr (qah h36)⟩) rfl rfl rfl) ?_
 rintro w131 ⟨hC,hF⟩
 replace hM:=hM.besideG hVf60 hF
 clear hF
 refine ⟨hM,?_⟩
 refine mixE.nil ?_
 refine qas ?_ ?_
 refine qac ?_
 refine mixE.ssk hM (hC.mpins (i:=0) (k:=z35) (cs:=[iv d]) (v:=d) rfl (KL.int underlying3) (qah h36) underlying82 (⟨rfl,I64.wr p⟩) rfl rfl rfl) ?_
 rintro w132 ⟨hC,hF⟩
 replace hM:=hM.besideG hVf60 hF
 clear hF
 refine ⟨hM,?_⟩
 refine mixE.nil ?_
 refine qac ?_
 refine mixE.ssk hM (hC.mpins (i:=0) (k:=z63) (cs:=[iv c]) (v:=c) rfl (KL.int underlying3) (qah h64) underlying82 (⟨rfl,I64.wr o⟩) rfl rfl rfl) ?_
 rintro w133 ⟨hC,hF⟩
 replace hM:=hM.besideG hVf60 hF
 clear hF
 refine ⟨hM,?_⟩
 refine mp (.map (some g58)) (qaa rfl)<|mp (.map (some g58)) (qab rfl)<|mixE.nil ?_
 obtain ⟨u69,h135,hb⟩:=bd hb
 replace hC:=hC.mpperm (i:=0) rfl (qci (kvs:=([(z35,d),(d,z35),(c,z61),(z63,c)]:List (Int×Int))) (qcb h135) (List.Perm.map (fun i=>([(z35,d),(d,z35),(c,z61),(z63,c)]:List (Int×Int)).getD i (z35,d)) (show [2,1,0,3].Perm [0,1,2,3] by decide)))
 clear hS hM
 exact hK55 _ _ ⟨g58,([(z35,d),(d,z35),(c,z61),(z63,c)]:List (Int×Int)),e1,e2,e4,e5,e7,e8,rfl,hC.sE [1,2,3,4,0],hb⟩
 refine qac ?_
 refine mixE.ssk hM (hC.mpins (i:=0) (k:=z63) (cs:=[iv c]) (v:=c) rfl (KL.int underlying3) (qah h64) underlying82 (⟨rfl,I64.wr o⟩) rfl rfl rfl) ?_
 rintro w136 ⟨hC,hF⟩
 replace hM:=hM.besideG hVf60 hF
 clear hF
 refine ⟨hM,?_⟩
 refine mixE.nil ?_
 refine qac ?_
 refine mixE.ssk hM (hC.mpins (i:=0) (k:=z35) (cs:=[iv d]) (v:=d) rfl (KL.int underlying3) (qah h36) underlying82 (⟨rfl,I64.wr p⟩) rfl rfl rfl) ?_
 rintro w137 ⟨hC,hF⟩
 replace hM:=hM.besideG hVf60 hF
 clear hF
 refine ⟨hM,?_⟩
 refine mp (.map (some g58)) (qaa rfl)<|mp (.map (some g58)) (qab rfl)<|mixE.nil ?_
 obtain ⟨u69,h139,hb⟩:=bd hb
 replace hC:=hC.mpperm (i:=0) rfl (qci (kvs:=([(z35,d),(d,z35),(c,z61),(z63,c)]:List (Int×Int))) (qcb h139) (List.Perm.map (fun i=>([(z35,d),(d,z35),(c,z61),(z63,c)]:List (Int×Int)).getD i (z35,d)) (show [2,1,3,0].Perm [0,1,2,3] by decide)))
 clear hS hM
 exact hK55 _ _ ⟨g58,([(z35,d),(d,z35),(c,z61),(z63,c)]:List (Int×Int)),e1,e2,e4,e5,e7,e8,rfl,hC.sE [1,2,3,4,0],hb⟩
 refine qac ?_
 refine mixE.ssk hM (hC.mpins (i:=0) (k:=z63) (cs:=[iv c]) (v:=c) rfl (KL.int underlying3) (qah h64) underlying82 (⟨rfl,I64.wr o⟩) rfl rfl rfl) ?_
 rintro w140 ⟨hC,hF⟩
 replace hM:=hM.besideG hVf60 hF
 clear hF
 refine ⟨hM,?_⟩
 refine mixE.nil ?_
 refine qas ?_ ?_
 refine qac ?_
 refine mixE.ssk hM (hC.mpins (i:=0) (k:=z35) (cs:=[iv d]) (v:=d) rfl (KL.int underlying3) (qah h36) underlying82 (⟨rfl,I64.wr p⟩) rfl rfl rfl) ?_
 rintro w141 ⟨hC,hF⟩
 replace hM:=hM.besideG hVf60 hF
 clear hF
 refine ⟨hM,?_⟩
 refine mixE.nil ?_
 refine qac ?_
 refine mixE.ssk hM (hC.mpins (i:=0) (k:=d) (cs:=[iv z35]) (v:=z35) rfl (KL.int underlying3) p underlying82 (⟨rfl,I64.wr (qah h36)⟩) rfl rfl rfl) ?_
 rintro w142 ⟨hC,hF⟩
 replace hM:=hM.besideG hVf60 hF
 clear hF
 refine ⟨hM,?_⟩
 refine mp (.map (some g58)) (qaa rfl)<|mp (.map (some g58)) (qab rfl)<|mixE.nil ?_
 obtain ⟨u69,h144,hb⟩:=bd hb
 replace hC:=hC.mpperm (i:=0) rfl (qci (kvs:=([(z35,d),(d,z35),(c,z61),(z63,c)]:List (Int×Int))) (qcb h144) (List.Perm.map (fun i=>([(z35,d),(d,z35),(c,z61),(z63,c)]:List (Int×Int)).getD i (z35,d)) (show [2,3,0,1].Perm [0,1,2,3] by decide)))
 clear hS hM
 exact hK55 _ _ ⟨g58,([(z35,d),(d,z35),(c,z61),(z63,c)]:List (Int×Int)),e1,e2,e4,e5,e7,e8,rfl,hC.sE [1,2,3,4,0],hb⟩
 refine qac ?_
 refine mixE.ssk hM (hC.mpins (i:=0) (k:=d) (cs:=[iv z35]) (v:=z35) rfl (KL.int underlying3) p underlying82 (⟨rfl,I64.wr (qah h36)⟩) rfl rfl rfl) ?_
 rintro w145 ⟨hC,hF⟩
 replace hM:=hM.besideG hVf60 hF
 clear hF
 refine ⟨hM,?_⟩
 refine mixE.nil ?_
 refine qac ?_
 refine mixE.ssk hM (hC.mpins (i:=0) (k:=z35) (cs:=[iv d]) (v:=d) rfl (KL.int underlying3) (qah h36) underlying82 (⟨rfl,I64.wr p⟩) rfl rfl rfl) ?_
 rintro w146 ⟨hC,hF⟩
 replace hM:=hM.besideG hVf60 hF
 clear hF
 refine ⟨hM,?_⟩
 refine mp (.map (some g58)) (qaa rfl)<|mp (.map (some g58)) (qab rfl)<|mixE.nil ?_
 obtain ⟨u69,h148,hb⟩:=bd hb
 replace hC:=hC.mpperm (i:=0) rfl (qci (kvs:=([(z35,d),(d,z35),(c,z61),(z63,c)]:List (Int×Int))) (qcb h148) (List.Perm.map (fun i=>([(z35,d),(d,z35),(c,z61),(z63,c)]:List (Int×Int)).getD i (z35,d)) (show [2,3,1,0].Perm [0,1,2,3] by decide)))
 clear hS hM
 exact hK55 _ _ ⟨g58,([(z35,d),(d,z35),(c,z61),(z63,c)]:List (Int×Int)),e1,e2,e4,e5,e7,e8,rfl,hC.sE [1,2,3,4,0],hb⟩
 refine qac ?_
 refine mixE.ssk hM (hC.mpins (i:=0) (k:=z63) (cs:=[iv c]) (v:=c) rfl (KL.int underlying3) (qah h64) underlying82 (⟨rfl,I64.wr o⟩) rfl rfl rfl) ?_
 rintro w149 ⟨hC,hF⟩
 replace hM:=hM.besideG hVf60 hF
 clear hF
 refine ⟨hM,?_⟩
 refine mixE.nil ?_
 refine qas ?_ ?_
 refine qac ?_
 refine mixE.ssk hM (hC.mpins (i:=0) (k:=z35) (cs:=[iv d]) (v:=d) rfl (KL.int underlying3) (qah h36) underlying82 (⟨rfl,I64.wr p⟩) rfl rfl rfl) ?_
 rintro w150 ⟨hC,hF⟩
 replace hM:=hM.besideG hVf60 hF
 clear hF
 refine ⟨hM,?_⟩
 refine mixE.nil ?_
 refine qas ?_ ?_
 refine qac ?_
 refine mixE.ssk hM (hC.mpins (i:=0) (k:=d) (cs:=[iv z35]) (v:=z35) rfl (KL.int underlying3) p underlying82 (⟨rfl,I64.wr (qah h36)⟩) rfl rfl rfl) ?_
 rintro w151 ⟨hC,hF⟩
 replace hM:=hM.besideG hVf60 hF
 clear hF
 refine ⟨hM,?_⟩
 refine mixE.nil ?_
 refine qac ?_
 refine mixE.ssk hM (hC.mpins (i:=0) (k:=c) (cs:=[iv z61]) (v:=z61) rfl (KL.int underlying3) o underlying82 (⟨rfl,I64.wr (qah h62)⟩) rfl rfl rfl) ?_
 rintro w152 ⟨hC,hF⟩
 replace hM:=hM.besideG hVf60 hF
 clear hF
 refine ⟨hM,?_⟩
 refine mp (.map (some g58)) (qaa rfl)<|mp (.map (some g58)) (qab rfl)<|mixE.nil ?_
 obtain ⟨u69,h154,hb⟩:=bd hb
 replace hC:=hC.mpperm (i:=0) rfl (qci (kvs:=([(z35,d),(d,z35),(c,z61),(z63,c)]:List (Int×Int))) (qcb h154) (List.Perm.map (fun i=>([(z35,d),(d,z35),(c,z61),(z63,c)]:List (Int×Int)).getD i (z35,d)) (show [3,0,1,2].Perm [0,1,2,3] by decide)))
 clear hS hM
 exact hK55 _ _ ⟨g58,([(z35,d),(d,z35),(c,z61),(z63,c)]:List (Int×Int)),e1,e2,e4,e5,e7,e8,rfl,hC.sE [1,2,3,4,0],hb⟩
 refine qac ?_
 refine mixE.ssk hM (hC.mpins (i:=0) (k:=c) (cs:=[iv z61]) (v:=z61) rfl (KL.int underlying3) o underlying82 (⟨rfl,I64.wr (qah h62)⟩) rfl rfl rfl) ?_
 rintro w155 ⟨hC,hF⟩
 replace hM:=hM.besideG hVf60 hF
 clear hF
 refine ⟨hM,?_⟩
 refine mixE.nil ?_
 refine qac ?_
 refine mixE.ssk hM (hC.mpins (i:=0) (k:=d) (cs:=[iv z35]) (v:=z35) rfl (KL.int underlying3) p underlying82 (⟨rfl,I64.wr (qah h36)⟩) rfl rfl rfl) ?_
 rintro w156 ⟨hC,hF⟩
 replace hM:=hM.besideG hVf60 hF
 clear hF
 refine ⟨hM,?_⟩
 refine mp (.map (some g58)) (qaa rfl)<|mp (.map (some g58)) (qab rfl)<|mixE.nil ?_
 obtain ⟨u69,h158,hb⟩:=bd hb
 replace hC:=hC.mpperm (i:=0) rfl (qci (kvs:=([(z35,d),(d,z35),(c,z61),(z63,c)]:List (Int×Int))) (qcb h158) (List.Perm.map (fun i=>([(z35,d),(d,z35),(c,z61),(z63,c)]:List (Int×Int)).getD i (z35,d)) (show [3,0,2,1].Perm [0,1,2,3] by decide)))
 clear hS hM
 exact hK55 _ _ ⟨g58,([(z35,d),(d,z35),(c,z61),(z63,c)]:List (Int×Int)),e1,e2,e4,e5,e7,e8,rfl,hC.sE [1,2,3,4,0],hb⟩
 refine qas ?_ ?_
 refine qac ?_
 refine mixE.ssk hM (hC.mpins (i:=0) (k:=d) (cs:=[iv z35]) (v:=z35) rfl (KL.int underlying3) p underlying82 (⟨rfl,I64.wr (qah h36)⟩) rfl rfl rfl) ?_
 rintro w159 ⟨hC,hF⟩
 replace hM:=hM.besideG hVf60 hF
 clear hF
 refine ⟨hM,?_⟩
 refine mixE.nil ?_
 refine qas ?_ ?_
 refine qac ?_
 refine mixE.ssk hM (hC.mpins (i:=0) (k:=z35) (cs:=[iv d]) (v:=d) rfl (KL.int underlying3) (qah h36) underlying82 (⟨rfl,I64.wr p⟩) rfl rfl rfl) ?_
 rintro w160 ⟨hC,hF⟩
 replace hM:=hM.besideG hVf60 hF
 clear hF
 refine ⟨hM,?_⟩
 refine mixE.nil ?_
 refine qac ?_
 refine mixE.ssk hM (hC.mpins (i:=0) (k:=c) (cs:=[iv z61]) (v:=z61) rfl (KL.int underlying3) o underlying82 (⟨rfl,I64.wr (qah h62)⟩) rfl rfl rfl) ?_
 rintro w161 ⟨hC,hF⟩
 replace hM:=hM.besideG hVf60 hF
 clear hF
 refine ⟨hM,?_⟩
 refine mp (.map (some g58)) (qaa rfl)<|mp (.map (some g58)) (qab rfl)<|mixE.nil ?_
 obtain ⟨u69,h163,hb⟩:=bd hb
 replace hC:=hC.mpperm (i:=0) rfl (qci (kvs:=([(z35,d),(d,z35),(c,z61),(z63,c)]:List (Int×Int))) (qcb h163) (List.Perm.map (fun i=>([(z35,d),(d,z35),(c,z61),(z63,c)]:List (Int×Int)).getD i (z35,d)) (show [3,1,0,2].Perm [0,1,2,3] by decide)))
 clear hS hM
 exact hK55 _ _ ⟨g58,([(z35,d),(d,z35),(c,z61),(z63,c)]:List (Int×Int)),e1,e2,e4,e5,e7,e8,rfl,hC.sE [1,2,3,4,0],hb⟩
 refine qac ?_
 refine mixE.ssk hM (hC.mpins (i:=0) (k:=c) (cs:=[iv z61]) (v:=z61) rfl (KL.int underlying3) o underlying82 (⟨rfl,I64.wr (qah h62)⟩) rfl rfl rfl) ?_
 rintro w164 ⟨hC,hF⟩
 replace hM:=hM.besideG hVf60 hF
 clear hF
 refine ⟨hM,?_⟩
 refine mixE.nil ?_
 refine qac ?_
 refine mixE.ssk hM (hC.mpins (i:=0) (k:=z35) (cs:=[iv d]) (v:=d) rfl (KL.int underlying3) (qah h36) underlying82 (⟨rfl,I64.wr p⟩) rfl rfl rfl) ?_
 rintro w165 ⟨hC,hF⟩
 replace hM:=hM.besideG hVf60 hF
 clear hF
 refine ⟨hM,?_⟩
 refine mp (.map (some g58)) (qaa rfl)<|mp (.map (some g58)) (qab rfl)<|mixE.nil ?_
 obtain ⟨u69,h167,hb⟩:=bd hb
 replace hC:=hC.mpperm (i:=0) rfl (qci (kvs:=([(z35,d),(d,z35),(c,z61),(z63,c)]:List (Int×Int))) (qcb h167) (List.Perm.map (fun i=>([(z35,d),(d,z35),(c,z61),(z63,c)]:List (Int×Int)).getD i (z35,d)) (show [3,1,2,0].Perm [0,1,2,3] by decide)))
 clear hS hM
 exact hK55 _ _ ⟨g58,([(z35,d),(d,z35),(c,z61),(z63,c)]:List (Int×Int)),e1,e2,e4,e5,e7,e8,rfl,hC.sE [1,2,3,4,0],hb⟩
 refine qac ?_
 refine mixE.ssk hM (hC.mpins (i:=0) (k:=c) (cs:=[iv z61]) (v:=z61) rfl (KL.int underlying3) o underlying82 (⟨rfl,I64.wr (qah h62)⟩) rfl rfl rfl) ?_
 rintro w168 ⟨hC,hF⟩
 replace hM:=hM.besideG hVf60 hF
 clear hF
 refine ⟨hM,?_⟩
 refine mixE.nil ?_
 refine qas ?_ ?_
 refine qac ?_
 refine mixE.ssk hM (hC.mpins (i:=0) (k:=z35) (cs:=[iv d]) (v:=d) rfl (KL.int underlying3) (qah h36) underlying82 (⟨rfl,I64.wr p⟩) rfl rfl rfl) ?_
 rintro w169 ⟨hC,hF⟩
 replace hM:=hM.besideG hVf60 hF
 clear hF
 refine ⟨hM,?_⟩
 refine mixE.nil ?_
 refine qac ?_
 refine mixE.ssk hM (hC.mpins (i:=0) (k:=d) (cs:=[iv z35]) (v:=z35) rfl (KL.int underlying3) p underlying82 (⟨rfl,I64.wr (qah h36)⟩) rfl rfl rfl) ?_
 rintro w170 ⟨hC,hF⟩
 replace hM:=hM.besideG hVf60 hF
 clear hF
 refine ⟨hM,?_⟩
 refine mp (.map (some g58)) (qaa rfl)<|mp (.map (some g58)) (qab rfl)<|mixE.nil ?_
 obtain ⟨u69,h172,hb⟩:=bd hb
 replace hC:=hC.mpperm (i:=0) rfl (qci (kvs:=([(z35,d),(d,z35),(c,z61),(z63,c)]:List (Int×Int))) (qcb h172) (List.Perm.map (fun i=>([(z35,d),(d,z35),(c,z61),(z63,c)]:List (Int×Int)).getD i (z35,d)) (show [3,2,0,1].Perm [0,1,2,3] by decide)))
 clear hS hM
 exact hK55 _ _ ⟨g58,([(z35,d),(d,z35),(c,z61),(z63,c)]:List (Int×Int)),e1,e2,e4,e5,e7,e8,rfl,hC.sE [1,2,3,4,0],hb⟩
 refine qac ?_
 refine mixE.ssk hM (hC.mpins (i:=0) (k:=d) (cs:=[iv z35]) (v:=z35) rfl (KL.int underlying3) p underlying82 (⟨rfl,I64.wr (qah h36)⟩) rfl rfl rfl) ?_
 rintro w173 ⟨hC,hF⟩
 replace hM:=hM.besideG hVf60 hF
 clear hF
 refine ⟨hM,?_⟩
 refine mixE.nil ?_
 refine qac ?_
 refine mixE.ssk hM (hC.mpins (i:=0) (k:=z35) (cs:=[iv d]) (v:=d) rfl (KL.int underlying3) (qah h36) underlying82 (⟨rfl,I64.wr p⟩) rfl rfl rfl) ?_
 rintro w174 ⟨hC,hF⟩
 replace hM:=hM.besideG hVf60 hF
 clear hF
 refine ⟨hM,?_⟩
 refine mp (.map (some g58)) (qaa rfl)<|mp (.map (some g58)) (qab rfl)<|mixE.nil ?_
 obtain ⟨u69,h176,hb⟩:=bd hb
 replace hC:=hC.mpperm (i:=0) rfl (qci (kvs:=([(z35,d),(d,z35),(c,z61),(z63,c)]:List (Int×Int))) (qcb h176) (List.Perm.map (fun i=>([(z35,d),(d,z35),(c,z61),(z63,c)]:List (Int×Int)).getD i (z35,d)) (show [3,2,1,0].Perm [0,1,2,3] by decide)))
 clear hS hM
 exact hK55 _ _ ⟨g58,([(z35,d),(d,z35),(c,z61),(z63,c)]:List (Int×Int)),e1,e2,e4,e5,e7,e8,rfl,hC.sE [1,2,3,4,0],hb⟩
 clear hb hC
 rintro E178 w177 ⟨gP10,G,e1,e2,e4,e5,e7,e8,e10,hC,hb⟩
 unfold F.qgk at hb
 refine Wc.seq fun _ hK179=>rg<|lp (.pointer (some ((⟨g4,0,none⟩:Addr).add 1))) (qaf (sz:=1) underlying32 rfl sizeOf22 (by decide) rfl e2)<|lv (.slice y g.length l) (qal (hC.bx (i:=0) rfl) isAgg22 rfl rfl) ?_
 obtain ⟨y180,h181,hb⟩:=bd hb
 refine lex.cl (⟨_,_,qam (vs:=[.slice y g.length l]) call48 rfl rfl rfl,slices_Clone_Lint_int_ok n hC.lt (hC.rd (i:=2) rfl) h181⟩) ?_
 rintro _ w186 ⟨A182,m183,c184,rfl,hK⟩
 replace hC:=hC.merge hK
 clear hK
 obtain ⟨rfl,hl187,hc188⟩:=(hC.ow (i:=0) rfl).qae
 refine lp (.slice A182 y180.length c184) (qab rfl)<|ln (hK179 _ _ ?_)
 refine Wc.seq fun _ hK189=>rg<|lex.op (hC.mkmp .int .bool) ?_
 rintro _ w191 ⟨g190,rfl,hC,-,-⟩
 refine lp (.map (some g190)) (qab rfl)<|ln (hK189 _ _ ?_)
 refine Wc.seq fun _ hK193=>?_
 refine Wc.seq fun _ hK194=>rg<|lp (.pointer (some ((⟨g4,0,none⟩:Addr).add 1))) (qaf (sz:=1) underlying32 rfl sizeOf22 (by decide) rfl e2)<|lv (.slice y g.length l) (qal (hC.bx (i:=2) rfl) isAgg22 rfl rfl)<|lp (iv (g.length:Int)) (qay (A:=y) (n:=g.length) (m:=l) underlying22 rfl)<|lp (iv 0) (qaa rfl)<|ln (hK194 _ _ ?_)
 refine Wc.fresh fun E195 hE=>?_
 have e1:=cg hE 1 e1
 have e2:=cg hE 2 e2
 have e4:=cg hE 4 e4
 have e5:=cg hE 5 e5
 have e7:=cg hE 7 e7
 have e8:=cg hE 8 e8
 have e10:=cg hE 10 e10
 have e11:E195 11=.slice A182 y180.length c184:=cg hE 11 rfl
 have e12:E195 12=.map (some g190):=cg hE 12 rfl
 have e65:E195 65=.slice y g.length l:=cg hE 65 rfl
 have e66:E195 66=iv (g.length:Int):=cg hE 66 rfl
 have e67:E195 67=iv 0:=cg hE 67 rfl
 clear hE
 obtain ⟨o196,hl2,f196,hf196,hb⟩:=bn hb
 refine Wc.cut (fun E wv=> ∃(z:Int) (B:List Int) (K:List (Int×Bool)),E 1=iv f∧E 2=pg g4∧E 4=pg g7∧E 5=iv 0∧E 7=iv z35∧E 8=iv c∧E 10=.map (some gP10)∧E 11=.slice A182 y180.length c184∧E 12=.map (some g190)∧I64 z∧Cx (fun _=>False) O0 w wv [.box g4 32 [.slice u j.length x,.slice y g.length l,iv D],.ro (.sl si) [.slice u j.length x] j,.ro (.sl si) [.slice y g.length l] g,.box g7 32 [.slice none 0 0,.slice none 0 0,iv 0],.mp gP10 .int si G,.own 3 si (.slice A182 y180.length c184) B,.mp g190 .int .bool K]∧f196 (z,B,K)=some r) (fun _ hK197=>?_) ?_
 refine Wc.block ?_
 refine Wc.loop (fun m E wv=> ∃(z:Int) (B:List Int) (K:List (Int×Bool)),E 1=iv f∧E 2=pg g4∧E 4=pg g7∧E 5=iv 0∧E 7=iv z35∧E 8=iv c∧E 10=.map (some gP10)∧E 11=.slice A182 y180.length c184∧E 12=.map (some g190)∧E 65=.slice y g.length l∧E 66=iv (g.length:Int)∧E 67=iv z∧I64 z∧Cx (fun _=>False) O0 w wv [.box g4 32 [.slice u j.length x,.slice y g.length l,iv D],.ro (.sl si) [.slice u j.length x] j,.ro (.sl si) [.slice y g.length l] g,.box g7 32 [.slice none 0 0,.slice none 0 0,iv 0],.mp gP10 .int si G,.own 3 si (.slice A182 y180.length c184) B,.mp g190 .int .bool K]∧loopN m (F.qec n g f G) (z,B,K)=some o196) n ⟨0,y180,([]:List (Int×Bool)),e1,e2,e4,e5,e7,e8,e10,e11,e12,e65,e66,e67,(show I64 0 from by unfold I64; omega),hC.sE [2,3,4,5,6,1,0],hl2⟩ ?_
 have hbK2:=hb
 clear hb hC hl2
 rintro m199 E201 w200 ⟨z,B,K,e1,e2,e4,e5,e7,e8,e10,e11,e12,e65,e66,e67,V,hC,hl2⟩ K198 hK198
 obtain ⟨m199',o202,rfl,hb,hl2⟩:=qax hl2
 unfold F.qec at hb
 refine Wc.seq fun _ hK203=>rg<|lp _ (qbj e67 e66)<|ln (hK203 _ _ ?_)
 refine Wc.seq fun _ hK204=>?_
 refine Wc.cond (t:=(decide (z<(g.length:Int)))) (rfl) (fun hq205=>?_) (fun hq205=>?_)
 replace hb:=tt hq205 hb
 refine Wc.skip (hK204 _ _ ?_)
 refine Wc.seq fun _ hK206=>?_
 refine Wc.block<|Wc.seq fun _ hK207=>rg<|lp _ (qaa e67) ?_
 obtain ⟨x208,h209,hb⟩:=bd hb
 obtain ⟨ad210,cs211,hA,hc212,hr213⟩:=hC.elr (i:=2) rfl (qad h209).2
 subst hA
 refine lp (.pointer (some (ad210.add (z.toNat*1)))) (qar (a:=z) underlying22 sizeOf3 e65 e67 (qad h209).1) ?_
 obtain ⟨rfl,hr213'⟩:=hr213
 refine lv (iv x208) (qaw isAgg3 rfl (hc212 0 _ rfl))<|lp (iv z) (qab rfl)<|lp (iv x208) (qab rfl)<|ln (hK207 _ _ ?_)
 refine Wc.seq fun _ hK214=>?_
 refine Wc.seq fun _ hK215=>rg<|lp (iv z) (qaa rfl) ?_
 obtain ⟨u216,h217,hb⟩:=bd hb
 obtain ⟨z218,h219,hb⟩:=bd hb
 refine lp (iv z218) (qfu (a:=z) (b:=4) rfl rfl h217 h219)<|lp _ (qaa e1)<|lp (.bool (decide (z218=f))) (qbl (k:=.i64) (a:=z218) (b:=f) rfl rfl)<|ln (hK215 _ _ ?_)
 refine Wc.cond (t:=(decide (z218=f))) (rfl) (fun hq220=>?_) (fun hq220=>?_)
 replace hb:=tt hq220 hb
 refine Wc.exit rfl ?_
 refine hK206 _ _<|rg ?_
 obtain ⟨z221,h222,hb⟩:=bd hb
 refine lp (iv z221) (qau (a:=z) (b:=1) e67 rfl h222)<|lp (iv z221) (qaa rfl)<|ln ?_
 obtain rfl:=os hb
 exact hK198 m199' _ _ (Nat.lt_succ_self _) ⟨z221,B,K,e1,e2,e4,e5,e7,e8,e10,e11,e12,e65,e66,rfl,(qah h222),hC.sE [0,1,2,3,4,5,6],lN hl2⟩
 replace hb:=tf hq220 hb
 refine Wc.skip (hK214 _ _ ?_)
 refine Wc.fresh fun E223 hE=>?_
 have e1:=cg hE 1 e1
 have e2:=cg hE 2 e2
 have e4:=cg hE 4 e4
 have e5:=cg hE 5 e5
 have e7:=cg hE 7 e7
 have e8:=cg hE 8 e8
 have e10:=cg hE 10 e10
 have e11:=cg hE 11 e11
 have e12:=cg hE 12 e12
 have e13:E223 13=iv z:=cg hE 13 rfl
 have e14:E223 14=iv x208:=cg hE 14 rfl
 have e65:=cg hE 65 e65
 have e66:=cg hE 66 e66
 have e67:=cg hE 67 e67
 have e68:E223 68=.bool (decide (z<(g.length:Int))):=cg hE 68 rfl
 have e75:E223 75=.bool (decide (z218=f)):=cg hE 75 rfl
 clear hE
 refine Wc.seq fun _ hK224=>?_
 obtain ⟨o225,hl3,hb⟩:=bd hb
 refine Wc.cut (fun E wv=> ∃(H:Int) (L:List (Int×Bool)),E 1=iv f∧E 2=pg g4∧E 4=pg g7∧E 5=iv 0∧E 7=iv z35∧E 8=iv c∧E 10=.map (some gP10)∧E 11=.slice A182 y180.length c184∧E 12=.map (some g190)∧E 13=iv z∧E 14=iv H∧E 65=.slice (some ad210) g.length l∧E 66=iv (g.length:Int)∧E 67=iv z∧E 68=.bool (decide (z<(g.length:Int)))∧E 75=.bool (decide (z218=f))∧I64 H∧Cx (fun _=>False) O0 w wv [.box g4 32 [.slice u j.length x,.slice (some ad210) g.length l,iv D],.ro (.sl si) [.slice u j.length x] j,.ro (.sl si) [.slice (some ad210) g.length l] g,.box g7 32 [.slice none 0 0,.slice none 0 0,iv 0],.mp gP10 .int si G,.own 3 si (.slice A182 y180.length c184) B,.mp g190 .int .bool L]∧((get B z).bind fun x257=>(chk (z+1)).bind fun z264=>some (.inl (z264,(B.set z.toNat H),L)):Option ((Int×(List Int)×(List (Int×Bool)))⊕((Int×(List Int)×(List (Int×Bool))))))=some o202) (fun _ hK226=>?_) ?_
 refine Wc.block ?_
 refine Wc.loop (fun m E wv=> ∃(H:Int) (L:List (Int×Bool)),E 1=iv f∧E 2=pg g4∧E 4=pg g7∧E 5=iv 0∧E 7=iv z35∧E 8=iv c∧E 10=.map (some gP10)∧E 11=.slice A182 y180.length c184∧E 12=.map (some g190)∧E 13=iv z∧E 14=iv H∧E 65=.slice (some ad210) g.length l∧E 66=iv (g.length:Int)∧E 67=iv z∧E 68=.bool (decide (z<(g.length:Int)))∧E 75=.bool (decide (z218=f))∧I64 H∧Cx (fun _=>False) O0 w wv [.box g4 32 [.slice u j.length x,.slice (some ad210) g.length l,iv D],.ro (.sl si) [.slice u j.length x] j,.ro (.sl si) [.slice (some ad210) g.length l] g,.box g7 32 [.slice none 0 0,.slice none 0 0,iv 0],.mp gP10 .int si G,.own 3 si (.slice A182 y180.length c184) B,.mp g190 .int .bool L]∧loopN m (F.qeg n g f G) (H,L)=some o225) n ⟨x208,K,e1,e2,e4,e5,e7,e8,e10,e11,e12,e13,e14,e65,e66,e67,e68,e75,(qbi hr213'),hC.sE [0,1,2,3,4,5,6],hl3⟩ ?_
 have hbK3:=hb
 clear hb hC hl3
 rintro m228 E230 w229 ⟨H,L,e1,e2,e4,e5,e7,e8,e10,e11,e12,e13,e14,e65,e66,e67,e68,e75,Q,hC,hl3⟩ K227 hK227
 obtain ⟨m228',o231,rfl,hb,hl3⟩:=qax hl3
 unfold F.qeg at hb
 refine Wc.seq fun _ hK232=>?_
 refine Wc.seq fun _ hK233=>rg<|lp _ (qaa e14) ?_
 obtain ⟨u234,h235,hb⟩:=bd hb
 obtain ⟨z236,h237,hb⟩:=bd hb
 refine lp (iv z236) (qfu (a:=H) (b:=4) rfl rfl h235 h237)<|lp _ (qaa e1)<|lp (.bool (decide (z236=f))) (qbl (k:=.i64) (a:=z236) (b:=f) rfl rfl)<|ln (hK233 _ _ ?_)
 refine Wc.cond (t:=(decide (z236=f))) (rfl) (fun hq238=>?_) (fun hq238=>?_)
 replace hb:=tt hq238 hb
 refine Wc.skip (hK232 _ _ ?_)
 refine Wc.block<|Wc.seq fun _ hK239=>rg<|lp _ (qaa e12)<|lp _ (qaa e14)<|lex.sk (hC.mpput (i:=6) (k:=H) (cs:=[.bool true]) (v:=true) rfl (KL.int underlying3) Q underlying84 (show Rep _ _ .bool _ _ from rfl) rfl rfl rfl) ?_
 rintro w240 ⟨hC,-⟩
 refine ln (hK239 _ _ ?_)
 refine Wc.seq fun _ hK241=>rg<|lp _ (qaa e10)<|lp _ (qaa e14) ?_
 obtain ⟨x243,h244,hb⟩:=bd hb
 obtain ⟨cs242,hY,hR⟩:=hC.mplk (i:=4) (k:=H) rfl (KL.int underlying3) underlying82 (zc:=[iv 0]) (zx:=(0:Int)) zeroValue3 (⟨rfl,I64.wr (show I64 0 from by unfold I64; omega)⟩) false
 rw [Option.some.inj h244] at hR
 obtain ⟨rfl,hr245⟩:=hR
 refine lv (iv x243) (hY rfl rfl) ?_
 clear hY
 refine lp (iv x243) (qab rfl)<|ln (hK241 _ _ ?_)
 refine Wc.fresh fun E246 hE=>?_
 have e1:=cg hE 1 e1
 have e2:=cg hE 2 e2
 have e4:=cg hE 4 e4
 have e5:=cg hE 5 e5
 have e7:=cg hE 7 e7
 have e8:=cg hE 8 e8
 have e10:=cg hE 10 e10
 have e11:=cg hE 11 e11
 have e12:=cg hE 12 e12
 have e13:=cg hE 13 e13
 have e14:E246 14=iv x243:=cg hE 14 rfl
 have e65:=cg hE 65 e65
 have e66:=cg hE 66 e66
 have e67:=cg hE 67 e67
 have e68:=cg hE 68 e68
 have e75:=cg hE 75 e75
 have e79:E246 79=.bool (decide (z236=f)):=cg hE 79 rfl
 clear hE
 refine Wc.seq fun _ hK247=>rg<|lp _ (qaa e12)<|lp _ (qaa e14)<|lex.sk (hC.mpput (i:=6) (k:=x243) (cs:=[.bool true]) (v:=true) rfl (KL.int underlying3) (qbi hr245) underlying84 (show Rep _ _ .bool _ _ from rfl) rfl rfl rfl) ?_
 rintro w248 ⟨hC,-⟩
 refine ln (hK247 _ _ ?_)
 refine rg<|lp (.pointer (some ((⟨g4,0,none⟩:Addr).add 1))) (qaf (sz:=1) underlying32 rfl sizeOf22 (by decide) rfl e2)<|lv (.slice (some ad210) g.length l) (qal (hC.bx (i:=0) rfl) isAgg22 rfl rfl)<|lp _ (qaa e14) ?_
 obtain ⟨x249,h250,hb⟩:=bd hb
 obtain ⟨ad251,cs252,hA,hc253,hr254⟩:=hC.elr (i:=2) rfl (qad h250).2
 obtain rfl:=Option.some.inj hA
 refine lp (.pointer (some (ad210.add (x243.toNat*1)))) (qar (a:=x243) underlying22 sizeOf3 rfl rfl (qad h250).1) ?_
 obtain ⟨rfl,hr254'⟩:=hr254
 refine lv (iv x249) (qaw isAgg3 rfl (hc253 0 _ rfl))<|lp (iv x249) (qab rfl)<|ln ?_
 obtain rfl:=os hb
 exact hK227 m228' _ _ (Nat.lt_succ_self _) ⟨x249,(gput (gput L H true) x243 true),e1,e2,e4,e5,e7,e8,e10,e11,e12,e13,rfl,e65,e66,e67,e68,e75,(qbi hr254'),hC.sE [0,1,2,3,4,5,6],lN hl3⟩
 replace hb:=tf hq238 hb
 refine Wc.exit rfl ?_
 obtain rfl:=os hb
 obtain rfl:=(lX hl3).symm
 exact hK226 _ _ ⟨H,L,e1,e2,e4,e5,e7,e8,e10,e11,e12,e13,e14,e65,e66,e67,e68,e75,Q,hC.sE [0,1,2,3,4,5,6],hbK3⟩
 clear hb hC hl3
 rintro E256 w255 ⟨H,L,e1,e2,e4,e5,e7,e8,e10,e11,e12,e13,e14,e65,e66,e67,e68,e75,Q,hC,hb⟩
 refine hK224 _ _<|rg<|lp _ (qaa e11)<|lp _ (qaa e13)<|lp _ (qaa e14) ?_
 obtain ⟨x257,h258,hb⟩:=bd hb
 obtain ⟨ad259,cs260,hA,hc261,hr262⟩:=hC.elo (i:=5) rfl (qad h258).2
 subst hA
 refine lp (.pointer (some (ad259.add (z.toNat*1)))) (qar (a:=z) underlying22 sizeOf3 rfl rfl (by rw [(hC.ow (i:=5) rfl).qae.1]; exact (qad h258).1))<|lex.sk (hC.put (i:=5) rfl rfl sizeOf3 (k:=z.toNat) (a:=H) (by have:=(qad h258).1; simp at this⊢; omega) (⟨rfl,I64.wr Q⟩) rfl rfl rfl) ?_
 rintro w263 ⟨hC,hF⟩
 refine ln (hK206 _ _ ?_)
 refine rg ?_
 obtain ⟨z264,h265,hb⟩:=bd hb
 refine lp (iv z264) (qau (a:=z) (b:=1) e67 rfl h265)<|lp (iv z264) (qaa rfl)<|ln ?_
 obtain rfl:=os hb
 exact hK198 m199' _ _ (Nat.lt_succ_self _) ⟨z264,(B.set z.toNat H),L,e1,e2,e4,e5,e7,e8,e10,e11,e12,e65,e66,rfl,(qah h265),hC.sE [0,1,2,3,4,5,6],lN hl2⟩
 replace hb:=tf hq205 hb
 refine Wc.exit rfl ?_
 obtain rfl:=os hb
 obtain rfl:=(lX hl2).symm
 exact hK197 _ _ ⟨z,B,K,e1,e2,e4,e5,e7,e8,e10,e11,e12,V,hC.sE [0,1,2,3,4,5,6],hbK2⟩
 clear hb hC hl2
 rintro E267 w266 ⟨z,B,K,e1,e2,e4,e5,e7,e8,e10,e11,e12,V,hC,hb⟩
 subst hf196
 refine hK193 _ _<|Wc.seq fun _ hK268=>rg<|lp (.pointer (some ((⟨g4,0,none⟩:Addr).add 2))) (qaf (sz:=1) underlying32 rfl sizeOf3 (by decide) rfl e2)<|lv (iv D) (qal (hC.bx (i:=0) rfl) isAgg3 rfl rfl)<|lp (iv D) (qab rfl)<|ln (hK268 _ _ ?_)
 refine Wc.seq fun _ hK269=>?_
 refine Wc.seq fun _ hK270=>rg<|lp _ (qaa e7)<|lp _ (qaa e8)<|lex.op (hC.lit (s:=si) (vs:=[iv z35,iv c]) (xs:=[z35,c]) underlying22 type3 rfl rfl (nb rfl) rfl rfl (by simp [Value.cells,Sh.n]) rfl (show Elems _ _ si ([iv z35]++([iv c]++([]))) ([z35,c]:List Int) from Elems.cons (⟨rfl,I64.wr (qah h36)⟩) (Elems.cons (⟨rfl,I64.wr o⟩) (Elems.nil _ _ _)))) ?_
 rintro _ w275 ⟨A271,c272,rfl,hl273,hc274,hC,-,-⟩
 refine lp (iv ((([z35,c]:List Int)).length:Int)) (qay (A:=A271) (n:=(([z35,c]:List Int)).length) (m:=c272) underlying22 rfl)<|lp (iv 0) (qaa rfl)<|ln (hK270 _ _ ?_)
 obtain ⟨o277,hl4,f277,hf277,hb⟩:=bn hb
 refine Wc.cut (fun E wv=> ∃(J:Int) (C:Int) (P:List (Int×Bool)),E 1=iv f∧E 2=pg g4∧E 4=pg g7∧E 5=iv 0∧E 11=.slice A182 y180.length c184∧E 15=iv J∧I64 J∧I64 C∧Cx (fun _=>False) O0 w wv [.box g4 32 [.slice u j.length x,.slice y g.length l,iv D],.ro (.sl si) [.slice u j.length x] j,.ro (.sl si) [.slice y g.length l] g,.box g7 32 [.slice none 0 0,.slice none 0 0,iv 0],.own 3 si (.slice A182 y180.length c184) B]∧f277 (J,C,P)=some r) (fun _ hK278=>?_) ?_
 refine Wc.block ?_
 refine Wc.loop (fun m E wv=> ∃(J:Int) (C:Int) (P:List (Int×Bool)),E 1=iv f∧E 2=pg g4∧E 4=pg g7∧E 5=iv 0∧E 10=.map (some gP10)∧E 11=.slice A182 y180.length c184∧E 12=.map (some g190)∧E 15=iv J∧E 101=.slice A271 ((([z35,c]:List Int)).length) c272∧E 102=iv ((([z35,c]:List Int)).length:Int)∧E 103=iv C∧I64 J∧I64 C∧Cx (fun _=>False) O0 w wv [.box g4 32 [.slice u j.length x,.slice y g.length l,iv D],.ro (.sl si) [.slice u j.length x] j,.ro (.sl si) [.slice y g.length l] g,.box g7 32 [.slice none 0 0,.slice none 0 0,iv 0],.mp gP10 .int si G,.own 3 si (.slice A182 y180.length c184) B,.mp g190 .int .bool P,.own 3 si (.slice A271 ((([z35,c]:List Int)).length) c272) ([z35,c]:List Int)]∧loopN m (F.qdn n g z35 c G) (J,C,P)=some o277) n ⟨D,0,K,e1,e2,e4,e5,e10,e11,e12,rfl,rfl,rfl,rfl,a1,(show I64 0 from by unfold I64; omega),hC.sE [1,2,3,4,5,6,7,0],hl4⟩ ?_
 have hbK4:=hb
 clear hb hC hl4
 rintro m280 E282 w281 ⟨J,C,P,e1,e2,e4,e5,e10,e11,e12,e15,e101,e102,e103,R,T,hC,hl4⟩ K279 hK279
 obtain ⟨m280',o283,rfl,hb,hl4⟩:=qax hl4
 unfold F.qdn at hb
 refine Wc.seq fun _ hK284=>rg<|lp _ (qbj e103 e102)<|ln (hK284 _ _ ?_)
 refine Wc.seq fun _ hK285=>?_
 refine Wc.cond (t:=(decide (C<((([z35,c]:List Int)).length:Int)))) (rfl) (fun hq286=>?_) (fun hq286=>?_)
 replace hb:=tt hq286 hb
 refine Wc.skip (hK285 _ _ ?_)
 refine Wc.seq fun _ hK287=>?_
 refine Wc.block<|Wc.seq fun _ hK288=>rg ?_
 obtain ⟨x289,h290,hb⟩:=bd hb
 obtain ⟨ad291,cs292,hA,hc293,hr294⟩:=hC.elo (i:=7) rfl (qad h290).2
 subst hA
 refine lp (.pointer (some (ad291.add (C.toNat*1)))) (qar (a:=C) underlying22 sizeOf3 e101 e103 (qad h290).1) ?_
 obtain ⟨rfl,hr294'⟩:=hr294
 refine lv (iv x289) (qaw isAgg3 rfl (hc293 0 _ rfl))<|lp (iv x289) (qab rfl)<|ln (hK288 _ _ ?_)
 refine Wc.seq fun _ hK295=>?_
 refine Wc.seq fun _ hK296=>rg<|lp _ (qaa e12)<|lp (iv x289) (qaa rfl) ?_
 obtain ⟨x298,h299,hb⟩:=bd hb
 obtain ⟨cs297,hY,hR⟩:=hC.mplk (i:=6) (k:=x289) rfl (KL.int underlying3) underlying84 (zc:=[.bool false]) (zx:=false) zeroValue4 (show Rep _ _ .bool _ _ from rfl) false
 rw [Option.some.inj h299] at hR
 obtain rfl:=(show _=_ from hR)
 refine lv (.bool x298) (hY rfl rfl) ?_
 clear hY
 refine ln (hK296 _ _ ?_)
 refine Wc.cond (t:=x298) (rfl) (fun hq300=>?_) (fun hq300=>?_)
 replace hb:=tt hq300 hb
 refine Wc.exit rfl ?_
 refine hK287 _ _<|rg ?_
 obtain ⟨z301,h302,hb⟩:=bd hb
 refine lp (iv z301) (qau (a:=C) (b:=1) e103 rfl h302)<|lp (iv z301) (qaa rfl)<|ln ?_
 obtain rfl:=os hb
 exact hK279 m280' _ _ (Nat.lt_succ_self _) ⟨J,z301,P,e1,e2,e4,e5,e10,e11,e12,e15,e101,e102,rfl,R,(qah h302),hC.sE [0,1,2,3,4,5,6,7],lN hl4⟩
 replace hb:=tf hq300 hb
 refine Wc.skip (hK295 _ _ ?_)
 refine Wc.seq fun _ hK303=>rg<|lp _ (qaa e15) ?_
 obtain ⟨z304,h305,hb⟩:=bd hb
 refine lp (iv z304) (qau (a:=J) (b:=1) rfl rfl h305)<|lp (iv z304) (qab rfl)<|ln (hK303 _ _ ?_)
 refine Wc.fresh fun E306 hE=>?_
 have e1:=cg hE 1 e1
 have e2:=cg hE 2 e2
 have e4:=cg hE 4 e4
 have e5:=cg hE 5 e5
 have e10:=cg hE 10 e10
 have e11:=cg hE 11 e11
 have e12:=cg hE 12 e12
 have e15:E306 15=iv z304:=cg hE 15 rfl
 have e17:E306 17=iv x289:=cg hE 17 rfl
 have e101:=cg hE 101 e101
 have e102:=cg hE 102 e102
 have e103:=cg hE 103 e103
 have e104:E306 104=.bool (decide (C<((([z35,c]:List Int)).length:Int))):=cg hE 104 rfl
 have e109:E306 109=.bool x298:=cg hE 109 rfl
 clear hE
 refine Wc.seq fun _ hK307=>rg<|lp _ (qaa e17)<|lp (iv x289) (qab rfl)<|ln (hK307 _ _ ?_)
 obtain ⟨o308,hl5,hb⟩:=bd hb
 refine Wc.cut (fun E wv=> ∃(N:Int) (M:List (Int×Bool)),E 1=iv f∧E 2=pg g4∧E 4=pg g7∧E 5=iv 0∧E 10=.map (some gP10)∧E 11=.slice A182 y180.length c184∧E 12=.map (some g190)∧E 15=iv z304∧E 17=iv x289∧E 18=iv N∧E 101=.slice (some ad291) ((([z35,c]:List Int)).length) c272∧E 102=iv ((([z35,c]:List Int)).length:Int)∧E 103=iv C∧E 104=.bool (decide (C<((([z35,c]:List Int)).length:Int)))∧E 109=.bool x298∧I64 N∧Cx (fun _=>False) O0 w wv [.box g4 32 [.slice u j.length x,.slice y g.length l,iv D],.ro (.sl si) [.slice u j.length x] j,.ro (.sl si) [.slice y g.length l] g,.box g7 32 [.slice none 0 0,.slice none 0 0,iv 0],.mp gP10 .int si G,.own 3 si (.slice A182 y180.length c184) B,.mp g190 .int .bool M,.own 3 si (.slice (some ad291) ((([z35,c]:List Int)).length) c272) ([z35,c]:List Int)]∧((chk (C+1)).bind fun z342=>some (.inl (z304,z342,M)):Option ((Int×Int×(List (Int×Bool)))⊕((Int×Int×(List (Int×Bool))))))=some o283) (fun _ hK309=>?_) ?_
 refine Wc.block ?_
 refine Wc.loop (fun m E wv=> ∃(N:Int) (M:List (Int×Bool)),E 1=iv f∧E 2=pg g4∧E 4=pg g7∧E 5=iv 0∧E 10=.map (some gP10)∧E 11=.slice A182 y180.length c184∧E 12=.map (some g190)∧E 15=iv z304∧E 17=iv x289∧E 18=iv N∧E 101=.slice (some ad291) ((([z35,c]:List Int)).length) c272∧E 102=iv ((([z35,c]:List Int)).length:Int)∧E 103=iv C∧E 104=.bool (decide (C<((([z35,c]:List Int)).length:Int)))∧E 109=.bool x298∧I64 N∧Cx (fun _=>False) O0 w wv [.box g4 32 [.slice u j.length x,.slice y g.length l,iv D],.ro (.sl si) [.slice u j.length x] j,.ro (.sl si) [.slice y g.length l] g,.box g7 32 [.slice none 0 0,.slice none 0 0,iv 0],.mp gP10 .int si G,.own 3 si (.slice A182 y180.length c184) B,.mp g190 .int .bool M,.own 3 si (.slice (some ad291) ((([z35,c]:List Int)).length) c272) ([z35,c]:List Int)]∧loopN m (F.qei n g G) (N,M)=some o308) n ⟨x289,P,e1,e2,e4,e5,e10,e11,e12,e15,e17,rfl,e101,e102,e103,e104,e109,(qbi hr294'),hC.sE [0,1,2,3,4,5,6,7],hl5⟩ ?_
 have hbK5:=hb
 clear hb hC hl5
 rintro m311 E313 w312 ⟨N,M,e1,e2,e4,e5,e10,e11,e12,e15,e17,e18,e101,e102,e103,e104,e109,S,hC,hl5⟩ K310 hK310
 obtain ⟨m311',o314,rfl,hb,hl5⟩:=qax hl5
 unfold F.qei at hb
 refine Wc.seq fun _ hK315=>?_
 refine Wc.seq fun _ hK316=>rg<|lp _ (qaa e12)<|lp _ (qaa e18) ?_
 obtain ⟨x318,h319,hb⟩:=bd hb
 obtain ⟨cs317,hY,hR⟩:=hC.mplk (i:=6) (k:=N) rfl (KL.int underlying3) underlying84 (zc:=[.bool false]) (zx:=false) zeroValue4 (show Rep _ _ .bool _ _ from rfl) false
 rw [Option.some.inj h319] at hR
 obtain rfl:=(show _=_ from hR)
 refine lv (.bool x318) (hY rfl rfl) ?_
 clear hY
 refine lp (.bool (!x318)) (qbt (q:=x318) rfl)<|ln (hK316 _ _ ?_)
 refine Wc.cond (t:=(!x318)) (rfl) (fun hq320=>?_) (fun hq320=>?_)
 replace hb:=tt hq320 hb
 refine Wc.skip (hK315 _ _ ?_)
 refine Wc.seq fun _ hK321=>?_
 refine Wc.block<|Wc.seq fun _ hK322=>rg<|lp _ (qaa e12)<|lp _ (qaa e18)<|lex.sk (hC.mpput (i:=6) (k:=N) (cs:=[.bool true]) (v:=true) rfl (KL.int underlying3) S underlying84 (show Rep _ _ .bool _ _ from rfl) rfl rfl rfl) ?_
 rintro w323 ⟨hC,-⟩
 refine ln (hK322 _ _ ?_)
 refine rg<|lp _ (qaa e12)<|lp _ (qaa e10)<|lp _ (qaa e18) ?_
 obtain ⟨x325,h326,hb⟩:=bd hb
 obtain ⟨cs324,hY,hR⟩:=hC.mplk (i:=4) (k:=N) rfl (KL.int underlying3) underlying82 (zc:=[iv 0]) (zx:=(0:Int)) zeroValue3 (⟨rfl,I64.wr (show I64 0 from by unfold I64; omega)⟩) false
 rw [Option.some.inj h326] at hR
 obtain ⟨rfl,hr327⟩:=hR
 refine lv (iv x325) (hY rfl rfl) ?_
 clear hY
 refine lex.sk (hC.mpput (i:=6) (k:=x325) (cs:=[.bool true]) (v:=true) rfl (KL.int underlying3) (qbi hr327) underlying84 (show Rep _ _ .bool _ _ from rfl) rfl rfl rfl) ?_
 rintro w328 ⟨hC,-⟩
 refine ln (hK321 _ _ ?_)
 refine Wc.fresh fun E329 hE=>?_
 have e1:=cg hE 1 e1
 have e2:=cg hE 2 e2
 have e4:=cg hE 4 e4
 have e5:=cg hE 5 e5
 have e10:=cg hE 10 e10
 have e11:=cg hE 11 e11
 have e12:=cg hE 12 e12
 have e15:=cg hE 15 e15
 have e17:=cg hE 17 e17
 have e18:=cg hE 18 e18
 have e101:=cg hE 101 e101
 have e102:=cg hE 102 e102
 have e103:=cg hE 103 e103
 have e104:=cg hE 104 e104
 have e109:=cg hE 109 e109
 have e116:E329 116=.bool (!x318):=cg hE 116 rfl
 clear hE
 refine rg<|lp (.pointer (some ((⟨g4,0,none⟩:Addr).add 1))) (qaf (sz:=1) underlying32 rfl sizeOf22 (by decide) rfl e2)<|lv (.slice y g.length l) (qal (hC.bx (i:=0) rfl) isAgg22 rfl rfl)<|lp _ (qaa e10)<|lp _ (qaa e18) ?_
 obtain ⟨x331,h332,hb⟩:=bd hb
 obtain ⟨cs330,hY,hR⟩:=hC.mplk (i:=4) (k:=N) rfl (KL.int underlying3) underlying82 (zc:=[iv 0]) (zx:=(0:Int)) zeroValue3 (⟨rfl,I64.wr (show I64 0 from by unfold I64; omega)⟩) false
 rw [Option.some.inj h332] at hR
 obtain ⟨rfl,hr333⟩:=hR
 refine lv (iv x331) (hY rfl rfl) ?_
 clear hY
 obtain ⟨x334,h335,hb⟩:=bd hb
 obtain ⟨ad336,cs337,hA,hc338,hr339⟩:=hC.elr (i:=2) rfl (qad h335).2
 subst hA
 refine lp (.pointer (some (ad336.add (x331.toNat*1)))) (qar (a:=x331) underlying22 sizeOf3 rfl rfl (qad h335).1) ?_
 obtain ⟨rfl,hr339'⟩:=hr339
 refine lv (iv x334) (qaw isAgg3 rfl (hc338 0 _ rfl))<|lp (iv x334) (qab rfl)<|ln ?_
 obtain rfl:=os hb
 exact hK310 m311' _ _ (Nat.lt_succ_self _) ⟨x334,(gput (gput M N true) x325 true),e1,e2,e4,e5,e10,e11,e12,e15,e17,rfl,e101,e102,e103,e104,e109,(qbi hr339'),hC.sE [0,1,2,3,4,5,6,7],lN hl5⟩
 replace hb:=tf hq320 hb
 refine Wc.exit rfl ?_
 obtain rfl:=os hb
 obtain rfl:=(lX hl5).symm
 exact hK309 _ _ ⟨N,M,e1,e2,e4,e5,e10,e11,e12,e15,e17,e18,e101,e102,e103,e104,e109,S,hC.sE [0,1,2,3,4,5,6,7],hbK5⟩
 clear hb hC hl5
 rintro E341 w340 ⟨N,M,e1,e2,e4,e5,e10,e11,e12,e15,e17,e18,e101,e102,e103,e104,e109,S,hC,hb⟩
 refine hK287 _ _<|rg ?_
 obtain ⟨z342,h343,hb⟩:=bd hb
 refine lp (iv z342) (qau (a:=C) (b:=1) e103 rfl h343)<|lp (iv z342) (qaa rfl)<|ln ?_
 obtain rfl:=os hb
 exact hK279 m280' _ _ (Nat.lt_succ_self _) ⟨z304,z342,M,e1,e2,e4,e5,e10,e11,e12,e15,e101,e102,rfl,(qah h305),(qah h343),hC.sE [0,1,2,3,4,5,6,7],lN hl4⟩
 replace hb:=tf hq286 hb
 refine Wc.exit rfl ?_
 obtain rfl:=os hb
 obtain rfl:=(lX hl4).symm
 exact hK278 _ _ ⟨J,C,P,e1,e2,e4,e5,e11,e15,R,T,hC.sE [0,1,2,3,5],hbK4⟩
 clear hb hC hl4
 rintro E345 w344 ⟨J,C,P,e1,e2,e4,e5,e11,e15,R,T,hC,hb⟩
 subst hf277
 refine hK269 _ _ ?_
 refine Wc.seq fun _ hK346=>?_
 refine Wc.seq fun _ hK347=>rg<|lp _ (qaa e15)<|lp (.bool (decide (64<J))) (qfq (k:=.i64) (a:=J) (b:=64) rfl rfl)<|ln (hK347 _ _ ?_)
 refine Wc.cond (t:=(decide (64<J))) (rfl) (fun hq348=>?_) (fun hq348=>?_)
 replace hb:=tt hq348 hb
 refine Wc.seq fun _ hK349=>rg<|lp (.agg #[.slice none 0 0,.slice none 0 0,iv 0]) (qat (places:=[(0,1),(1,1),(2,1)]) (pv:=[]) type32 underlying32 rfl (qag type22 (qag type22 (qag type3 qbb rfl rfl) rfl rfl) rfl rfl) rfl (by simp [Instr.fill,Value.cells]))<|lex.sk (hC.seta (i:=3) (ds:=[.slice none 0 0,.slice none 0 0,iv 0]) rfl type32 rfl rfl rfl e4 rfl) ?_
 rintro w350 ⟨hC,hF⟩
 refine lp (iv 5) (qab rfl)<|ln (hK349 _ _ ?_)
 replace hC:=hC.nil 3 si
 replace hC:=hC.nil 3 si
 obtain rfl:=os hb
 refine Wc.ret (hKR _ _ ?_)
 refine ⟨_,res2 results37 ⟨_,e4,qai (hC.bx (i:=5) rfl) isAgg32 sizeOf32⟩ (tV (iv 5) rfl),_,rfl,none,0,0,none,0,0,rfl,(show I64 0 from by unfold I64; omega),(show I64 5 from by unfold I64; omega),hC.sE [1,0]⟩
 replace hb:=tf hq348 hb
 refine Wc.skip (hK346 _ _ ?_)
 refine Wc.seq fun _ hK353=>rg<|lp (.pointer (some ((⟨g4,0,none⟩:Addr).add 0))) (qaf (sz:=1) underlying32 rfl sizeOf22 (by decide) rfl e2)<|lv (.slice u j.length x) (qal (hC.bx (i:=0) rfl) isAgg22 rfl rfl)<|lp _ (qaa e11)<|lp _ (qaa e1)<|lp _ (qaa e15) ?_
 obtain ⟨y354,h355,hb⟩:=bd hb
 refine lex.cl (⟨_,_,qam (vs:=[.slice u j.length x,.slice A182 y180.length c184,iv f,iv J]) call49 rfl rfl rfl,mirror_without_ok n (hC.lentLt [.slice A182 y180.length c184]) ((hC.rd (i:=1) rfl).lent [.slice A182 y180.length c184]) ((hC.ow (i:=4) rfl).lend (vs:=[.slice A182 y180.length c184]) (by simp)) U R h355⟩) ?_
 rintro _ w365 ⟨A356,m357,c358,A360,m361,c362,rfl,hr364,hK⟩
 replace hC:=hC.mergeF hK rfl
 clear hK
 obtain ⟨rfl,hl366,hc367⟩:=(hC.ow (i:=0) rfl).qae
 obtain ⟨rfl,hl368,hc369⟩:=(hC.ow (i:=1) rfl).qae
 refine lex.sk (hC.seta (i:=5) (ds:=[.slice A356 y354.1.length c358,.slice A360 y354.2.1.length c362,iv y354.2.2]) rfl type32 rfl rfl rfl e4 rfl) ?_
 rintro w370 ⟨hC,hF⟩
 refine lp (iv 0) (qab rfl)<|ln (hK353 _ _ ?_)
 obtain rfl:=os hb
 refine Wc.ret (hKR _ _ ?_)
 refine ⟨_,res2 results37 ⟨_,e4,qai (hC.bx (i:=5) rfl) isAgg32 sizeOf32⟩ (tV (iv 0) rfl),_,rfl,A356,y354.1.length,c358,A360,y354.2.1.length,c362,rfl,hr364,(show I64 0 from by unfold I64; omega),hC.sE [0,1]⟩
