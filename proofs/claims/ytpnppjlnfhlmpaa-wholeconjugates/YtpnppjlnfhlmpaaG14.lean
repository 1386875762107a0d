import Derived.Test.YtpnppjlnfhlmpaaS
import Derived.Test.YtpnppjlnfhlmpaaG3
import Derived.Test.YtpnppjlnfhlmpaaG4
import Derived.Test.YtpnppjlnfhlmpaaG5
import Derived.Test.YtpnppjlnfhlmpaaG13
set_option linter.all false
namespace Go.Proofs.Ytpnppjlnfhlmpaa
open Ev Try
set_option maxRecDepth 100000
set_option maxHeartbeats 4000000
theorem qhy (n:Nat) {w:World} {O0:List Nat} (hO: ∀k∈O0,k<w.heap.size) {c:Int} (s:I64 c) {g:Option Addr} {x j:Nat} {d:List Int} (y:Rep O0 w (.sl si) [.slice g x j] d) {l:Int} (u:I64 l) {o:Option Addr} {z p:Nat} {f:List Int} (B:Rep O0 w (.sl si) [.slice o z p] f) {r:Bool} (hb:F.qeb n c d l f=some r):
    Calls prog 3 #[.agg #[iv c,.slice g x j],.agg #[iv l,.slice o z p]] w fun e w'=> ∃v,e=.returned v∧v=.bool r∧Cx (fun _=>False) O0 w w' []:=by
 unfold F.qeb at hb
 have hC:=Cx.start hO
 replace hC:=hC.arg rfl y
 replace hC:=hC.arg rfl B
 clear hO
 obtain ⟨rfl,C,D⟩:=y.qae
 obtain ⟨rfl,G,J⟩:=B.qae
 refine qao func3 rfl (by rw [ntmps3]; exact nb rfl) fun KR hKR=>?_
 refine Wc.seq fun _ hK3=>rg<|lex.op (hC.box (cs:=[iv c,.slice g d.length j]) rfl rfl) ?_
 rintro _ w5 ⟨g4,rfl,hC,hF,-⟩
 refine lex.op (hC.box (cs:=[iv l,.slice o f.length p]) rfl rfl) ?_
 rintro _ w8 ⟨g7,rfl,hC,hF,-⟩
 refine lp (.bool false) (qab rfl)<|ln (hK3 _ _ ?_)
 refine Wc.seq fun _ hK10=>?_
 refine Wc.seq fun _ hK11=>rg ?_
 obtain ⟨y12,h13,hb⟩:=bd hb
 refine lex.cl (⟨_,_,qam (vs:=[]) call4 rfl rfl rfl,unraveltop_awake_ok n hC.lt h13⟩) ?_
 rintro _ w14 ⟨rfl,hK⟩
 replace hC:=hC.merge hK
 clear hK
 refine lp (.bool (!y12)) (qbt (q:=y12) rfl)<|ln (hK11 _ _ ?_)
 refine Wc.cond (t:=(!y12)) (rfl) (fun hq15=>?_) (fun hq15=>?_)
 replace hb:=tt hq15 hb
 refine Wc.seq fun _ hK16=>rg<|lp (.bool false) (qab rfl)<|ln (hK16 _ _ ?_)
 obtain rfl:=os hb
 refine Wc.ret (hKR _ _ ?_)
 refine ⟨_,res1 results3 (tV (.bool false) rfl),_,rfl,rfl,hC.sE []⟩
 replace hb:=tf hq15 hb
 refine Wc.skip (hK10 _ _ ?_)
 refine Wc.seq fun _ hK17=>?_
 refine Wc.seq fun _ hK18=>rg<|lp (.pointer (some ((⟨g4,0,none⟩:Addr).add 0))) (qaf (sz:=1) underlying24 rfl sizeOf3 (by decide) rfl rfl)<|lv (iv c) (qal (hC.bx (i:=1) rfl) isAgg3 rfl rfl)<|lp (.bool (decide (4<c))) (qfq (k:=.i64) (a:=c) (b:=4) rfl rfl)<|lp (.bool (decide (4<c))) (qaa rfl) ?_
 rcases bS (decide (4<c)) with hq19 | hq19
 replace hb:=tt hq19 hb
 refine gs rfl rfl (decide (4<c)) rfl hq19<|gs rfl rfl (decide (4<c)) rfl hq19<|gs rfl rfl (decide (4<c)) rfl hq19<|gs rfl rfl (decide (4<c)) rfl hq19<|lp (.bool true) (qap (q:=(decide (4<c))) rfl hq19 rfl)<|lp (.bool true) (qaa rfl)<|gs rfl rfl true rfl rfl<|gs rfl rfl true rfl rfl<|gs rfl rfl true rfl rfl<|gs rfl rfl true rfl rfl<|lp (.bool true) (qap (q:=true) rfl rfl rfl)<|lp (.bool true) (qaa rfl)<|gs rfl rfl true rfl rfl<|gs rfl rfl true rfl rfl<|gs rfl rfl true rfl rfl<|lp (.bool true) (qap (q:=true) rfl rfl rfl)<|lp (.bool true) (qaa rfl)<|gs rfl rfl true rfl rfl<|gs rfl rfl true rfl rfl<|gs rfl rfl true rfl rfl<|lp (.bool true) (qap (q:=true) rfl rfl rfl)<|lp (.bool true) (qaa rfl)<|gs rfl rfl true rfl rfl<|gs rfl rfl true rfl rfl<|gs rfl rfl true rfl rfl<|gs rfl rfl true rfl rfl<|gs rfl rfl true rfl rfl<|lp (.bool true) (qap (q:=true) rfl rfl rfl)<|ln (hK18 _ _ ?_)
 refine Wc.cond_true (rfl) ?_
 refine Wc.seq fun _ hK20=>rg<|lp (.bool true) (qab rfl)<|ln (hK20 _ _ ?_)
 obtain rfl:=os hb
 refine Wc.ret (hKR _ _ ?_)
 refine ⟨_,res1 results3 (tV (.bool true) rfl),_,rfl,rfl,hC.sE []⟩
 replace hb:=tf hq19 hb
 refine gp rfl rfl (decide (4<c)) rfl hq19 (.pointer (some ((⟨g4,0,none⟩:Addr).add 1))) (qaf (sz:=1) underlying24 rfl sizeOf22 (by decide) rfl rfl)<|gv rfl rfl (decide (4<c)) rfl hq19 (.slice g d.length j) (qal (hC.bx (i:=1) rfl) isAgg22 rfl rfl)<|gp rfl rfl (decide (4<c)) rfl hq19 (iv (d.length:Int)) (qay (A:=g) (n:=d.length) (m:=j) underlying22 rfl)<|gp rfl rfl (decide (4<c)) rfl hq19 (.bool (decide (6<(d.length:Int)))) (qfq (k:=.i64) (a:=(d.length:Int)) (b:=6) rfl rfl)<|lp (.bool (decide (6<(d.length:Int)))) (qak (q:=(decide (4<c))) rfl hq19 rfl)<|lp (.bool (decide (6<(d.length:Int)))) (qaa rfl) ?_
 rcases bS (decide (6<(d.length:Int))) with hq21 | hq21
 replace hb:=tt hq21 hb
 refine gs rfl rfl (decide (6<(d.length:Int))) rfl hq21<|gs rfl rfl (decide (6<(d.length:Int))) rfl hq21<|gs rfl rfl (decide (6<(d.length:Int))) rfl hq21<|gs rfl rfl (decide (6<(d.length:Int))) rfl hq21<|lp (.bool true) (qap (q:=(decide (6<(d.length:Int)))) rfl hq21 rfl)<|lp (.bool true) (qaa rfl)<|gs rfl rfl true rfl rfl<|gs rfl rfl true rfl rfl<|gs rfl rfl true rfl rfl<|lp (.bool true) (qap (q:=true) rfl rfl rfl)<|lp (.bool true) (qaa rfl)<|gs rfl rfl true rfl rfl<|gs rfl rfl true rfl rfl<|gs rfl rfl true rfl rfl<|lp (.bool true) (qap (q:=true) rfl rfl rfl)<|lp (.bool true) (qaa rfl)<|gs rfl rfl true rfl rfl<|gs rfl rfl true rfl rfl<|gs rfl rfl true rfl rfl<|gs rfl rfl true rfl rfl<|gs rfl rfl true rfl rfl<|lp (.bool true) (qap (q:=true) rfl rfl rfl)<|ln (hK18 _ _ ?_)
 refine Wc.cond_true (rfl) ?_
 refine Wc.seq fun _ hK22=>rg<|lp (.bool true) (qab rfl)<|ln (hK22 _ _ ?_)
 obtain rfl:=os hb
 refine Wc.ret (hKR _ _ ?_)
 refine ⟨_,res1 results3 (tV (.bool true) rfl),_,rfl,rfl,hC.sE []⟩
 replace hb:=tf hq21 hb
 refine gp rfl rfl (decide (6<(d.length:Int))) rfl hq21 (.pointer (some ((⟨g7,0,none⟩:Addr).add 1))) (qaf (sz:=1) underlying24 rfl sizeOf22 (by decide) rfl rfl)<|gv rfl rfl (decide (6<(d.length:Int))) rfl hq21 (.slice o f.length p) (qal (hC.bx (i:=0) rfl) isAgg22 rfl rfl)<|gp rfl rfl (decide (6<(d.length:Int))) rfl hq21 (iv (f.length:Int)) (qay (A:=o) (n:=f.length) (m:=p) underlying22 rfl)<|gp rfl rfl (decide (6<(d.length:Int))) rfl hq21 (.bool (decide (2<(f.length:Int)))) (qfq (k:=.i64) (a:=(f.length:Int)) (b:=2) rfl rfl)<|lp (.bool (decide (2<(f.length:Int)))) (qak (q:=(decide (6<(d.length:Int)))) rfl hq21 rfl)<|lp (.bool (decide (2<(f.length:Int)))) (qaa rfl) ?_
 rcases bS (decide (2<(f.length:Int))) with hq23 | hq23
 replace hb:=tt hq23 hb
 refine gs rfl rfl (decide (2<(f.length:Int))) rfl hq23<|gs rfl rfl (decide (2<(f.length:Int))) rfl hq23<|gs rfl rfl (decide (2<(f.length:Int))) rfl hq23<|lp (.bool true) (qap (q:=(decide (2<(f.length:Int)))) rfl hq23 rfl)<|lp (.bool true) (qaa rfl)<|gs rfl rfl true rfl rfl<|gs rfl rfl true rfl rfl<|gs rfl rfl true rfl rfl<|lp (.bool true) (qap (q:=true) rfl rfl rfl)<|lp (.bool true) (qaa rfl)<|gs rfl rfl true rfl rfl<|gs rfl rfl true rfl rfl<|gs rfl rfl true rfl rfl<|gs rfl rfl true rfl rfl<|gs rfl rfl true rfl rfl<|lp (.bool true) (qap (q:=true) rfl rfl rfl)<|ln (hK18 _ _ ?_)
 refine Wc.cond_true (rfl) ?_
 refine Wc.seq fun _ hK24=>rg<|lp (.bool true) (qab rfl)<|ln (hK24 _ _ ?_)
 obtain rfl:=os hb
 refine Wc.ret (hKR _ _ ?_)
 refine ⟨_,res1 results3 (tV (.bool true) rfl),_,rfl,rfl,hC.sE []⟩
 replace hb:=tf hq23 hb
 refine gv rfl rfl (decide (2<(f.length:Int))) rfl hq23 (.agg #[iv c,.slice g d.length j]) (qaq (hC.bx (i:=1) rfl) isAgg24 sizeOf24 rfl) ?_
 obtain ⟨y25,h26,hb⟩:=bd hb
 refine lex.gcl (qdp rfl rfl (show _=Value.bool (decide (2<(f.length:Int))) from rfl) hq23) (⟨_,_,qam (vs:=[.agg #[iv c,.slice g d.length j]]) call5 rfl rfl rfl,qgh n hC.lt s (hC.rd (i:=3) rfl) h26⟩) ?_
 rintro _ w27 ⟨rfl,hK⟩
 replace hC:=hC.merge hK
 clear hK
 refine gp rfl rfl (decide (2<(f.length:Int))) rfl hq23 (.bool (!y25)) (qbt (q:=y25) rfl)<|lp (.bool (!y25)) (qak (q:=(decide (2<(f.length:Int)))) rfl hq23 rfl)<|lp (.bool (!y25)) (qaa rfl) ?_
 rcases bS (!y25) with hq28 | hq28
 replace hb:=tt hq28 hb
 refine gs rfl rfl (!y25) rfl hq28<|gs rfl rfl (!y25) rfl hq28<|gs rfl rfl (!y25) rfl hq28<|lp (.bool true) (qap (q:=(!y25)) rfl hq28 rfl)<|lp (.bool true) (qaa rfl)<|gs rfl rfl true rfl rfl<|gs rfl rfl true rfl rfl<|gs rfl rfl true rfl rfl<|gs rfl rfl true rfl rfl<|gs rfl rfl true rfl rfl<|lp (.bool true) (qap (q:=true) rfl rfl rfl)<|ln (hK18 _ _ ?_)
 refine Wc.cond_true (rfl) ?_
 refine Wc.seq fun _ hK29=>rg<|lp (.bool true) (qab rfl)<|ln (hK29 _ _ ?_)
 obtain rfl:=os hb
 refine Wc.ret (hKR _ _ ?_)
 refine ⟨_,res1 results3 (tV (.bool true) rfl),_,rfl,rfl,hC.sE []⟩
 replace hb:=tf hq28 hb
 refine gv rfl rfl (!y25) rfl hq28 (.agg #[iv l,.slice o f.length p]) (qaq (hC.bx (i:=0) rfl) isAgg24 sizeOf24 rfl) ?_
 obtain ⟨y30,h31,hb⟩:=bd hb
 refine lex.gcl (qdp rfl rfl (show _=Value.bool (!y25) from rfl) hq28) (⟨_,_,qam (vs:=[.agg #[iv l,.slice o f.length p]]) call5 rfl rfl rfl,qgh n hC.lt u (hC.rd (i:=2) rfl) h31⟩) ?_
 rintro _ w32 ⟨rfl,hK⟩
 replace hC:=hC.merge hK
 clear hK
 refine gp rfl rfl (!y25) rfl hq28 (.bool (!y30)) (qbt (q:=y30) rfl)<|lp (.bool (!y30)) (qak (q:=(!y25)) rfl hq28 rfl)<|lp (.bool (!y30)) (qaa rfl) ?_
 rcases bS (!y30) with hq33 | hq33
 replace hb:=tt hq33 hb
 refine gs rfl rfl (!y30) rfl hq33<|gs rfl rfl (!y30) rfl hq33<|gs rfl rfl (!y30) rfl hq33<|gs rfl rfl (!y30) rfl hq33<|gs rfl rfl (!y30) rfl hq33<|lp (.bool true) (qap (q:=(!y30)) rfl hq33 rfl)<|ln (hK18 _ _ ?_)
 refine Wc.cond_true (rfl) ?_
 refine Wc.seq fun _ hK34=>rg<|lp (.bool true) (qab rfl)<|ln (hK34 _ _ ?_)
 obtain rfl:=os hb
 refine Wc.ret (hKR _ _ ?_)
 refine ⟨_,res1 results3 (tV (.bool true) rfl),_,rfl,rfl,hC.sE []⟩
 replace hb:=tf hq33 hb
 refine gp rfl rfl (!y30) rfl hq33 (.pointer (some ((⟨g4,0,none⟩:Addr).add 0))) (qaf (sz:=1) underlying24 rfl sizeOf3 (by decide) rfl rfl)<|gv rfl rfl (!y30) rfl hq33 (iv c) (qal (hC.bx (i:=1) rfl) isAgg3 rfl rfl)<|gp rfl rfl (!y30) rfl hq33 (.pointer (some ((⟨g7,0,none⟩:Addr).add 0))) (qaf (sz:=1) underlying24 rfl sizeOf3 (by decide) rfl rfl)<|gv rfl rfl (!y30) rfl hq33 (iv l) (qal (hC.bx (i:=0) rfl) isAgg3 rfl rfl)<|gp rfl rfl (!y30) rfl hq33 (.bool (!(decide (c=l)))) (pu_neq (k:=.i64) (a:=c) (b:=l) rfl rfl)<|lp (.bool (!(decide (c=l)))) (qak (q:=(!y30)) rfl hq33 rfl)<|ln (hK18 _ _ ?_)
 refine Wc.cond (t:=(!(decide (c=l)))) (rfl) (fun hq35=>?_) (fun hq35=>?_)
 replace hb:=tt hq35 hb
 refine Wc.seq fun _ hK36=>rg<|lp (.bool true) (qab rfl)<|ln (hK36 _ _ ?_)
 obtain rfl:=os hb
 refine Wc.ret (hKR _ _ ?_)
 refine ⟨_,res1 results3 (tV (.bool true) rfl),_,rfl,rfl,hC.sE []⟩
 replace hb:=tf hq35 hb
 refine Wc.skip (hK17 _ _ ?_)
 refine Wc.fresh fun E37 hE=>?_
 have e2:E37 2=pg g4:=cg hE 2 rfl
 have e3:E37 3=pg g7:=cg hE 3 rfl
 have e4:E37 4=.bool false:=cg hE 4 rfl
 clear hE
 refine Wc.seq fun _ hK38=>rg<|lv (.agg #[iv l,.slice o f.length p]) (qaq (hC.bx (i:=0) rfl) isAgg24 sizeOf24 e3)<|lv (.agg #[iv c,.slice g d.length j]) (qaq (hC.bx (i:=1) rfl) isAgg24 sizeOf24 e2) ?_
 obtain ⟨y39,h40,hb⟩:=bd hb
 refine lex.cl (⟨_,_,qam (vs:=[.agg #[iv l,.slice o f.length p],.agg #[iv c,.slice g d.length j]]) call6 rfl rfl rfl,braid_Mul_ok n hC.lt u (hC.rd (i:=2) rfl) s (hC.rd (i:=3) rfl) h40⟩) ?_
 rintro _ w47 ⟨A42,m43,c44,rfl,hr41,hr46,hK⟩
 replace hC:=hC.merge hK
 clear hK
 obtain ⟨rfl,hl48,hc49⟩:=(hC.ow (i:=0) rfl).qae
 refine lp (.tuple #[.agg #[iv y39.1,.slice A42 y39.2.1.length c44],iv y39.2.2]) (qaa rfl)<|lp (.agg #[iv y39.1,.slice A42 y39.2.1.length c44]) (qav rfl rfl)<|lp (iv y39.2.2) (qav rfl rfl)<|lex.op (hC.alloc (cs:=[iv 0,.slice none 0 0]) zeroValue24 rfl) ?_
 rintro _ w51 ⟨g50,rfl,hC,hF,-⟩
 refine lex.sk (hC.seta (i:=0) (ds:=[iv y39.1,.slice A42 y39.2.1.length c44]) rfl type24 rfl rfl rfl rfl rfl) ?_
 rintro w53 ⟨hC,hF⟩
 refine lp (iv y39.2.2) (qab rfl)<|ln (hK38 _ _ ?_)
 refine Wc.seq fun _ hK54=>?_
 refine Wc.regionPlan [58,59] (frm [58,59] ([]:List Fact) ([]:List Fact)) (chainP [0,1] (.alt (chainP [2] (.alt (chainP [3] (chainP [4,5,6,7,8,9] .done)) (chainP [7] (chainP [3,4,5,6,8,9] .done)))) (chainP [7] (chainP [2,3,4,5,6,8,9] .done)))) (fun _=>rfl) mixed (by decide+kernel) (by decide+kernel) fun w56 hw55=>?_
 replace hC:=hC.step (Fr.qcx hw55)
 have hM:=Fr.refl (fun k=>k∈blocks ([]:List Fact)) w56
 clear hw55
 have hS:=hC
 have hD:Fr (fun k=>k∈blocks (([]:List Fact)++([]:List Fact))) w56 w56:=hM.wide
 refine qac ?_
 refine mixE.steady hD (v:=.agg #[iv y39.1,.slice A42 y39.2.1.length c44]) (fun _ hF=>qaq (hS.bx2 (i:=0) rfl [] (by decide) hF) isAgg24 sizeOf24 rfl)<|mixE.steady hD (v:=.agg #[iv l,.slice o f.length p]) (fun _ hF=>qaq (hS.bx2 (i:=2) rfl [] (by decide) hF) isAgg24 sizeOf24 e3)<|mixE.nil ?_
 refine qas ?_ ?_
 refine qac ?_
 obtain ⟨y57,h58,hb⟩:=bd hb
 refine mixE.cl hM (⟨_,_,qam (vs:=[.agg #[iv l,.slice o f.length p]]) call7 rfl rfl rfl,braid_Inverse_ok n hC.lt u (hC.rd (i:=4) rfl) h58⟩) ?_
 rintro _ w64 ⟨A60,m61,c62,rfl,hr59,hK⟩
 have hBf63:=Beside.cl (i:=0) hM hK rfl
 have hUf63:=hBf63.wide (H:=([]:List Fact))
 replace hM:=hM.none hK.fr
 replace hD:=hM.wide (H:=([]:List Fact))
 refine ⟨hM,?_⟩
 replace hC:=hC.merge hK
 clear hK
 obtain ⟨rfl,hl65,hc66⟩:=(hC.ow (i:=0) rfl).qae
 refine mixE.nil ?_
 refine qas ?_ ?_
 refine qac ?_
 obtain ⟨y67,h68,hb⟩:=bd hb
 refine mixE.cl hM (⟨_,_,qam (vs:=[.agg #[iv y39.1,.slice A42 y39.2.1.length c44],.agg #[iv y57.1,.slice A60 y57.2.length c62]]) call6 rfl rfl rfl,braid_Mul_ok n (hC.lentLt [.slice A42 y39.2.1.length c44,.slice A60 y57.2.length c62]) hr41 ((hC.ow (i:=2) rfl).lend (vs:=[.slice A42 y39.2.1.length c44,.slice A60 y57.2.length c62]) (by simp)) hr59 ((hC.ow (i:=0) rfl).lend (vs:=[.slice A42 y39.2.1.length c44,.slice A60 y57.2.length c62]) (by simp)) h68⟩) ?_
 rintro _ w75 ⟨A70,m71,c72,rfl,hr69,hr74,hK⟩
 have hBf73:=Beside.cl (i:=0) hM hK rfl
 have hUf73:=hBf73.wide (H:=([]:List Fact))
 replace hM:=hM.none hK.fr
 replace hD:=hM.wide (H:=([]:List Fact))
 refine ⟨hM,?_⟩
 replace hC:=hC.mergeF hK rfl
 clear hK
 obtain ⟨rfl,hl76,hc77⟩:=(hC.ow (i:=0) rfl).qae
 refine mixE.nil ?_
 refine qac ?_
 refine mp (.tuple #[.agg #[iv y67.1,.slice A70 y67.2.1.length c72],iv y67.2.2]) (qaa rfl)<|mp (.agg #[iv y67.1,.slice A70 y67.2.1.length c72]) (qav rfl rfl)<|mp (iv y67.2.2) (qav rfl rfl)<|mixE.op hM (hC.alloc (cs:=[iv 0,.slice none 0 0]) zeroValue24 rfl) ?_
 rintro _ w79 ⟨g78,rfl,hC,hF,hG⟩
 have hUf80:g78<w56.heap.size→g78∈blocks (([]:List Fact)++([]:List Fact)):=fun h=>absurd (Nat.lt_of_lt_of_le h (Nat.le_trans hM.size hG)) (Nat.lt_irrefl _)
 clear hG
 replace hM:=hM.none hF
 replace hD:=hM.wide (H:=([]:List Fact))
 refine ⟨hM,?_⟩
 refine mixE.sk hD (hC.seta (i:=0) (ds:=[iv y67.1,.slice A70 y67.2.1.length c72]) rfl type24 rfl rfl rfl rfl rfl) ?_
 rintro w81 ⟨hC,hF⟩
 replace hD:=hD.besideG hUf80 hF
 clear hF
 refine ⟨hD,?_⟩
 refine mp (iv y67.2.2) (qab rfl)<|mixE.nil ?_
 clear hS hM
 clear hD
 refine hK54 _ _<|Wc.fresh fun E82 hE=>?_
 have e2:=cg hE 2 e2
 have e4:=cg hE 4 e4
 have e6:E82 6=iv y39.2.2:=cg hE 6 rfl
 have e7:E82 7=pg g78:=cg hE 7 rfl
 have e8:E82 8=iv y67.2.2:=cg hE 8 rfl
 clear hE
 refine Wc.seq fun _ hK83=>rg<|lv (.agg #[iv c,.slice g d.length j]) (qaq (hC.bx (i:=6) rfl) isAgg24 sizeOf24 e2) ?_
 obtain ⟨y84,h85,hb⟩:=bd hb
 refine lex.cl (⟨_,_,qam (vs:=[.agg #[iv c,.slice g d.length j]]) call8 rfl rfl rfl,qfc n hC.lt s (hC.rd (i:=8) rfl) h85⟩) ?_
 rintro _ w96 ⟨A86,m87,c88,A90,m91,c92,rfl,hr94,hr95,hK⟩
 replace hC:=hC.merge hK
 clear hK
 obtain ⟨rfl,hl97,hc98⟩:=(hC.ow (i:=0) rfl).qae
 obtain ⟨rfl,hl99,hc100⟩:=(hC.ow (i:=1) rfl).qae
 refine lp (.tuple #[.agg #[.slice A86 y84.1.length c88,.slice A90 y84.2.1.length c92,iv y84.2.2.1],iv y84.2.2.2]) (qaa rfl)<|lp (.agg #[.slice A86 y84.1.length c88,.slice A90 y84.2.1.length c92,iv y84.2.2.1]) (qav rfl rfl)<|lp (iv y84.2.2.2) (qav rfl rfl)<|lex.op (hC.alloc (cs:=[.slice none 0 0,.slice none 0 0,iv 0]) zeroValue32 rfl) ?_
 rintro _ w102 ⟨g101,rfl,hC,hF,-⟩
 refine lex.sk (hC.seta (i:=0) (ds:=[.slice A86 y84.1.length c88,.slice A90 y84.2.1.length c92,iv y84.2.2.1]) rfl type32 rfl rfl rfl rfl rfl) ?_
 rintro w104 ⟨hC,hF⟩
 refine lp (iv y84.2.2.2) (qab rfl)<|ln (hK83 _ _ ?_)
 refine Wc.seq fun _ hK105=>rg<|lv (.agg #[iv y67.1,.slice A70 y67.2.1.length c72]) (qaq (hC.bx (i:=3) rfl) isAgg24 sizeOf24 e7) ?_
 obtain ⟨y106,h107,hb⟩:=bd hb
 refine lex.cl (⟨_,_,qam (vs:=[.agg #[iv y67.1,.slice A70 y67.2.1.length c72]]) call8 rfl rfl rfl,qfc n (hC.lentLt [.slice A70 y67.2.1.length c72]) hr69 ((hC.ow (i:=4) rfl).lend (vs:=[.slice A70 y67.2.1.length c72]) (by simp)) h107⟩) ?_
 rintro _ w118 ⟨A108,m109,c110,A112,m113,c114,rfl,hr116,hr117,hK⟩
 replace hC:=hC.mergeF hK rfl
 clear hK
 obtain ⟨rfl,hl119,hc120⟩:=(hC.ow (i:=0) rfl).qae
 obtain ⟨rfl,hl121,hc122⟩:=(hC.ow (i:=1) rfl).qae
 refine lp (.tuple #[.agg #[.slice A108 y106.1.length c110,.slice A112 y106.2.1.length c114,iv y106.2.2.1],iv y106.2.2.2]) (qaa rfl)<|lp (.agg #[.slice A108 y106.1.length c110,.slice A112 y106.2.1.length c114,iv y106.2.2.1]) (qav rfl rfl)<|lp (iv y106.2.2.2) (qav rfl rfl)<|lex.op (hC.alloc (cs:=[.slice none 0 0,.slice none 0 0,iv 0]) zeroValue32 rfl) ?_
 rintro _ w124 ⟨g123,rfl,hC,hF,-⟩
 refine lex.sk (hC.seta (i:=0) (ds:=[.slice A108 y106.1.length c110,.slice A112 y106.2.1.length c114,iv y106.2.2.1]) rfl type32 rfl rfl rfl rfl rfl) ?_
 rintro w126 ⟨hC,hF⟩
 refine lp (iv y106.2.2.2) (qab rfl)<|ln (hK105 _ _ ?_)
 refine Wc.fresh fun E127 hE=>?_
 have e4:=cg hE 4 e4
 have e6:=cg hE 6 e6
 have e8:=cg hE 8 e8
 have e9:E127 9=pg g101:=cg hE 9 rfl
 have e10:E127 10=iv y84.2.2.2:=cg hE 10 rfl
 have e11:E127 11=pg g123:=cg hE 11 rfl
 have e12:E127 12=iv y106.2.2.2:=cg hE 12 rfl
 clear hE
 refine Wc.seq fun _ hK128=>rg<|lv (.agg #[.slice A86 y84.1.length c88,.slice A90 y84.2.1.length c92,iv y84.2.2.1]) (qaq (hC.bx (i:=3) rfl) isAgg32 sizeOf32 e9) ?_
 replace hC:=hC.freeze (i:=5) rfl (hC.qfd (i:=5) rfl)
 replace hC:=hC.freeze (i:=4) rfl (hC.qfd (i:=4) rfl)
 obtain ⟨y129,h130,hb⟩:=bd hb
 refine lex.cl (⟨_,_,qam (vs:=[.agg #[.slice A86 y84.1.length c88,.slice A90 y84.2.1.length c92,iv y84.2.2.1]]) call9 rfl rfl rfl,qge n hC.lt (hC.rd (i:=4) rfl) (hC.rd (i:=5) rfl) hr94 h130⟩) ?_
 rintro _ w136 ⟨A131,m132,c133,rfl,hr135,hK⟩
 replace hC:=hC.merge hK
 clear hK
 obtain ⟨rfl,hl137,hc138⟩:=(hC.rd (i:=0) rfl).qae
 refine lp (.tuple #[.agg #[.bool y129.1,.slice A131 y129.2.1.length c133],iv y129.2.2]) (qaa rfl)<|lp (.agg #[.bool y129.1,.slice A131 y129.2.1.length c133]) (qav rfl rfl)<|lp (iv y129.2.2) (qav rfl rfl)<|lex.op (hC.alloc (cs:=[.bool false,.slice none 0 0]) zeroValue37 rfl) ?_
 rintro _ w140 ⟨g139,rfl,hC,hF,-⟩
 refine lex.sk (hC.seta (i:=0) (ds:=[.bool y129.1,.slice A131 y129.2.1.length c133]) rfl type37 rfl rfl rfl rfl rfl) ?_
 rintro w142 ⟨hC,hF⟩
 refine lp (iv y129.2.2) (qab rfl)<|ln (hK128 _ _ ?_)
 refine Wc.seq fun _ hK143=>rg<|lv (.agg #[.slice A108 y106.1.length c110,.slice A112 y106.2.1.length c114,iv y106.2.2.1]) (qaq (hC.bx (i:=2) rfl) isAgg32 sizeOf32 e11) ?_
 replace hC:=hC.freeze (i:=3) rfl (hC.qfd (i:=3) rfl)
 replace hC:=hC.freeze (i:=4) rfl (hC.qfd (i:=4) rfl)
 obtain ⟨y144,h145,hb⟩:=bd hb
 refine lex.cl (⟨_,_,qam (vs:=[.agg #[.slice A108 y106.1.length c110,.slice A112 y106.2.1.length c114,iv y106.2.2.1]]) call9 rfl rfl rfl,qge n hC.lt (hC.rd (i:=3) rfl) (hC.rd (i:=4) rfl) hr116 h145⟩) ?_
 rintro _ w151 ⟨A146,m147,c148,rfl,hr150,hK⟩
 replace hC:=hC.merge hK
 clear hK
 obtain ⟨rfl,hl152,hc153⟩:=(hC.rd (i:=0) rfl).qae
 refine lp (.tuple #[.agg #[.bool y144.1,.slice A146 y144.2.1.length c148],iv y144.2.2]) (qaa rfl)<|lp (.agg #[.bool y144.1,.slice A146 y144.2.1.length c148]) (qav rfl rfl)<|lp (iv y144.2.2) (qav rfl rfl)<|lex.op (hC.alloc (cs:=[.bool false,.slice none 0 0]) zeroValue37 rfl) ?_
 rintro _ w155 ⟨g154,rfl,hC,hF,-⟩
 refine lex.sk (hC.seta (i:=0) (ds:=[.bool y144.1,.slice A146 y144.2.1.length c148]) rfl type37 rfl rfl rfl rfl rfl) ?_
 rintro w157 ⟨hC,hF⟩
 refine lp (iv y144.2.2) (qab rfl)<|ln (hK143 _ _ ?_)
 refine Wc.fresh fun E158 hE=>?_
 have e4:=cg hE 4 e4
 have e6:=cg hE 6 e6
 have e8:=cg hE 8 e8
 have e10:=cg hE 10 e10
 have e12:=cg hE 12 e12
 have e13:E158 13=pg g139:=cg hE 13 rfl
 have e14:E158 14=iv y129.2.2:=cg hE 14 rfl
 have e15:E158 15=pg g154:=cg hE 15 rfl
 have e16:E158 16=iv y144.2.2:=cg hE 16 rfl
 clear hE
 refine Wc.seq fun _ hK159=>rg<|lp _ (qaa e6)<|lp (.bool (decide (y39.2.2=0))) (qbl (k:=.i64) (a:=y39.2.2) (b:=0) rfl rfl)<|lp (.bool (decide (y39.2.2=0))) (qaa rfl) ?_
 rcases bS (decide (y39.2.2=0)) with hq160 | hq160
 replace hb:=tt hq160 hb
 refine gp rfl rfl (decide (y39.2.2=0)) rfl hq160 (iv y67.2.2) (qaa e8)<|gp rfl rfl (decide (y39.2.2=0)) rfl hq160 (.bool (decide (y67.2.2=0))) (qbl (k:=.i64) (a:=y67.2.2) (b:=0) rfl rfl)<|lp (.bool (decide (y67.2.2=0))) (qap (q:=(decide (y39.2.2=0))) rfl hq160 rfl)<|lp (.bool (decide (y67.2.2=0))) (qaa rfl) ?_
 rcases bS (decide (y67.2.2=0)) with hq161 | hq161
 replace hb:=tt hq161 hb
 refine gp rfl rfl (decide (y67.2.2=0)) rfl hq161 (iv y84.2.2.2) (qaa e10)<|gp rfl rfl (decide (y67.2.2=0)) rfl hq161 (.bool (decide (y84.2.2.2=0))) (qbl (k:=.i64) (a:=y84.2.2.2) (b:=0) rfl rfl)<|lp (.bool (decide (y84.2.2.2=0))) (qap (q:=(decide (y67.2.2=0))) rfl hq161 rfl)<|lp (.bool (decide (y84.2.2.2=0))) (qaa rfl) ?_
 rcases bS (decide (y84.2.2.2=0)) with hq162 | hq162
 replace hb:=tt hq162 hb
 refine gp rfl rfl (decide (y84.2.2.2=0)) rfl hq162 (iv y106.2.2.2) (qaa e12)<|gp rfl rfl (decide (y84.2.2.2=0)) rfl hq162 (.bool (decide (y106.2.2.2=0))) (qbl (k:=.i64) (a:=y106.2.2.2) (b:=0) rfl rfl)<|lp (.bool (decide (y106.2.2.2=0))) (qap (q:=(decide (y84.2.2.2=0))) rfl hq162 rfl)<|lp (.bool (decide (y106.2.2.2=0))) (qaa rfl) ?_
 rcases bS (decide (y106.2.2.2=0)) with hq163 | hq163
 replace hb:=tt hq163 hb
 refine gp rfl rfl (decide (y106.2.2.2=0)) rfl hq163 (iv y129.2.2) (qaa e14)<|gp rfl rfl (decide (y106.2.2.2=0)) rfl hq163 (.bool (decide (y129.2.2=0))) (qbl (k:=.i64) (a:=y129.2.2) (b:=0) rfl rfl)<|lp (.bool (decide (y129.2.2=0))) (qap (q:=(decide (y106.2.2.2=0))) rfl hq163 rfl)<|lp (.bool (decide (y129.2.2=0))) (qaa rfl) ?_
 rcases bS (decide (y129.2.2=0)) with hq164 | hq164
 replace hb:=tt hq164 hb
 refine gp rfl rfl (decide (y129.2.2=0)) rfl hq164 (iv y144.2.2) (qaa e16)<|gp rfl rfl (decide (y129.2.2=0)) rfl hq164 (.bool (decide (y144.2.2=0))) (qbl (k:=.i64) (a:=y144.2.2) (b:=0) rfl rfl)<|lp (.bool (decide (y144.2.2=0))) (qap (q:=(decide (y129.2.2=0))) rfl hq164 rfl)<|lp (.bool (decide (y144.2.2=0))) (qaa rfl) ?_
 rcases bS (decide (y144.2.2=0)) with hq165 | hq165
 replace hb:=tt hq165 hb
 refine gv rfl rfl (decide (y144.2.2=0)) rfl hq165 (.agg #[.bool y129.1,.slice A131 y129.2.1.length c133]) (qaq (hC.bx (i:=2) rfl) isAgg37 sizeOf37 e13)<|gv rfl rfl (decide (y144.2.2=0)) rfl hq165 (.agg #[.bool y144.1,.slice A146 y144.2.1.length c148]) (qaq (hC.bx (i:=0) rfl) isAgg37 sizeOf37 e15) ?_
 obtain ⟨y166,h167,hb⟩:=bd hb
 refine lex.gcl (qdp rfl rfl (show _=Value.bool (decide (y144.2.2=0)) from rfl) hq165) (⟨_,_,qam (vs:=[.agg #[.bool y129.1,.slice A131 y129.2.1.length c133],.agg #[.bool y144.1,.slice A146 y144.2.1.length c148]]) call10 rfl rfl rfl,qgp n hC.lt (hC.rd (i:=3) rfl) (hC.rd (i:=1) rfl) h167⟩) ?_
 rintro _ w168 ⟨rfl,hK⟩
 replace hC:=hC.merge hK
 clear hK
 refine lp (.bool y166) (qap (q:=(decide (y144.2.2=0))) rfl hq165 rfl)<|lp (.bool y166) (qab rfl)<|ln (hK159 _ _ ?_)
 obtain rfl:=os hb
 refine Wc.ret (hKR _ _ ?_)
 refine ⟨_,res1 results3 (tV (.bool y166) rfl),_,rfl,rfl,hC.sE []⟩
 replace hb:=tf hq165 hb
 refine gs rfl rfl (decide (y144.2.2=0)) rfl hq165<|gs rfl rfl (decide (y144.2.2=0)) rfl hq165<|gs rfl rfl (decide (y144.2.2=0)) rfl hq165<|lp (.bool false) (qak (q:=(decide (y144.2.2=0))) rfl hq165 rfl)<|lp (.bool false) (qab rfl)<|ln (hK159 _ _ ?_)
 obtain rfl:=os hb
 refine Wc.ret (hKR _ _ ?_)
 refine ⟨_,res1 results3 (tV (.bool false) rfl),_,rfl,rfl,hC.sE []⟩
 replace hb:=tf hq164 hb
 refine gs rfl rfl (decide (y129.2.2=0)) rfl hq164<|gs rfl rfl (decide (y129.2.2=0)) rfl hq164<|lp (.bool false) (qak (q:=(decide (y129.2.2=0))) rfl hq164 rfl)<|lp (.bool false) (qaa rfl)<|gs rfl rfl false rfl rfl<|gs rfl rfl false rfl rfl<|gs rfl rfl false rfl rfl<|lp (.bool false) (qak (q:=false) rfl rfl rfl)<|lp (.bool false) (qab rfl)<|ln (hK159 _ _ ?_)
 obtain rfl:=os hb
 refine Wc.ret (hKR _ _ ?_)
 refine ⟨_,res1 results3 (tV (.bool false) rfl),_,rfl,rfl,hC.sE []⟩
 replace hb:=tf hq163 hb
 refine gs rfl rfl (decide (y106.2.2.2=0)) rfl hq163<|gs rfl rfl (decide (y106.2.2.2=0)) rfl hq163<|lp (.bool false) (qak (q:=(decide (y106.2.2.2=0))) rfl hq163 rfl)<|lp (.bool false) (qaa rfl)<|gs rfl rfl false rfl rfl<|gs rfl rfl false rfl rfl<|lp (.bool false) (qak (q:=false) rfl rfl rfl)<|lp (.bool false) (qaa rfl)<|gs rfl rfl false rfl rfl<|gs rfl rfl false rfl rfl<|gs rfl rfl false rfl rfl<|lp (.bool false) (qak (q:=false) rfl rfl rfl)<|lp (.bool false) (qab rfl)<|ln (hK159 _ _ ?_)
 obtain rfl:=os hb
 refine Wc.ret (hKR _ _ ?_)
 refine ⟨_,res1 results3 (tV (.bool false) rfl),_,rfl,rfl,hC.sE []⟩
 replace hb:=tf hq162 hb
 refine gs rfl rfl (decide (y84.2.2.2=0)) rfl hq162<|gs rfl rfl (decide (y84.2.2.2=0)) rfl hq162<|lp (.bool false) (qak (q:=(decide (y84.2.2.2=0))) rfl hq162 rfl)<|lp (.bool false) (qaa rfl)<|gs rfl rfl false rfl rfl<|gs rfl rfl false rfl rfl<|lp (.bool false) (qak (q:=false) rfl rfl rfl)<|lp (.bool false) (qaa rfl)<|gs rfl rfl false rfl rfl<|gs rfl rfl false rfl rfl<|lp (.bool false) (qak (q:=false) rfl rfl rfl)<|lp (.bool false) (qaa rfl)<|gs rfl rfl false rfl rfl<|gs rfl rfl false rfl rfl<|gs rfl rfl false rfl rfl<|lp (.bool false) (qak (q:=false) rfl rfl rfl)<|lp (.bool false) (qab rfl)<|ln (hK159 _ _ ?_)
 obtain rfl:=os hb
 refine Wc.ret (hKR _ _ ?_)
 refine ⟨_,res1 results3 (tV (.bool false) rfl),_,rfl,rfl,hC.sE []⟩
 replace hb:=tf hq161 hb
 refine gs rfl rfl (decide (y67.2.2=0)) rfl hq161<|gs rfl rfl (decide (y67.2.2=0)) rfl hq161<|lp (.bool false) (qak (q:=(decide (y67.2.2=0))) rfl hq161 rfl)<|lp (.bool false) (qaa rfl)<|gs rfl rfl false rfl rfl<|gs rfl rfl false rfl rfl<|lp (.bool false) (qak (q:=false) rfl rfl rfl)<|lp (.bool false) (qaa rfl)<|gs rfl rfl false rfl rfl<|gs rfl rfl false rfl rfl<|lp (.bool false) (qak (q:=false) rfl rfl rfl)<|lp (.bool false) (qaa rfl)<|gs rfl rfl false rfl rfl<|gs rfl rfl false rfl rfl<|lp (.bool false) (qak (q:=false) rfl rfl rfl)<|lp (.bool false) (qaa rfl)<|gs rfl rfl false rfl rfl<|gs rfl rfl false rfl rfl<|gs rfl rfl false rfl rfl<|lp (.bool false) (qak (q:=false) rfl rfl rfl)<|lp (.bool false) (qab rfl)<|ln (hK159 _ _ ?_)
 obtain rfl:=os hb
 refine Wc.ret (hKR _ _ ?_)
 refine ⟨_,res1 results3 (tV (.bool false) rfl),_,rfl,rfl,hC.sE []⟩
 replace hb:=tf hq160 hb
 refine gs rfl rfl (decide (y39.2.2=0)) rfl hq160<|gs rfl rfl (decide (y39.2.2=0)) rfl hq160<|lp (.bool false) (qak (q:=(decide (y39.2.2=0))) rfl hq160 rfl)<|lp (.bool false) (qaa rfl)<|gs rfl rfl false rfl rfl<|gs rfl rfl false rfl rfl<|lp (.bool false) (qak (q:=false) rfl rfl rfl)<|lp (.bool false) (qaa rfl)<|gs rfl rfl false rfl rfl<|gs rfl rfl false rfl rfl<|lp (.bool false) (qak (q:=false) rfl rfl rfl)<|lp (.bool false) (qaa rfl)<|gs rfl rfl false rfl rfl<|gs rfl rfl false rfl rfl<|lp (.bool false) (qak (q:=false) rfl rfl rfl)<|lp (.bool false) (qaa rfl)<|gs rfl rfl false rfl rfl<|gs rfl rfl false rfl rfl<|lp (.bool false) (qak (q:=false) rfl rfl rfl)<|lp (.bool false) (qaa rfl)<|gs rfl rfl false rfl rfl<|gs rfl rfl false rfl rfl<|gs rfl rfl false rfl rfl<|lp (.bool false) (qak (q:=false) rfl rfl rfl)<|lp (.bool false) (qab rfl)<|ln (hK159 _ _ ?_)
 obtain rfl:=os hb
 refine Wc.ret (hKR _ _ ?_)
 refine ⟨_,res1 results3 (tV (.bool false) rfl),_,rfl,rfl,hC.sE []⟩
 refine qac ?_
 refine mixE.op hM (hC.alloc (cs:=[iv 0,.slice none 0 0]) zeroValue24 rfl) ?_
 rintro _ w170 ⟨g169,rfl,hC,hF,hG⟩
 have hUf171:g169<w56.heap.size→g169∈blocks (([]:List Fact)++([]:List Fact)):=fun h=>absurd (Nat.lt_of_lt_of_le h (Nat.le_trans hM.size hG)) (Nat.lt_irrefl _)
 clear hG
 replace hM:=hM.none hF
 replace hD:=hM.wide (H:=([]:List Fact))
 refine ⟨hM,?_⟩
 refine mixE.nil ?_
 refine qac ?_
 obtain ⟨y67,h173,hb⟩:=bd hb
 refine mixE.cl hM (⟨_,_,qam (vs:=[.agg #[iv y39.1,.slice A42 y39.2.1.length c44],.agg #[iv y57.1,.slice A60 y57.2.length c62]]) call6 rfl rfl rfl,braid_Mul_ok n (hC.lentLt [.slice A42 y39.2.1.length c44,.slice A60 y57.2.length c62]) hr41 ((hC.ow (i:=3) rfl).lend (vs:=[.slice A42 y39.2.1.length c44,.slice A60 y57.2.length c62]) (by simp)) hr59 ((hC.ow (i:=1) rfl).lend (vs:=[.slice A42 y39.2.1.length c44,.slice A60 y57.2.length c62]) (by simp)) h173⟩) ?_
 rintro _ w180 ⟨A175,m176,c177,rfl,hr174,hr179,hK⟩
 have hBf178:=Beside.cl (i:=0) hM hK rfl
 have hUf178:=hBf178.wide (H:=([]:List Fact))
 replace hM:=hM.none hK.fr
 replace hD:=hM.wide (H:=([]:List Fact))
 refine ⟨hM,?_⟩
 replace hC:=hC.mergeF hK rfl
 clear hK
 obtain ⟨rfl,hl181,hc182⟩:=(hC.ow (i:=0) rfl).qae
 refine mp (.tuple #[.agg #[iv y67.1,.slice A175 y67.2.1.length c177],iv y67.2.2]) (qaa rfl)<|mp (.agg #[iv y67.1,.slice A175 y67.2.1.length c177]) (qav rfl rfl)<|mp (iv y67.2.2) (qav rfl rfl)<|mixE.sk hD (hC.seta (i:=1) (ds:=[iv y67.1,.slice A175 y67.2.1.length c177]) rfl type24 rfl rfl rfl rfl rfl) ?_
 rintro w183 ⟨hC,hF⟩
 replace hD:=hD.besideG hUf171 hF
 clear hF
 refine ⟨hD,?_⟩
 refine mp (iv y67.2.2) (qab rfl)<|mixE.nil ?_
 clear hS hM
 clear hD
 refine hK54 _ _<|Wc.fresh fun E184 hE=>?_
 have e2:=cg hE 2 e2
 have e4:=cg hE 4 e4
 have e6:E184 6=iv y39.2.2:=cg hE 6 rfl
 have e7:E184 7=pg g169:=cg hE 7 rfl
 have e8:E184 8=iv y67.2.2:=cg hE 8 rfl
 clear hE
 refine Wc.seq fun _ hK185=>rg<|lv (.agg #[iv c,.slice g d.length j]) (qaq (hC.bx (i:=6) rfl) isAgg24 sizeOf24 e2) ?_
 obtain ⟨y84,h187,hb⟩:=bd hb
 refine lex.cl (⟨_,_,qam (vs:=[.agg #[iv c,.slice g d.length j]]) call8 rfl rfl rfl,qfc n hC.lt s (hC.rd (i:=8) rfl) h187⟩) ?_
 rintro _ w198 ⟨A188,m189,c190,A192,m193,c194,rfl,hr196,hr197,hK⟩
 replace hC:=hC.merge hK
 clear hK
 obtain ⟨rfl,hl199,hc200⟩:=(hC.ow (i:=0) rfl).qae
 obtain ⟨rfl,hl201,hc202⟩:=(hC.ow (i:=1) rfl).qae
 refine lp (.tuple #[.agg #[.slice A188 y84.1.length c190,.slice A192 y84.2.1.length c194,iv y84.2.2.1],iv y84.2.2.2]) (qaa rfl)<|lp (.agg #[.slice A188 y84.1.length c190,.slice A192 y84.2.1.length c194,iv y84.2.2.1]) (qav rfl rfl)<|lp (iv y84.2.2.2) (qav rfl rfl)<|lex.op (hC.alloc (cs:=[.slice none 0 0,.slice none 0 0,iv 0]) zeroValue32 rfl) ?_
 rintro _ w204 ⟨g203,rfl,hC,hF,-⟩
 refine lex.sk (hC.seta (i:=0) (ds:=[.slice A188 y84.1.length c190,.slice A192 y84.2.1.length c194,iv y84.2.2.1]) rfl type32 rfl rfl rfl rfl rfl) ?_
 rintro w206 ⟨hC,hF⟩
 refine lp (iv y84.2.2.2) (qab rfl)<|ln (hK185 _ _ ?_)
 refine Wc.seq fun _ hK207=>rg<|lv (.agg #[iv y67.1,.slice A175 y67.2.1.length c177]) (qaq (hC.bx (i:=4) rfl) isAgg24 sizeOf24 e7) ?_
 obtain ⟨y106,h209,hb⟩:=bd hb
 refine lex.cl (⟨_,_,qam (vs:=[.agg #[iv y67.1,.slice A175 y67.2.1.length c177]]) call8 rfl rfl rfl,qfc n (hC.lentLt [.slice A175 y67.2.1.length c177]) hr174 ((hC.ow (i:=3) rfl).lend (vs:=[.slice A175 y67.2.1.length c177]) (by simp)) h209⟩) ?_
 rintro _ w220 ⟨A210,m211,c212,A214,m215,c216,rfl,hr218,hr219,hK⟩
 replace hC:=hC.mergeF hK rfl
 clear hK
 obtain ⟨rfl,hl221,hc222⟩:=(hC.ow (i:=0) rfl).qae
 obtain ⟨rfl,hl223,hc224⟩:=(hC.ow (i:=1) rfl).qae
 refine lp (.tuple #[.agg #[.slice A210 y106.1.length c212,.slice A214 y106.2.1.length c216,iv y106.2.2.1],iv y106.2.2.2]) (qaa rfl)<|lp (.agg #[.slice A210 y106.1.length c212,.slice A214 y106.2.1.length c216,iv y106.2.2.1]) (qav rfl rfl)<|lp (iv y106.2.2.2) (qav rfl rfl)<|lex.op (hC.alloc (cs:=[.slice none 0 0,.slice none 0 0,iv 0]) zeroValue32 rfl) ?_
 rintro _ w226 ⟨g225,rfl,hC,hF,-⟩
 refine lex.sk (hC.seta (i:=0) (ds:=[.slice A210 y106.1.length c212,.slice A214 y106.2.1.length c216,iv y106.2.2.1]) rfl type32 rfl rfl rfl rfl rfl) ?_
 rintro w228 ⟨hC,hF⟩
 refine lp (iv y106.2.2.2) (qab rfl)<|ln (hK207 _ _ ?_)
 refine Wc.fresh fun E229 hE=>?_
 have e4:=cg hE 4 e4
 have e6:=cg hE 6 e6
 have e8:=cg hE 8 e8
 have e9:E229 9=pg g203:=cg hE 9 rfl
 have e10:E229 10=iv y84.2.2.2:=cg hE 10 rfl
 have e11:E229 11=pg g225:=cg hE 11 rfl
 have e12:E229 12=iv y106.2.2.2:=cg hE 12 rfl
 clear hE
 refine Wc.seq fun _ hK230=>rg<|lv (.agg #[.slice A188 y84.1.length c190,.slice A192 y84.2.1.length c194,iv y84.2.2.1]) (qaq (hC.bx (i:=3) rfl) isAgg32 sizeOf32 e9) ?_
 replace hC:=hC.freeze (i:=5) rfl (hC.qfd (i:=5) rfl)
 replace hC:=hC.freeze (i:=4) rfl (hC.qfd (i:=4) rfl)
 obtain ⟨y129,h232,hb⟩:=bd hb
 refine lex.cl (⟨_,_,qam (vs:=[.agg #[.slice A188 y84.1.length c190,.slice A192 y84.2.1.length c194,iv y84.2.2.1]]) call9 rfl rfl rfl,qge n hC.lt (hC.rd (i:=4) rfl) (hC.rd (i:=5) rfl) hr196 h232⟩) ?_
 rintro _ w238 ⟨A233,m234,c235,rfl,hr237,hK⟩
 replace hC:=hC.merge hK
 clear hK
 obtain ⟨rfl,hl239,hc240⟩:=(hC.rd (i:=0) rfl).qae
 refine lp (.tuple #[.agg #[.bool y129.1,.slice A233 y129.2.1.length c235],iv y129.2.2]) (qaa rfl)<|lp (.agg #[.bool y129.1,.slice A233 y129.2.1.length c235]) (qav rfl rfl)<|lp (iv y129.2.2) (qav rfl rfl)<|lex.op (hC.alloc (cs:=[.bool false,.slice none 0 0]) zeroValue37 rfl) ?_
 rintro _ w242 ⟨g241,rfl,hC,hF,-⟩
 refine lex.sk (hC.seta (i:=0) (ds:=[.bool y129.1,.slice A233 y129.2.1.length c235]) rfl type37 rfl rfl rfl rfl rfl) ?_
 rintro w244 ⟨hC,hF⟩
 refine lp (iv y129.2.2) (qab rfl)<|ln (hK230 _ _ ?_)
 refine Wc.seq fun _ hK245=>rg<|lv (.agg #[.slice A210 y106.1.length c212,.slice A214 y106.2.1.length c216,iv y106.2.2.1]) (qaq (hC.bx (i:=2) rfl) isAgg32 sizeOf32 e11) ?_
 replace hC:=hC.freeze (i:=3) rfl (hC.qfd (i:=3) rfl)
 replace hC:=hC.freeze (i:=4) rfl (hC.qfd (i:=4) rfl)
 obtain ⟨y144,h247,hb⟩:=bd hb
 refine lex.cl (⟨_,_,qam (vs:=[.agg #[.slice A210 y106.1.length c212,.slice A214 y106.2.1.length c216,iv y106.2.2.1]]) call9 rfl rfl rfl,qge n hC.lt (hC.rd (i:=3) rfl) (hC.rd (i:=4) rfl) hr218 h247⟩) ?_
 rintro _ w253 ⟨A248,m249,c250,rfl,hr252,hK⟩
 replace hC:=hC.merge hK
 clear hK
 obtain ⟨rfl,hl254,hc255⟩:=(hC.rd (i:=0) rfl).qae
 refine lp (.tuple #[.agg #[.bool y144.1,.slice A248 y144.2.1.length c250],iv y144.2.2]) (qaa rfl)<|lp (.agg #[.bool y144.1,.slice A248 y144.2.1.length c250]) (qav rfl rfl)<|lp (iv y144.2.2) (qav rfl rfl)<|lex.op (hC.alloc (cs:=[.bool false,.slice none 0 0]) zeroValue37 rfl) ?_
 rintro _ w257 ⟨g256,rfl,hC,hF,-⟩
 refine lex.sk (hC.seta (i:=0) (ds:=[.bool y144.1,.slice A248 y144.2.1.length c250]) rfl type37 rfl rfl rfl rfl rfl) ?_
 rintro w259 ⟨hC,hF⟩
 refine lp (iv y144.2.2) (qab rfl)<|ln (hK245 _ _ ?_)
 refine Wc.fresh fun E260 hE=>?_
 have e4:=cg hE 4 e4
 have e6:=cg hE 6 e6
 have e8:=cg hE 8 e8
 have e10:=cg hE 10 e10
 have e12:=cg hE 12 e12
 have e13:E260 13=pg g241:=cg hE 13 rfl
 have e14:E260 14=iv y129.2.2:=cg hE 14 rfl
 have e15:E260 15=pg g256:=cg hE 15 rfl
 have e16:E260 16=iv y144.2.2:=cg hE 16 rfl
 clear hE
 refine Wc.seq fun _ hK261=>rg<|lp _ (qaa e6)<|lp (.bool (decide (y39.2.2=0))) (qbl (k:=.i64) (a:=y39.2.2) (b:=0) rfl rfl)<|lp (.bool (decide (y39.2.2=0))) (qaa rfl) ?_
 rcases bS (decide (y39.2.2=0)) with hq262 | hq262
 replace hb:=tt hq262 hb
 refine gp rfl rfl (decide (y39.2.2=0)) rfl hq262 (iv y67.2.2) (qaa e8)<|gp rfl rfl (decide (y39.2.2=0)) rfl hq262 (.bool (decide (y67.2.2=0))) (qbl (k:=.i64) (a:=y67.2.2) (b:=0) rfl rfl)<|lp (.bool (decide (y67.2.2=0))) (qap (q:=(decide (y39.2.2=0))) rfl hq262 rfl)<|lp (.bool (decide (y67.2.2=0))) (qaa rfl) ?_
 rcases bS (decide (y67.2.2=0)) with hq263 | hq263
 replace hb:=tt hq263 hb
 refine gp rfl rfl (decide (y67.2.2=0)) rfl hq263 (iv y84.2.2.2) (qaa e10)<|gp rfl rfl (decide (y67.2.2=0)) rfl hq263 (.bool (decide (y84.2.2.2=0))) (qbl (k:=.i64) (a:=y84.2.2.2) (b:=0) rfl rfl)<|lp (.bool (decide (y84.2.2.2=0))) (qap (q:=(decide (y67.2.2=0))) rfl hq263 rfl)<|lp (.bool (decide (y84.2.2.2=0))) (qaa rfl) ?_
 rcases bS (decide (y84.2.2.2=0)) with hq264 | hq264
 replace hb:=tt hq264 hb
 refine gp rfl rfl (decide (y84.2.2.2=0)) rfl hq264 (iv y106.2.2.2) (qaa e12)<|gp rfl rfl (decide (y84.2.2.2=0)) rfl hq264 (.bool (decide (y106.2.2.2=0))) (qbl (k:=.i64) (a:=y106.2.2.2) (b:=0) rfl rfl)<|lp (.bool (decide (y106.2.2.2=0))) (qap (q:=(decide (y84.2.2.2=0))) rfl hq264 rfl)<|lp (.bool (decide (y106.2.2.2=0))) (qaa rfl) ?_
 rcases bS (decide (y106.2.2.2=0)) with hq265 | hq265
 replace hb:=tt hq265 hb
 refine gp rfl rfl (decide (y106.2.2.2=0)) rfl hq265 (iv y129.2.2) (qaa e14)<|gp rfl rfl (decide (y106.2.2.2=0)) rfl hq265 (.bool (decide (y129.2.2=0))) (qbl (k:=.i64) (a:=y129.2.2) (b:=0) rfl rfl)<|lp (.bool (decide (y129.2.2=0))) (qap (q:=(decide (y106.2.2.2=0))) rfl hq265 rfl)<|lp (.bool (decide (y129.2.2=0))) (qaa rfl) ?_
 rcases bS (decide (y129.2.2=0)) with hq266 | hq266
 replace hb:=tt hq266 hb
 refine gp rfl rfl (decide (y129.2.2=0)) rfl hq266 (iv y144.2.2) (qaa e16)<|gp rfl rfl (decide (y129.2.2=0)) rfl hq266 (.bool (decide (y144.2.2=0))) (qbl (k:=.i64) (a:=y144.2.2) (b:=0) rfl rfl)<|lp (.bool (decide (y144.2.2=0))) (qap (q:=(decide (y129.2.2=0))) rfl hq266 rfl)<|lp (.bool (decide (y144.2.2=0))) (qaa rfl) ?_
 rcases bS (decide (y144.2.2=0)) with hq267 | hq267
 replace hb:=tt hq267 hb
 refine gv rfl rfl (decide (y144.2.2=0)) rfl hq267 (.agg #[.bool y129.1,.slice A233 y129.2.1.length c235]) (qaq (hC.bx (i:=2) rfl) isAgg37 sizeOf37 e13)<|gv rfl rfl (decide (y144.2.2=0)) rfl hq267 (.agg #[.bool y144.1,.slice A248 y144.2.1.length c250]) (qaq (hC.bx (i:=0) rfl) isAgg37 sizeOf37 e15) ?_
 obtain ⟨y166,h269,hb⟩:=bd hb
 refine lex.gcl (qdp rfl rfl (show _=Value.bool (decide (y144.2.2=0)) from rfl) hq267) (⟨_,_,qam (vs:=[.agg #[.bool y129.1,.slice A233 y129.2.1.length c235],.agg #[.bool y144.1,.slice A248 y144.2.1.length c250]]) call10 rfl rfl rfl,qgp n hC.lt (hC.rd (i:=3) rfl) (hC.rd (i:=1) rfl) h269⟩) ?_
 rintro _ w270 ⟨rfl,hK⟩
 replace hC:=hC.merge hK
 clear hK
 refine lp (.bool y166) (qap (q:=(decide (y144.2.2=0))) rfl hq267 rfl)<|lp (.bool y166) (qab rfl)<|ln (hK261 _ _ ?_)
 obtain rfl:=os hb
 refine Wc.ret (hKR _ _ ?_)
 refine ⟨_,res1 results3 (tV (.bool y166) rfl),_,rfl,rfl,hC.sE []⟩
 replace hb:=tf hq267 hb
 refine gs rfl rfl (decide (y144.2.2=0)) rfl hq267<|gs rfl rfl (decide (y144.2.2=0)) rfl hq267<|gs rfl rfl (decide (y144.2.2=0)) rfl hq267<|lp (.bool false) (qak (q:=(decide (y144.2.2=0))) rfl hq267 rfl)<|lp (.bool false) (qab rfl)<|ln (hK261 _ _ ?_)
 obtain rfl:=os hb
 refine Wc.ret (hKR _ _ ?_)
 refine ⟨_,res1 results3 (tV (.bool false) rfl),_,rfl,rfl,hC.sE []⟩
 replace hb:=tf hq266 hb
 refine gs rfl rfl (decide (y129.2.2=0)) rfl hq266<|gs rfl rfl (decide (y129.2.2=0)) rfl hq266<|lp (.bool false) (qak (q:=(decide (y129.2.2=0))) rfl hq266 rfl)<|lp (.bool false) (qaa rfl)<|gs rfl rfl false rfl rfl<|gs rfl rfl false rfl rfl<|gs rfl rfl false rfl rfl<|lp (.bool false) (qak (q:=false) rfl rfl rfl)<|lp (.bool false) (qab rfl)<|ln (hK261 _ _ ?_)
 obtain rfl:=os hb
 refine Wc.ret (hKR _ _ ?_)
 refine ⟨_,res1 results3 (tV (.bool false) rfl),_,rfl,rfl,hC.sE []⟩
 replace hb:=tf hq265 hb
 refine gs rfl rfl (decide (y106.2.2.2=0)) rfl hq265<|gs rfl rfl (decide (y106.2.2.2=0)) rfl hq265<|lp (.bool false) (qak (q:=(decide (y106.2.2.2=0))) rfl hq265 rfl)<|lp (.bool false) (qaa rfl)<|gs rfl rfl false rfl rfl<|gs rfl rfl false rfl rfl<|lp (.bool false) (qak (q:=false) rfl rfl rfl)<|lp (.bool false) (qaa rfl)<|gs rfl rfl false rfl rfl<|gs rfl rfl false rfl rfl<|gs rfl rfl false rfl rfl<|lp (.bool false) (qak (q:=false) rfl rfl rfl)<|lp (.bool false) (qab rfl)<|ln (hK261 _ _ ?_)
 obtain rfl:=os hb
 refine Wc.ret (hKR _ _ ?_)
 refine ⟨_,res1 results3 (tV (.bool false) rfl),_,rfl,rfl,hC.sE []⟩
 replace hb:=tf hq264 hb
 refine gs rfl rfl (decide (y84.2.2.2=0)) rfl hq264<|gs rfl rfl (decide (y84.2.2.2=0)) rfl hq264<|lp (.bool false) (qak (q:=(decide (y84.2.2.2=0))) rfl hq264 rfl)<|lp (.bool false) (qaa rfl)<|gs rfl rfl false rfl rfl<|gs rfl rfl false rfl rfl<|lp (.bool false) (qak (q:=false) rfl rfl rfl)<|lp (.bool false) (qaa rfl)<|gs rfl rfl false rfl rfl<|gs rfl rfl false rfl rfl<|lp (.bool false) (qak (q:=false) rfl rfl rfl)<|lp (.bool false) (qaa rfl)<|gs rfl rfl false rfl rfl<|gs rfl rfl false rfl rfl<|gs rfl rfl false rfl rfl<|lp (.bool false) (qak (q:=false) rfl rfl rfl)<|lp (.bool false) (qab rfl)<|ln (hK261 _ _ ?_)
 obtain rfl:=os hb
 refine Wc.ret (hKR _ _ ?_)
 refine ⟨_,res1 results3 (tV (.bool false) rfl),_,rfl,rfl,hC.sE []⟩
 replace hb:=tf hq263 hb
 refine gs rfl rfl (decide (y67.2.2=0)) rfl hq263<|gs rfl rfl (decide (y67.2.2=0)) rfl hq263<|lp (.bool false) (qak (q:=(decide (y67.2.2=0))) rfl hq263 rfl)<|lp (.bool false) (qaa rfl)<|gs rfl rfl false rfl rfl<|gs rfl rfl false rfl rfl<|lp (.bool false) (qak (q:=false) rfl rfl rfl)<|lp (.bool false) (qaa rfl)<|gs rfl rfl false rfl rfl<|gs rfl rfl false rfl rfl<|lp (.bool false) (qak (q:=false) rfl rfl rfl)<|lp (.bool false) (qaa rfl)<|gs rfl rfl false rfl rfl<|gs rfl rfl false rfl rfl<|lp (.bool false) (qak (q:=false) rfl rfl rfl)<|lp (.bool false) (qaa rfl)<|gs rfl rfl false rfl rfl<|gs rfl rfl false rfl rfl<|gs rfl rfl false rfl rfl<|lp (.bool false) (qak (q:=false) rfl rfl rfl)<|lp (.bool false) (qab rfl)<|ln (hK261 _ _ ?_)
 obtain rfl:=os hb
 refine Wc.ret (hKR _ _ ?_)
 refine ⟨_,res1 results3 (tV (.bool false) rfl),_,rfl,rfl,hC.sE []⟩
 replace hb:=tf hq262 hb
 refine gs rfl rfl (decide (y39.2.2=0)) rfl hq262<|gs rfl rfl (decide (y39.2.2=0)) rfl hq262<|lp (.bool false) (qak (q:=(decide (y39.2.2=0))) rfl hq262 rfl)<|lp (.bool false) (qaa rfl)<|gs rfl rfl false rfl rfl<|gs rfl rfl false rfl rfl<|lp (.bool false) (qak (q:=false) rfl rfl rfl)<|lp (.bool false) (qaa rfl)<|gs rfl rfl false rfl rfl<|gs rfl rfl false rfl rfl<|lp (.bool false) (qak (q:=false) rfl rfl rfl)<|lp (.bool false) (qaa rfl)<|gs rfl rfl false rfl rfl<|gs rfl rfl false rfl rfl<|lp (.bool false) (qak (q:=false) rfl rfl rfl)<|lp (.bool false) (qaa rfl)<|gs rfl rfl false rfl rfl<|gs rfl rfl false rfl rfl<|lp (.bool false) (qak (q:=false) rfl rfl rfl)<|lp (.bool false) (qaa rfl)<|gs rfl rfl false rfl rfl<|gs rfl rfl false rfl rfl<|gs rfl rfl false rfl rfl<|lp (.bool false) (qak (q:=false) rfl rfl rfl)<|lp (.bool false) (qab rfl)<|ln (hK261 _ _ ?_)
 obtain rfl:=os hb
 refine Wc.ret (hKR _ _ ?_)
 refine ⟨_,res1 results3 (tV (.bool false) rfl),_,rfl,rfl,hC.sE []⟩
 refine qac ?_
 refine mixE.op hM (hC.alloc (cs:=[iv 0,.slice none 0 0]) zeroValue24 rfl) ?_
 rintro _ w272 ⟨g271,rfl,hC,hF,hG⟩
 have hUf273:g271<w56.heap.size→g271∈blocks (([]:List Fact)++([]:List Fact)):=fun h=>absurd (Nat.lt_of_lt_of_le h (Nat.le_trans hM.size hG)) (Nat.lt_irrefl _)
 clear hG
 replace hM:=hM.none hF
 replace hD:=hM.wide (H:=([]:List Fact))
 refine ⟨hM,?_⟩
 refine mixE.nil ?_
 refine qac ?_
 obtain ⟨y57,h275,hb⟩:=bd hb
 refine mixE.cl hM (⟨_,_,qam (vs:=[.agg #[iv l,.slice o f.length p]]) call7 rfl rfl rfl,braid_Inverse_ok n hC.lt u (hC.rd (i:=5) rfl) h275⟩) ?_
 rintro _ w281 ⟨A277,m278,c279,rfl,hr276,hK⟩
 have hBf280:=Beside.cl (i:=0) hM hK rfl
 have hUf280:=hBf280.wide (H:=([]:List Fact))
 replace hM:=hM.none hK.fr
 replace hD:=hM.wide (H:=([]:List Fact))
 refine ⟨hM,?_⟩
 replace hC:=hC.merge hK
 clear hK
 obtain ⟨rfl,hl282,hc283⟩:=(hC.ow (i:=0) rfl).qae
 obtain ⟨y67,h285,hb⟩:=bd hb
 refine mixE.cl hM (⟨_,_,qam (vs:=[.agg #[iv y39.1,.slice A42 y39.2.1.length c44],.agg #[iv y57.1,.slice A277 y57.2.length c279]]) call6 rfl rfl rfl,braid_Mul_ok n (hC.lentLt [.slice A277 y57.2.length c279,.slice A42 y39.2.1.length c44]) hr41 ((hC.ow (i:=3) rfl).lend (vs:=[.slice A277 y57.2.length c279,.slice A42 y39.2.1.length c44]) (by simp)) hr276 ((hC.ow (i:=0) rfl).lend (vs:=[.slice A277 y57.2.length c279,.slice A42 y39.2.1.length c44]) (by simp)) h285⟩) ?_
 rintro _ w292 ⟨A287,m288,c289,rfl,hr286,hr291,hK⟩
 have hBf290:=Beside.cl (i:=0) hM hK rfl
 have hUf290:=hBf290.wide (H:=([]:List Fact))
 replace hM:=hM.none hK.fr
 replace hD:=hM.wide (H:=([]:List Fact))
 refine ⟨hM,?_⟩
 replace hC:=hC.mergeF hK rfl
 clear hK
 obtain ⟨rfl,hl293,hc294⟩:=(hC.ow (i:=0) rfl).qae
 refine mp (.tuple #[.agg #[iv y67.1,.slice A287 y67.2.1.length c289],iv y67.2.2]) (qaa rfl)<|mp (.agg #[iv y67.1,.slice A287 y67.2.1.length c289]) (qav rfl rfl)<|mp (iv y67.2.2) (qav rfl rfl)<|mixE.sk hD (hC.seta (i:=2) (ds:=[iv y67.1,.slice A287 y67.2.1.length c289]) rfl type24 rfl rfl rfl rfl rfl) ?_
 rintro w295 ⟨hC,hF⟩
 replace hD:=hD.besideG hUf273 hF
 clear hF
 refine ⟨hD,?_⟩
 refine mp (iv y67.2.2) (qab rfl)<|mixE.nil ?_
 clear hS hM
 clear hD
 refine hK54 _ _<|Wc.fresh fun E296 hE=>?_
 have e2:=cg hE 2 e2
 have e4:=cg hE 4 e4
 have e6:E296 6=iv y39.2.2:=cg hE 6 rfl
 have e7:E296 7=pg g271:=cg hE 7 rfl
 have e8:E296 8=iv y67.2.2:=cg hE 8 rfl
 clear hE
 refine Wc.seq fun _ hK297=>rg<|lv (.agg #[iv c,.slice g d.length j]) (qaq (hC.bx (i:=6) rfl) isAgg24 sizeOf24 e2) ?_
 obtain ⟨y84,h299,hb⟩:=bd hb
 refine lex.cl (⟨_,_,qam (vs:=[.agg #[iv c,.slice g d.length j]]) call8 rfl rfl rfl,qfc n hC.lt s (hC.rd (i:=8) rfl) h299⟩) ?_
 rintro _ w310 ⟨A300,m301,c302,A304,m305,c306,rfl,hr308,hr309,hK⟩
 replace hC:=hC.merge hK
 clear hK
 obtain ⟨rfl,hl311,hc312⟩:=(hC.ow (i:=0) rfl).qae
 obtain ⟨rfl,hl313,hc314⟩:=(hC.ow (i:=1) rfl).qae
 refine lp (.tuple #[.agg #[.slice A300 y84.1.length c302,.slice A304 y84.2.1.length c306,iv y84.2.2.1],iv y84.2.2.2]) (qaa rfl)<|lp (.agg #[.slice A300 y84.1.length c302,.slice A304 y84.2.1.length c306,iv y84.2.2.1]) (qav rfl rfl)<|lp (iv y84.2.2.2) (qav rfl rfl)<|lex.op (hC.alloc (cs:=[.slice none 0 0,.slice none 0 0,iv 0]) zeroValue32 rfl) ?_
 rintro _ w316 ⟨g315,rfl,hC,hF,-⟩
 refine lex.sk (hC.seta (i:=0) (ds:=[.slice A300 y84.1.length c302,.slice A304 y84.2.1.length c306,iv y84.2.2.1]) rfl type32 rfl rfl rfl rfl rfl) ?_
 rintro w318 ⟨hC,hF⟩
 refine lp (iv y84.2.2.2) (qab rfl)<|ln (hK297 _ _ ?_)
 refine Wc.seq fun _ hK319=>rg<|lv (.agg #[iv y67.1,.slice A287 y67.2.1.length c289]) (qaq (hC.bx (i:=5) rfl) isAgg24 sizeOf24 e7) ?_
 obtain ⟨y106,h321,hb⟩:=bd hb
 refine lex.cl (⟨_,_,qam (vs:=[.agg #[iv y67.1,.slice A287 y67.2.1.length c289]]) call8 rfl rfl rfl,qfc n (hC.lentLt [.slice A287 y67.2.1.length c289]) hr286 ((hC.ow (i:=3) rfl).lend (vs:=[.slice A287 y67.2.1.length c289]) (by simp)) h321⟩) ?_
 rintro _ w332 ⟨A322,m323,c324,A326,m327,c328,rfl,hr330,hr331,hK⟩
 replace hC:=hC.mergeF hK rfl
 clear hK
 obtain ⟨rfl,hl333,hc334⟩:=(hC.ow (i:=0) rfl).qae
 obtain ⟨rfl,hl335,hc336⟩:=(hC.ow (i:=1) rfl).qae
 refine lp (.tuple #[.agg #[.slice A322 y106.1.length c324,.slice A326 y106.2.1.length c328,iv y106.2.2.1],iv y106.2.2.2]) (qaa rfl)<|lp (.agg #[.slice A322 y106.1.length c324,.slice A326 y106.2.1.length c328,iv y106.2.2.1]) (qav rfl rfl)<|lp (iv y106.2.2.2) (qav rfl rfl)<|lex.op (hC.alloc (cs:=[.slice none 0 0,.slice none 0 0,iv 0]) zeroValue32 rfl) ?_
 rintro _ w338 ⟨g337,rfl,hC,hF,-⟩
 refine lex.sk (hC.seta (i:=0) (ds:=[.slice A322 y106.1.length c324,.slice A326 y106.2.1.length c328,iv y106.2.2.1]) rfl type32 rfl rfl rfl rfl rfl) ?_
 rintro w340 ⟨hC,hF⟩
 refine lp (iv y106.2.2.2) (qab rfl)<|ln (hK319 _ _ ?_)
 refine Wc.fresh fun E341 hE=>?_
 have e4:=cg hE 4 e4
 have e6:=cg hE 6 e6
 have e8:=cg hE 8 e8
 have e9:E341 9=pg g315:=cg hE 9 rfl
 have e10:E341 10=iv y84.2.2.2:=cg hE 10 rfl
 have e11:E341 11=pg g337:=cg hE 11 rfl
 have e12:E341 12=iv y106.2.2.2:=cg hE 12 rfl
 clear hE
 refine Wc.seq fun _ hK342=>rg<|lv (.agg #[.slice A300 y84.1.length c302,.slice A304 y84.2.1.length c306,iv y84.2.2.1]) (qaq (hC.bx (i:=3) rfl) isAgg32 sizeOf32 e9) ?_
 replace hC:=hC.freeze (i:=4) rfl (hC.qfd (i:=4) rfl)
 replace hC:=hC.freeze (i:=5) rfl (hC.qfd (i:=5) rfl)
 obtain ⟨y129,h344,hb⟩:=bd hb
 refine lex.cl (⟨_,_,qam (vs:=[.agg #[.slice A300 y84.1.length c302,.slice A304 y84.2.1.length c306,iv y84.2.2.1]]) call9 rfl rfl rfl,qge n hC.lt (hC.rd (i:=4) rfl) (hC.rd (i:=5) rfl) hr308 h344⟩) ?_
 rintro _ w350 ⟨A345,m346,c347,rfl,hr349,hK⟩
 replace hC:=hC.merge hK
 clear hK
 obtain ⟨rfl,hl351,hc352⟩:=(hC.rd (i:=0) rfl).qae
 refine lp (.tuple #[.agg #[.bool y129.1,.slice A345 y129.2.1.length c347],iv y129.2.2]) (qaa rfl)<|lp (.agg #[.bool y129.1,.slice A345 y129.2.1.length c347]) (qav rfl rfl)<|lp (iv y129.2.2) (qav rfl rfl)<|lex.op (hC.alloc (cs:=[.bool false,.slice none 0 0]) zeroValue37 rfl) ?_
 rintro _ w354 ⟨g353,rfl,hC,hF,-⟩
 refine lex.sk (hC.seta (i:=0) (ds:=[.bool y129.1,.slice A345 y129.2.1.length c347]) rfl type37 rfl rfl rfl rfl rfl) ?_
 rintro w356 ⟨hC,hF⟩
 refine lp (iv y129.2.2) (qab rfl)<|ln (hK342 _ _ ?_)
 refine Wc.seq fun _ hK357=>rg<|lv (.agg #[.slice A322 y106.1.length c324,.slice A326 y106.2.1.length c328,iv y106.2.2.1]) (qaq (hC.bx (i:=2) rfl) isAgg32 sizeOf32 e11) ?_
 replace hC:=hC.freeze (i:=3) rfl (hC.qfd (i:=3) rfl)
 replace hC:=hC.freeze (i:=4) rfl (hC.qfd (i:=4) rfl)
 obtain ⟨y144,h359,hb⟩:=bd hb
 refine lex.cl (⟨_,_,qam (vs:=[.agg #[.slice A322 y106.1.length c324,.slice A326 y106.2.1.length c328,iv y106.2.2.1]]) call9 rfl rfl rfl,qge n hC.lt (hC.rd (i:=3) rfl) (hC.rd (i:=4) rfl) hr330 h359⟩) ?_
 rintro _ w365 ⟨A360,m361,c362,rfl,hr364,hK⟩
 replace hC:=hC.merge hK
 clear hK
 obtain ⟨rfl,hl366,hc367⟩:=(hC.rd (i:=0) rfl).qae
 refine lp (.tuple #[.agg #[.bool y144.1,.slice A360 y144.2.1.length c362],iv y144.2.2]) (qaa rfl)<|lp (.agg #[.bool y144.1,.slice A360 y144.2.1.length c362]) (qav rfl rfl)<|lp (iv y144.2.2) (qav rfl rfl)<|lex.op (hC.alloc (cs:=[.bool false,.slice none 0 0]) zeroValue37 rfl) ?_
 rintro _ w369 ⟨g368,rfl,hC,hF,-⟩
 refine lex.sk (hC.seta (i:=0) (ds:=[.bool y144.1,.slice A360 y144.2.1.length c362]) rfl type37 rfl rfl rfl rfl rfl) ?_
 rintro w371 ⟨hC,hF⟩
 refine lp (iv y144.2.2) (qab rfl)<|ln (hK357 _ _ ?_)
 refine Wc.fresh fun E372 hE=>?_
 have e4:=cg hE 4 e4
 have e6:=cg hE 6 e6
 have e8:=cg hE 8 e8
 have e10:=cg hE 10 e10
 have e12:=cg hE 12 e12
 have e13:E372 13=pg g353:=cg hE 13 rfl
 have e14:E372 14=iv y129.2.2:=cg hE 14 rfl
 have e15:E372 15=pg g368:=cg hE 15 rfl
 have e16:E372 16=iv y144.2.2:=cg hE 16 rfl
 clear hE
 refine Wc.seq fun _ hK373=>rg<|lp _ (qaa e6)<|lp (.bool (decide (y39.2.2=0))) (qbl (k:=.i64) (a:=y39.2.2) (b:=0) rfl rfl)<|lp (.bool (decide (y39.2.2=0))) (qaa rfl) ?_
 rcases bS (decide (y39.2.2=0)) with hq374 | hq374
 replace hb:=tt hq374 hb
 refine gp rfl rfl (decide (y39.2.2=0)) rfl hq374 (iv y67.2.2) (qaa e8)<|gp rfl rfl (decide (y39.2.2=0)) rfl hq374 (.bool (decide (y67.2.2=0))) (qbl (k:=.i64) (a:=y67.2.2) (b:=0) rfl rfl)<|lp (.bool (decide (y67.2.2=0))) (qap (q:=(decide (y39.2.2=0))) rfl hq374 rfl)<|lp (.bool (decide (y67.2.2=0))) (qaa rfl) ?_
 rcases bS (decide (y67.2.2=0)) with hq375 | hq375
 replace hb:=tt hq375 hb
 refine gp rfl rfl (decide (y67.2.2=0)) rfl hq375 (iv y84.2.2.2) (qaa e10)<|gp rfl rfl (decide (y67.2.2=0)) rfl hq375 (.bool (decide (y84.2.2.2=0))) (qbl (k:=.i64) (a:=y84.2.2.2) (b:=0) rfl rfl)<|lp (.bool (decide (y84.2.2.2=0))) (qap (q:=(decide (y67.2.2=0))) rfl hq375 rfl)<|lp (.bool (decide (y84.2.2.2=0))) (qaa rfl) ?_
 rcases bS (decide (y84.2.2.2=0)) with hq376 | hq376
 replace hb:=tt hq376 hb
 refine gp rfl rfl (decide (y84.2.2.2=0)) rfl hq376 (iv y106.2.2.2) (qaa e12)<|gp rfl rfl (decide (y84.2.2.2=0)) rfl hq376 (.bool (decide (y106.2.2.2=0))) (qbl (k:=.i64) (a:=y106.2.2.2) (b:=0) rfl rfl)<|lp (.bool (decide (y106.2.2.2=0))) (qap (q:=(decide (y84.2.2.2=0))) rfl hq376 rfl)<|lp (.bool (decide (y106.2.2.2=0))) (qaa rfl) ?_
 rcases bS (decide (y106.2.2.2=0)) with hq377 | hq377
 replace hb:=tt hq377 hb
 refine gp rfl rfl (decide (y106.2.2.2=0)) rfl hq377 (iv y129.2.2) (qaa e14)<|gp rfl rfl (decide (y106.2.2.2=0)) rfl hq377 (.bool (decide (y129.2.2=0))) (qbl (k:=.i64) (a:=y129.2.2) (b:=0) rfl rfl)<|lp (.bool (decide (y129.2.2=0))) (qap (q:=(decide (y106.2.2.2=0))) rfl hq377 rfl)<|lp (.bool (decide (y129.2.2=0))) (qaa rfl) ?_
 rcases bS (decide (y129.2.2=0)) with hq378 | hq378
 replace hb:=tt hq378 hb
 refine gp rfl rfl (decide (y129.2.2=0)) rfl hq378 (iv y144.2.2) (qaa e16)<|gp rfl rfl (decide (y129.2.2=0)) rfl hq378 (.bool (decide (y144.2.2=0))) (qbl (k:=.i64) (a:=y144.2.2) (b:=0) rfl rfl)<|lp (.bool (decide (y144.2.2=0))) (qap (q:=(decide (y129.2.2=0))) rfl hq378 rfl)<|lp (.bool (decide (y144.2.2=0))) (qaa rfl) ?_
 rcases bS (decide (y144.2.2=0)) with hq379 | hq379
 replace hb:=tt hq379 hb
 refine gv rfl rfl (decide (y144.2.2=0)) rfl hq379 (.agg #[.bool y129.1,.slice A345 y129.2.1.length c347]) (qaq (hC.bx (i:=2) rfl) isAgg37 sizeOf37 e13)<|gv rfl rfl (decide (y144.2.2=0)) rfl hq379 (.agg #[.bool y144.1,.slice A360 y144.2.1.length c362]) (qaq (hC.bx (i:=0) rfl) isAgg37 sizeOf37 e15) ?_
 obtain ⟨y166,h381,hb⟩:=bd hb
 refine lex.gcl (qdp rfl rfl (show _=Value.bool (decide (y144.2.2=0)) from rfl) hq379) (⟨_,_,qam (vs:=[.agg #[.bool y129.1,.slice A345 y129.2.1.length c347],.agg #[.bool y144.1,.slice A360 y144.2.1.length c362]]) call10 rfl rfl rfl,qgp n hC.lt (hC.rd (i:=3) rfl) (hC.rd (i:=1) rfl) h381⟩) ?_
 rintro _ w382 ⟨rfl,hK⟩
 replace hC:=hC.merge hK
 clear hK
 refine lp (.bool y166) (qap (q:=(decide (y144.2.2=0))) rfl hq379 rfl)<|lp (.bool y166) (qab rfl)<|ln (hK373 _ _ ?_)
 obtain rfl:=os hb
 refine Wc.ret (hKR _ _ ?_)
 refine ⟨_,res1 results3 (tV (.bool y166) rfl),_,rfl,rfl,hC.sE []⟩
 replace hb:=tf hq379 hb
 refine gs rfl rfl (decide (y144.2.2=0)) rfl hq379<|gs rfl rfl (decide (y144.2.2=0)) rfl hq379<|gs rfl rfl (decide (y144.2.2=0)) rfl hq379<|lp (.bool false) (qak (q:=(decide (y144.2.2=0))) rfl hq379 rfl)<|lp (.bool false) (qab rfl)<|ln (hK373 _ _ ?_)
 obtain rfl:=os hb
 refine Wc.ret (hKR _ _ ?_)
 refine ⟨_,res1 results3 (tV (.bool false) rfl),_,rfl,rfl,hC.sE []⟩
 replace hb:=tf hq378 hb
 refine gs rfl rfl (decide (y129.2.2=0)) rfl hq378<|gs rfl rfl (decide (y129.2.2=0)) rfl hq378<|lp (.bool false) (qak (q:=(decide (y129.2.2=0))) rfl hq378 rfl)<|lp (.bool false) (qaa rfl)<|gs rfl rfl false rfl rfl<|gs rfl rfl false rfl rfl<|gs rfl rfl false rfl rfl<|lp (.bool false) (qak (q:=false) rfl rfl rfl)<|lp (.bool false) (qab rfl)<|ln (hK373 _ _ ?_)
 obtain rfl:=os hb
 refine Wc.ret (hKR _ _ ?_)
 refine ⟨_,res1 results3 (tV (.bool false) rfl),_,rfl,rfl,hC.sE []⟩
 replace hb:=tf hq377 hb
 refine gs rfl rfl (decide (y106.2.2.2=0)) rfl hq377<|gs rfl rfl (decide (y106.2.2.2=0)) rfl hq377<|lp (.bool false) (qak (q:=(decide (y106.2.2.2=0))) rfl hq377 rfl)<|lp (.bool false) (qaa rfl)<|gs rfl rfl false rfl rfl<|gs rfl rfl false rfl rfl<|lp (.bool false) (qak (q:=false) rfl rfl rfl)<|lp (.bool false) (qaa rfl)<|gs rfl rfl false rfl rfl<|gs rfl rfl false rfl rfl<|gs rfl rfl false rfl rfl<|lp (.bool false) (qak (q:=false) rfl rfl rfl)<|lp (.bool false) (qab rfl)<|ln (hK373 _ _ ?_)
 obtain rfl:=os hb
 refine Wc.ret (hKR _ _ ?_)
 refine ⟨_,res1 results3 (tV (.bool false) rfl),_,rfl,rfl,hC.sE []⟩
 replace hb:=tf hq376 hb
 refine gs rfl rfl (decide (y84.2.2.2=0)) rfl hq376<|gs rfl rfl (decide (y84.2.2.2=0)) rfl hq376<|lp (.bool false) (qak (q:=(decide (y84.2.2.2=0))) rfl hq376 rfl)<|lp (.bool false) (qaa rfl)<|gs rfl rfl false rfl rfl<|gs rfl rfl false rfl rfl<|lp (.bool false) (qak (q:=false) rfl rfl rfl)<|lp (.bool false) (qaa rfl)<|gs rfl rfl false rfl rfl<|gs rfl rfl false rfl rfl<|lp (.bool false) (qak (q:=false) rfl rfl rfl)<|lp (.bool false) (qaa rfl)<|gs rfl rfl false rfl rfl<|gs rfl rfl false rfl rfl<|gs rfl rfl false rfl rfl<|lp (.bool false) (qak (q:=false) rfl rfl rfl)<|lp (.bool false) (qab rfl)<|ln (hK373 _ _ ?_)
 obtain rfl:=os hb
 refine Wc.ret (hKR _ _ ?_)
 refine ⟨_,res1 results3 (tV (.bool false) rfl),_,rfl,rfl,hC.sE []⟩
 replace hb:=tf hq375 hb
 refine gs rfl rfl (decide (y67.2.2=0)) rfl hq375<|gs rfl rfl (decide (y67.2.2=0)) rfl hq375<|lp (.bool false) (qak (q:=(decide (y67.2.2=0))) rfl hq375 rfl)<|lp (.bool false) (qaa rfl)<|gs rfl rfl false rfl rfl<|gs rfl rfl false rfl rfl<|lp (.bool false) (qak (q:=false) rfl rfl rfl)<|lp (.bool false) (qaa rfl)<|gs rfl rfl false rfl rfl<|gs rfl rfl false rfl rfl<|lp (.bool false) (qak (q:=false) rfl rfl rfl)<|lp (.bool false) (qaa rfl)<|gs rfl rfl false rfl rfl<|gs rfl rfl false rfl rfl<|lp (.bool false) (qak (q:=false) rfl rfl rfl)<|lp (.bool false) (qaa rfl)<|gs rfl rfl false rfl rfl<|gs rfl rfl false rfl rfl<|gs rfl rfl false rfl rfl<|lp (.bool false) (qak (q:=false) rfl rfl rfl)<|lp (.bool false) (qab rfl)<|ln (hK373 _ _ ?_)
 obtain rfl:=os hb
 refine Wc.ret (hKR _ _ ?_)
 refine ⟨_,res1 results3 (tV (.bool false) rfl),_,rfl,rfl,hC.sE []⟩
 replace hb:=tf hq374 hb
 refine gs rfl rfl (decide (y39.2.2=0)) rfl hq374<|gs rfl rfl (decide (y39.2.2=0)) rfl hq374<|lp (.bool false) (qak (q:=(decide (y39.2.2=0))) rfl hq374 rfl)<|lp (.bool false) (qaa rfl)<|gs rfl rfl false rfl rfl<|gs rfl rfl false rfl rfl<|lp (.bool false) (qak (q:=false) rfl rfl rfl)<|lp (.bool false) (qaa rfl)<|gs rfl rfl false rfl rfl<|gs rfl rfl false rfl rfl<|lp (.bool false) (qak (q:=false) rfl rfl rfl)<|lp (.bool false) (qaa rfl)<|gs rfl rfl false rfl rfl<|gs rfl rfl false rfl rfl<|lp (.bool false) (qak (q:=false) rfl rfl rfl)<|lp (.bool false) (qaa rfl)<|gs rfl rfl false rfl rfl<|gs rfl rfl false rfl rfl<|lp (.bool false) (qak (q:=false) rfl rfl rfl)<|lp (.bool false) (qaa rfl)<|gs rfl rfl false rfl rfl<|gs rfl rfl false rfl rfl<|gs rfl rfl false rfl rfl<|lp (.bool false) (qak (q:=false) rfl rfl rfl)<|lp (.bool false) (qab rfl)<|ln (hK373 _ _ ?_)
 obtain rfl:=os hb
 refine Wc.ret (hKR _ _ ?_)
 refine ⟨_,res1 results3 (tV (.bool false) rfl),_,rfl,rfl,hC.sE []⟩
