import Derived.Test.YtlkmcbgkohpmiaaS
set_option linter.all false
namespace Go.Proofs.Ytlkmcbgkohpmiaa
open Ev Try
set_option maxRecDepth 100000
set_option maxHeartbeats 4000000
theorem qhc (n:Nat) {w:World} {O0:List Nat} (hO: ∀k∈O0,k<w.heap.size) {c:Int} (u:I64 c) {f:Option Addr} {l g:Nat} {d:List Int} (o:Rep O0 w (.sl si) [.slice f l g] d) {r:Bool} (hb:F.qfc n c d=some r):
    Calls prog 16 #[.agg #[iv c,.slice f l g]] w fun e w'=> ∃v,e=.returned v∧v=.bool r∧Cx (fun _=>False) O0 w w' []:=by
 unfold F.qfc at hb
 have hC:=Cx.start hO
 replace hC:=hC.arg rfl o
 clear hO
 obtain ⟨rfl,p,s⟩:=o.qaf
 refine qao func16 rfl (by rw [ntmps16]; exact nb rfl) fun KR hKR=>?_
 refine Wc.seq fun _ hK2=>rg<|lex.op (hC.box (cs:=[iv c,.slice f d.length g]) rfl rfl) ?_
 rintro _ w4 ⟨g3,rfl,hC,hF,-⟩
 refine lp (.bool false) (qab rfl)<|ln (hK2 _ _ ?_)
 refine Wc.seq fun _ hK6=>?_
 refine Wc.seq fun _ hK7=>rg<|lp (.pointer (some ((⟨g3,0,none⟩:Addr).add 0))) (qal (sz:=1) underlying24 rfl sizeOf3 (by decide) rfl rfl)<|lv (iv c) (qar (hC.bx (i:=0) rfl) isAgg3 rfl rfl)<|lp (.bool (decide (c<1))) (qau (k:=.i64) (a:=c) (b:=1) rfl rfl)<|lp (.bool (decide (c<1))) (qaa rfl) ?_
 rcases bS (decide (c<1)) with hq8 | hq8
 replace hb:=tt hq8 hb
 refine gs rfl rfl (decide (c<1)) rfl hq8<|gs rfl rfl (decide (c<1)) rfl hq8<|gs rfl rfl (decide (c<1)) rfl hq8<|lp (.bool true) (qap (q:=(decide (c<1))) rfl hq8 rfl)<|lp (.bool true) (qaa rfl)<|gs rfl rfl true rfl rfl<|gs rfl rfl true rfl rfl<|gs rfl rfl true rfl rfl<|gs rfl rfl true rfl rfl<|lp (.bool true) (qap (q:=true) rfl rfl rfl)<|ln (hK7 _ _ ?_)
 refine Wc.cond_true (rfl) ?_
 refine Wc.seq fun _ hK9=>rg<|lp (.bool false) (qab rfl)<|ln (hK9 _ _ ?_)
 obtain rfl:=os hb
 refine Wc.ret (hKR _ _ ?_)
 refine ⟨_,res1 results16 (tV (.bool false) rfl),_,rfl,rfl,hC.sE []⟩
 replace hb:=tf hq8 hb
 refine gp rfl rfl (decide (c<1)) rfl hq8 (.pointer (some ((⟨g3,0,none⟩:Addr).add 0))) (qal (sz:=1) underlying24 rfl sizeOf3 (by decide) rfl rfl)<|gv rfl rfl (decide (c<1)) rfl hq8 (iv c) (qar (hC.bx (i:=0) rfl) isAgg3 rfl rfl)<|gp rfl rfl (decide (c<1)) rfl hq8 (.bool (decide (10<c))) (qbi (k:=.i64) (a:=c) (b:=10) rfl rfl)<|lp (.bool (decide (10<c))) (qat (q:=(decide (c<1))) rfl hq8 rfl)<|lp (.bool (decide (10<c))) (qaa rfl) ?_
 rcases bS (decide (10<c)) with hq10 | hq10
 replace hb:=tt hq10 hb
 refine gs rfl rfl (decide (10<c)) rfl hq10<|gs rfl rfl (decide (10<c)) rfl hq10<|gs rfl rfl (decide (10<c)) rfl hq10<|gs rfl rfl (decide (10<c)) rfl hq10<|lp (.bool true) (qap (q:=(decide (10<c))) rfl hq10 rfl)<|ln (hK7 _ _ ?_)
 refine Wc.cond_true (rfl) ?_
 refine Wc.seq fun _ hK11=>rg<|lp (.bool false) (qab rfl)<|ln (hK11 _ _ ?_)
 obtain rfl:=os hb
 refine Wc.ret (hKR _ _ ?_)
 refine ⟨_,res1 results16 (tV (.bool false) rfl),_,rfl,rfl,hC.sE []⟩
 replace hb:=tf hq10 hb
 refine gp rfl rfl (decide (10<c)) rfl hq10 (.pointer (some ((⟨g3,0,none⟩:Addr).add 1))) (qal (sz:=1) underlying24 rfl sizeOf22 (by decide) rfl rfl)<|gv rfl rfl (decide (10<c)) rfl hq10 (.slice f d.length g) (qar (hC.bx (i:=0) rfl) isAgg22 rfl rfl)<|gp rfl rfl (decide (10<c)) rfl hq10 (iv (d.length:Int)) (qan (A:=f) (n:=d.length) (m:=g) underlying22 rfl)<|gp rfl rfl (decide (10<c)) rfl hq10 (.bool (decide (200<(d.length:Int)))) (qbi (k:=.i64) (a:=(d.length:Int)) (b:=200) rfl rfl)<|lp (.bool (decide (200<(d.length:Int)))) (qat (q:=(decide (10<c))) rfl hq10 rfl)<|ln (hK7 _ _ ?_)
 refine Wc.cond (t:=(decide (200<(d.length:Int)))) (rfl) (fun hq12=>?_) (fun hq12=>?_)
 replace hb:=tt hq12 hb
 refine Wc.seq fun _ hK13=>rg<|lp (.bool false) (qab rfl)<|ln (hK13 _ _ ?_)
 obtain rfl:=os hb
 refine Wc.ret (hKR _ _ ?_)
 refine ⟨_,res1 results16 (tV (.bool false) rfl),_,rfl,rfl,hC.sE []⟩
 replace hb:=tf hq12 hb
 refine Wc.skip (hK6 _ _ ?_)
 refine Wc.fresh fun E14 hE=>?_
 have e1:E14 1=pg g3:=cg hE 1 rfl
 have e2:E14 2=.bool false:=cg hE 2 rfl
 clear hE
 refine Wc.seq fun _ hK15=>?_
 refine Wc.seq fun _ hK16=>rg<|lp (.pointer (some ((⟨g3,0,none⟩:Addr).add 1))) (qal (sz:=1) underlying24 rfl sizeOf22 (by decide) rfl e1)<|lv (.slice f d.length g) (qar (hC.bx (i:=0) rfl) isAgg22 rfl rfl)<|lp (iv (d.length:Int)) (qan (A:=f) (n:=d.length) (m:=g) underlying22 rfl)<|lp (iv 0) (qaa rfl)<|ln (hK16 _ _ ?_)
 obtain ⟨o17,hl0,hb⟩:=bd hb
 refine Wc.cut (fun E wv=> ∃(h:Int),E 2=.bool false∧I64 h∧Cx (fun _=>False) O0 w wv []∧(some true:Option (Bool))=some r) (fun _ hK18=>?_) ?_
 refine Wc.block ?_
 refine Wc.loop (fun m E wv=> ∃(h:Int),E 1=pg g3∧E 2=.bool false∧E 20=.slice f d.length g∧E 21=iv (d.length:Int)∧E 22=iv h∧I64 h∧Cx (fun _=>False) O0 w wv [.box g3 24 [iv c,.slice f d.length g],.ro (.sl si) [.slice f d.length g] d]∧loopN m (F.qgl n c d) h=some o17) n ⟨0,e1,e2,rfl,rfl,rfl,(show I64 0 from by unfold I64; omega),hC.sE [0,1],hl0⟩ ?_
 have hbK0:=hb
 clear hb hC hl0
 rintro m20 E22 w21 ⟨h,e1,e2,e20,e21,e22,j,hC,hl0⟩ K19 hK19
 obtain ⟨m20',o23,rfl,hb,hl0⟩:=qam hl0
 unfold F.qgl at hb
 refine Wc.seq fun _ hK24=>rg<|lp _ (qau e22 e21)<|ln (hK24 _ _ ?_)
 refine Wc.seq fun _ hK25=>?_
 refine Wc.cond (t:=(decide (h<(d.length:Int)))) (rfl) (fun hq26=>?_) (fun hq26=>?_)
 replace hb:=tt hq26 hb
 refine Wc.skip (hK25 _ _ ?_)
 refine Wc.seq fun _ hK27=>?_
 refine Wc.block<|Wc.seq fun _ hK28=>rg ?_
 obtain ⟨x29,h30,hb⟩:=bd hb
 obtain ⟨ad31,cs32,hA,hc33,hr34⟩:=hC.elr (i:=1) rfl (qac h30).2
 subst hA
 refine lp (.pointer (some (ad31.add (h.toNat*1)))) (qag (a:=h) underlying22 sizeOf3 e20 e22 (qac h30).1) ?_
 obtain ⟨rfl,hr34'⟩:=hr34
 refine lv (iv x29) (qah isAgg3 rfl (hc33 0 _ rfl))<|lp (iv x29) (qab rfl)<|ln (hK28 _ _ ?_)
 refine Wc.seq fun _ hK35=>rg<|lp (iv x29) (qaa rfl)<|lp (.bool (decide (x29=0))) (qcu (k:=.i64) (a:=x29) (b:=0) rfl rfl)<|lp (.bool (decide (x29=0))) (qaa rfl) ?_
 rcases bS (decide (x29=0)) with hq36 | hq36
 replace hb:=tt hq36 hb
 refine gs rfl rfl (decide (x29=0)) rfl hq36<|gs rfl rfl (decide (x29=0)) rfl hq36<|gs rfl rfl (decide (x29=0)) rfl hq36<|gs rfl rfl (decide (x29=0)) rfl hq36<|gs rfl rfl (decide (x29=0)) rfl hq36<|lp (.bool true) (qap (q:=(decide (x29=0))) rfl hq36 rfl)<|lp (.bool true) (qaa rfl)<|gs rfl rfl true rfl rfl<|gs rfl rfl true rfl rfl<|gs rfl rfl true rfl rfl<|gs rfl rfl true rfl rfl<|lp (.bool true) (qap (q:=true) rfl rfl rfl)<|ln (hK35 _ _ ?_)
 refine Wc.cond_true (rfl) ?_
 refine Wc.seq fun _ hK37=>rg<|lp (.bool false) (qab rfl)<|ln (hK37 _ _ ?_)
 obtain rfl:=os hb
 obtain rfl:=(lX hl0).symm
 replace hb:=hbK0
 obtain rfl:=os hb
 refine Wc.ret (hKR _ _ ?_)
 refine ⟨_,res1 results16 (tV (.bool false) rfl),_,rfl,rfl,hC.sE []⟩
 replace hb:=tf hq36 hb
 refine gp rfl rfl (decide (x29=0)) rfl hq36 (iv x29) (qaa rfl)<|gp rfl rfl (decide (x29=0)) rfl hq36 (.pointer (some ((⟨g3,0,none⟩:Addr).add 0))) (qal (sz:=1) underlying24 rfl sizeOf3 (by decide) rfl e1)<|gv rfl rfl (decide (x29=0)) rfl hq36 (iv c) (qar (hC.bx (i:=0) rfl) isAgg3 rfl rfl) ?_
 obtain ⟨z38,h39,hb⟩:=bd hb
 refine gp rfl rfl (decide (x29=0)) rfl hq36 (iv z38) (qbx (a:=c) rfl h39)<|gp rfl rfl (decide (x29=0)) rfl hq36 (.bool (decide (x29≤z38))) (pu_leq (k:=.i64) (a:=x29) (b:=z38) rfl rfl)<|lp (.bool (decide (x29≤z38))) (qat (q:=(decide (x29=0))) rfl hq36 rfl)<|lp (.bool (decide (x29≤z38))) (qaa rfl) ?_
 rcases bS (decide (x29≤z38)) with hq40 | hq40
 replace hb:=tt hq40 hb
 refine gs rfl rfl (decide (x29≤z38)) rfl hq40<|gs rfl rfl (decide (x29≤z38)) rfl hq40<|gs rfl rfl (decide (x29≤z38)) rfl hq40<|gs rfl rfl (decide (x29≤z38)) rfl hq40<|lp (.bool true) (qap (q:=(decide (x29≤z38))) rfl hq40 rfl)<|ln (hK35 _ _ ?_)
 refine Wc.cond_true (rfl) ?_
 refine Wc.seq fun _ hK41=>rg<|lp (.bool false) (qab rfl)<|ln (hK41 _ _ ?_)
 obtain rfl:=os hb
 obtain rfl:=(lX hl0).symm
 replace hb:=hbK0
 obtain rfl:=os hb
 refine Wc.ret (hKR _ _ ?_)
 refine ⟨_,res1 results16 (tV (.bool false) rfl),_,rfl,rfl,hC.sE []⟩
 replace hb:=tf hq40 hb
 refine gp rfl rfl (decide (x29≤z38)) rfl hq40 (iv x29) (qaa rfl)<|gp rfl rfl (decide (x29≤z38)) rfl hq40 (.pointer (some ((⟨g3,0,none⟩:Addr).add 0))) (qal (sz:=1) underlying24 rfl sizeOf3 (by decide) rfl e1)<|gv rfl rfl (decide (x29≤z38)) rfl hq40 (iv c) (qar (hC.bx (i:=0) rfl) isAgg3 rfl rfl)<|gp rfl rfl (decide (x29≤z38)) rfl hq40 (.bool (decide (c≤x29))) (pu_geq (k:=.i64) (a:=x29) (b:=c) rfl rfl)<|lp (.bool (decide (c≤x29))) (qat (q:=(decide (x29≤z38))) rfl hq40 rfl)<|ln (hK35 _ _ ?_)
 refine Wc.cond (t:=(decide (c≤x29))) (rfl) (fun hq42=>?_) (fun hq42=>?_)
 replace hb:=tt hq42 hb
 refine Wc.seq fun _ hK43=>rg<|lp (.bool false) (qab rfl)<|ln (hK43 _ _ ?_)
 obtain rfl:=os hb
 obtain rfl:=(lX hl0).symm
 replace hb:=hbK0
 obtain rfl:=os hb
 refine Wc.ret (hKR _ _ ?_)
 refine ⟨_,res1 results16 (tV (.bool false) rfl),_,rfl,rfl,hC.sE []⟩
 replace hb:=tf hq42 hb
 refine Wc.skip (hK27 _ _ ?_)
 refine rg ?_
 obtain ⟨z44,h45,hb⟩:=bd hb
 refine lp (iv z44) (qak (a:=h) (b:=1) e22 rfl h45)<|lp (iv z44) (qaa rfl)<|ln ?_
 obtain rfl:=os hb
 exact hK19 m20' _ _ (Nat.lt_succ_self _) ⟨z44,e1,e2,e20,e21,rfl,(qai h45),hC.sE [0,1],lN hl0⟩
 replace hb:=tf hq26 hb
 refine Wc.exit rfl ?_
 obtain rfl:=os hb
 obtain rfl:=(lX hl0).symm
 exact hK18 _ _ ⟨h,e2,j,hC.sE [],hbK0⟩
 clear hb hC hl0
 rintro E47 w46 ⟨h,e2,j,hC,hb⟩
 refine hK15 _ _<|Wc.seq fun _ hK48=>rg<|lp (.bool true) (qab rfl)<|ln (hK48 _ _ ?_)
 obtain rfl:=os hb
 refine Wc.ret (hKR _ _ ?_)
 refine ⟨_,res1 results16 (tV (.bool true) rfl),_,rfl,rfl,hC.sE []⟩

theorem word_Valid_ok (n:Nat) {w:World} {O0:List Nat} (hO: ∀k∈O0,k<w.heap.size) {g:Option Addr} {l h:Nat} {f:List Int} (o:Rep O0 w (.sl si) [.slice g l h] f) {c:Int} (p:I64 c) {r:Bool} (hb:F.qgo n f c=some r):
    Calls prog 32 #[.slice g l h,iv c] w fun e w'=> ∃v,e=.returned v∧v=.bool r∧Cx (fun _=>False) O0 w w' []:=by
 unfold F.qgo at hb
 have hC:=Cx.start hO
 replace hC:=hC.arg rfl o
 clear hO
 obtain ⟨rfl,s,u⟩:=o.qaf
 refine qao func32 rfl (by rw [ntmps32]; exact nb rfl) fun KR hKR=>?_
 refine Wc.seq fun _ hK2=>rg<|lp (.bool false) (qab rfl)<|ln (hK2 _ _ ?_)
 refine Wc.seq fun _ hK3=>?_
 refine Wc.seq fun _ hK4=>rg<|lp (.slice g f.length h) (qaa rfl)<|lp (iv (f.length:Int)) (qan (A:=g) (n:=f.length) (m:=h) underlying27 rfl)<|lp (iv 0) (qaa rfl)<|ln (hK4 _ _ ?_)
 obtain ⟨o5,hl0,hb⟩:=bd hb
 refine Wc.cut (fun E wv=> ∃(d:Int),E 4=.bool false∧I64 d∧Cx (fun _=>False) O0 w wv []∧(some true:Option (Bool))=some r) (fun _ hK6=>?_) ?_
 refine Wc.block ?_
 refine Wc.loop (fun m E wv=> ∃(d:Int),E 1=iv c∧E 4=.bool false∧E 7=.slice g f.length h∧E 8=iv (f.length:Int)∧E 9=iv d∧I64 d∧Cx (fun _=>False) O0 w wv [.ro (.sl si) [.slice g f.length h] f]∧loopN m (F.qgu n f c) d=some o5) n ⟨0,rfl,rfl,rfl,rfl,rfl,(show I64 0 from by unfold I64; omega),hC.sE [0],hl0⟩ ?_
 have hbK0:=hb
 clear hb hC hl0
 rintro m8 E10 w9 ⟨d,e1,e4,e7,e8,e9,j,hC,hl0⟩ K7 hK7
 obtain ⟨m8',o11,rfl,hb,hl0⟩:=qam hl0
 unfold F.qgu at hb
 refine Wc.seq fun _ hK12=>rg<|lp _ (qau e9 e8)<|ln (hK12 _ _ ?_)
 refine Wc.seq fun _ hK13=>?_
 refine Wc.cond (t:=(decide (d<(f.length:Int)))) (rfl) (fun hq14=>?_) (fun hq14=>?_)
 replace hb:=tt hq14 hb
 refine Wc.skip (hK13 _ _ ?_)
 refine Wc.seq fun _ hK15=>?_
 refine Wc.block<|Wc.seq fun _ hK16=>rg ?_
 obtain ⟨x17,h18,hb⟩:=bd hb
 obtain ⟨ad19,cs20,hA,hc21,hr22⟩:=hC.elr (i:=0) rfl (qac h18).2
 subst hA
 refine lp (.pointer (some (ad19.add (d.toNat*1)))) (qag (a:=d) underlying27 sizeOf3 e7 e9 (qac h18).1) ?_
 obtain ⟨rfl,hr22'⟩:=hr22
 refine lv (iv x17) (qah isAgg3 rfl (hc21 0 _ rfl))<|lp (iv x17) (qab rfl)<|ln (hK16 _ _ ?_)
 refine Wc.seq fun _ hK23=>rg<|lp _ (qaa e1)<|lp (.bool (decide (c<1))) (qau (k:=.i64) (a:=c) (b:=1) rfl rfl)<|lp (.bool (decide (c<1))) (qaa rfl) ?_
 rcases bS (decide (c<1)) with hq24 | hq24
 replace hb:=tt hq24 hb
 refine gs rfl rfl (decide (c<1)) rfl hq24<|gs rfl rfl (decide (c<1)) rfl hq24<|lp (.bool true) (qap (q:=(decide (c<1))) rfl hq24 rfl)<|lp (.bool true) (qaa rfl)<|gs rfl rfl true rfl rfl<|gs rfl rfl true rfl rfl<|gs rfl rfl true rfl rfl<|lp (.bool true) (qap (q:=true) rfl rfl rfl)<|lp (.bool true) (qaa rfl)<|gs rfl rfl true rfl rfl<|gs rfl rfl true rfl rfl<|gs rfl rfl true rfl rfl<|gs rfl rfl true rfl rfl<|lp (.bool true) (qap (q:=true) rfl rfl rfl)<|ln (hK23 _ _ ?_)
 refine Wc.cond_true (rfl) ?_
 refine Wc.seq fun _ hK25=>rg<|lp (.bool false) (qab rfl)<|ln (hK25 _ _ ?_)
 obtain rfl:=os hb
 obtain rfl:=(lX hl0).symm
 replace hb:=hbK0
 obtain rfl:=os hb
 refine Wc.ret (hKR _ _ ?_)
 refine ⟨_,res1 results32 (tV (.bool false) rfl),_,rfl,rfl,hC.sE []⟩
 replace hb:=tf hq24 hb
 refine gp rfl rfl (decide (c<1)) rfl hq24 (iv x17) (qaa rfl)<|gp rfl rfl (decide (c<1)) rfl hq24 (.bool (decide (x17=0))) (qcu (k:=.i64) (a:=x17) (b:=0) rfl rfl)<|lp (.bool (decide (x17=0))) (qat (q:=(decide (c<1))) rfl hq24 rfl)<|lp (.bool (decide (x17=0))) (qaa rfl) ?_
 rcases bS (decide (x17=0)) with hq26 | hq26
 replace hb:=tt hq26 hb
 refine gs rfl rfl (decide (x17=0)) rfl hq26<|gs rfl rfl (decide (x17=0)) rfl hq26<|gs rfl rfl (decide (x17=0)) rfl hq26<|lp (.bool true) (qap (q:=(decide (x17=0))) rfl hq26 rfl)<|lp (.bool true) (qaa rfl)<|gs rfl rfl true rfl rfl<|gs rfl rfl true rfl rfl<|gs rfl rfl true rfl rfl<|gs rfl rfl true rfl rfl<|lp (.bool true) (qap (q:=true) rfl rfl rfl)<|ln (hK23 _ _ ?_)
 refine Wc.cond_true (rfl) ?_
 refine Wc.seq fun _ hK27=>rg<|lp (.bool false) (qab rfl)<|ln (hK27 _ _ ?_)
 obtain rfl:=os hb
 obtain rfl:=(lX hl0).symm
 replace hb:=hbK0
 obtain rfl:=os hb
 refine Wc.ret (hKR _ _ ?_)
 refine ⟨_,res1 results32 (tV (.bool false) rfl),_,rfl,rfl,hC.sE []⟩
 replace hb:=tf hq26 hb
 refine gp rfl rfl (decide (x17=0)) rfl hq26 (iv x17) (qaa rfl)<|gp rfl rfl (decide (x17=0)) rfl hq26 (iv c) (qaa e1)<|gp rfl rfl (decide (x17=0)) rfl hq26 (.bool (decide (c<x17))) (qbi (k:=.i64) (a:=x17) (b:=c) rfl rfl)<|lp (.bool (decide (c<x17))) (qat (q:=(decide (x17=0))) rfl hq26 rfl)<|lp (.bool (decide (c<x17))) (qaa rfl) ?_
 rcases bS (decide (c<x17)) with hq28 | hq28
 replace hb:=tt hq28 hb
 refine gs rfl rfl (decide (c<x17)) rfl hq28<|gs rfl rfl (decide (c<x17)) rfl hq28<|gs rfl rfl (decide (c<x17)) rfl hq28<|gs rfl rfl (decide (c<x17)) rfl hq28<|lp (.bool true) (qap (q:=(decide (c<x17))) rfl hq28 rfl)<|ln (hK23 _ _ ?_)
 refine Wc.cond_true (rfl) ?_
 refine Wc.seq fun _ hK29=>rg<|lp (.bool false) (qab rfl)<|ln (hK29 _ _ ?_)
 obtain rfl:=os hb
 obtain rfl:=(lX hl0).symm
 replace hb:=hbK0
 obtain rfl:=os hb
 refine Wc.ret (hKR _ _ ?_)
 refine ⟨_,res1 results32 (tV (.bool false) rfl),_,rfl,rfl,hC.sE []⟩
 replace hb:=tf hq28 hb
 refine gp rfl rfl (decide (c<x17)) rfl hq28 (iv x17) (qaa rfl)<|gp rfl rfl (decide (c<x17)) rfl hq28 (iv c) (qaa e1) ?_
 obtain ⟨z30,h31,hb⟩:=bd hb
 refine gp rfl rfl (decide (c<x17)) rfl hq28 (iv z30) (qbx (a:=c) rfl h31)<|gp rfl rfl (decide (c<x17)) rfl hq28 (.bool (decide (x17<z30))) (qau (k:=.i64) (a:=x17) (b:=z30) rfl rfl)<|lp (.bool (decide (x17<z30))) (qat (q:=(decide (c<x17))) rfl hq28 rfl)<|ln (hK23 _ _ ?_)
 refine Wc.cond (t:=(decide (x17<z30))) (rfl) (fun hq32=>?_) (fun hq32=>?_)
 replace hb:=tt hq32 hb
 refine Wc.seq fun _ hK33=>rg<|lp (.bool false) (qab rfl)<|ln (hK33 _ _ ?_)
 obtain rfl:=os hb
 obtain rfl:=(lX hl0).symm
 replace hb:=hbK0
 obtain rfl:=os hb
 refine Wc.ret (hKR _ _ ?_)
 refine ⟨_,res1 results32 (tV (.bool false) rfl),_,rfl,rfl,hC.sE []⟩
 replace hb:=tf hq32 hb
 refine Wc.skip (hK15 _ _ ?_)
 refine rg ?_
 obtain ⟨z34,h35,hb⟩:=bd hb
 refine lp (iv z34) (qak (a:=d) (b:=1) e9 rfl h35)<|lp (iv z34) (qaa rfl)<|ln ?_
 obtain rfl:=os hb
 exact hK7 m8' _ _ (Nat.lt_succ_self _) ⟨z34,e1,e4,e7,e8,rfl,(qai h35),hC.sE [0],lN hl0⟩
 replace hb:=tf hq14 hb
 refine Wc.exit rfl ?_
 obtain rfl:=os hb
 obtain rfl:=(lX hl0).symm
 exact hK6 _ _ ⟨d,e4,j,hC.sE [],hbK0⟩
 clear hb hC hl0
 rintro E37 w36 ⟨d,e4,j,hC,hb⟩
 refine hK3 _ _<|Wc.seq fun _ hK38=>rg<|lp (.bool true) (qab rfl)<|ln (hK38 _ _ ?_)
 obtain rfl:=os hb
 refine Wc.ret (hKR _ _ ?_)
 refine ⟨_,res1 results32 (tV (.bool true) rfl),_,rfl,rfl,hC.sE []⟩

theorem word_push_ok (n:Nat) {w:World} {O0:List Nat} (hO: ∀k∈O0,k<w.heap.size) {p:Option Addr} {y u:Nat} {l:List Int} {h:Option Addr} {z j:Nat} {c:List Int} (B:Rep O0 w (.sl si) [.slice h z j] c) (hio:Tk O0 w [.own 3 si (.slice p y u) l]) {r:(List Int)} (hb:F.qfb n l c=some r):
    Calls prog 56 #[.slice p y u,.slice h z j] w fun e w'=> ∃v,e=.returned v∧∃(A0:Option Addr) (m0 c0:Nat),v=.slice A0 m0 c0∧Cx (fun k=>k∈blocks [.own 3 si (.slice p y u) l]) O0 w w' [.own 3 si (.slice A0 m0 c0) r]:=by
 unfold F.qfb at hb
 have hC:=Cx.startTk hO hio
 have hsub:=hio.2.2
 replace hC:=hC.argTk (by first | exact hsub | exact fun k hk=>hsub k (by simpa [blocks,Fact.blk] using hk)) B
 clear hO
 obtain ⟨rfl,H,J⟩:=B.qaf
 obtain ⟨rfl,K,L⟩:=(hC.ow (i:=1) rfl).qaf
 clear hio hsub
 obtain ⟨I,hI,hC⟩: ∃I:Nat→Prop,I=(fun k=>k∈blocks [.own 3 si (.slice p l.length u) l])∧Cx I O0 w w ([.ro (.sl si) [.slice h c.length j] c,.own 3 si (.slice p l.length u) l]):=⟨_,rfl,hC⟩
 refine qao func56 rfl (by rw [ntmps56]; exact nb rfl) fun KR hKR=>?_
 refine Wc.seq fun _ hK3=>rg<|lp (.slice none 0 0) (qab rfl)<|ln (hK3 _ _ ?_)
 refine Wc.seq fun _ hK4=>?_
 refine Wc.seq fun _ hK5=>rg<|lp (.slice h c.length j) (qaa rfl)<|lp (iv (c.length:Int)) (qan (A:=h) (n:=c.length) (m:=j) underlying22 rfl)<|lp (iv 0) (qaa rfl)<|ln (hK5 _ _ ?_)
 obtain ⟨o6,hl0,hb⟩:=bd hb
 refine Wc.cut (fun E wv=> ∃(d:List Int) (f:Int) (o:Option Addr) (x g:Nat),E 0=.slice o x g∧E 4=.slice none 0 0∧I64 f∧Cx I O0 w wv [.own 3 si (.slice o x g) d]∧(some d:Option ((List Int)))=some r) (fun _ hK7=>?_) ?_
 refine Wc.block ?_
 refine Wc.loop (fun m E wv=> ∃(d:List Int) (f:Int) (o:Option Addr) (x g:Nat),E 0=.slice o x g∧E 4=.slice none 0 0∧E 8=.slice h c.length j∧E 9=iv (c.length:Int)∧E 10=iv f∧I64 f∧Cx I O0 w wv [.own 3 si (.slice o x g) d,.ro (.sl si) [.slice h c.length j] c]∧loopN m (F.qfg n c) (d,f)=some o6) n ⟨l,0,p,l.length,u,rfl,rfl,rfl,rfl,rfl,(show I64 0 from by unfold I64; omega),hC.sE [1,0],hl0⟩ ?_
 have hbK0:=hb
 clear hb hC hl0
 rintro m9 E11 w10 ⟨d,f,o,x,g,e0,e4,e8,e9,e10,C,hC,hl0⟩ K8 hK8
 obtain ⟨m9',o12,rfl,hb,hl0⟩:=qam hl0
 unfold F.qfg at hb
 obtain ⟨rfl,D,G⟩:=(hC.ow (i:=0) rfl).qaf
 refine Wc.seq fun _ hK13=>rg<|lp _ (qau e10 e9)<|ln (hK13 _ _ ?_)
 refine Wc.seq fun _ hK14=>?_
 refine Wc.cond (t:=(decide (f<(c.length:Int)))) (rfl) (fun hq15=>?_) (fun hq15=>?_)
 replace hb:=tt hq15 hb
 refine Wc.skip (hK14 _ _ ?_)
 refine Wc.seq fun _ hK16=>?_
 refine Wc.block<|Wc.seq fun _ hK17=>rg ?_
 obtain ⟨x18,h19,hb⟩:=bd hb
 obtain ⟨ad20,cs21,hA,hc22,hr23⟩:=hC.elr (i:=1) rfl (qac h19).2
 subst hA
 refine lp (.pointer (some (ad20.add (f.toNat*1)))) (qag (a:=f) underlying22 sizeOf3 e8 e10 (qac h19).1) ?_
 obtain ⟨rfl,hr23'⟩:=hr23
 refine lv (iv x18) (qah isAgg3 rfl (hc22 0 _ rfl))<|lp (iv x18) (qab rfl)<|ln (hK17 _ _ ?_)
 refine Wc.seq fun _ hK24=>rg<|lp _ (qaa e0)<|lp (iv (d.length:Int)) (qan (A:=o) (n:=d.length) (m:=g) underlying27 rfl) ?_
 obtain ⟨z25,h26,hb⟩:=bd hb
 refine lp (iv z25) (qbu (a:=(d.length:Int)) (b:=1) rfl rfl h26)<|lp (iv z25) (qab rfl)<|ln (hK24 _ _ ?_)
 refine Wc.seq fun _ hK27=>rg<|lp (iv z25) (qaa rfl)<|lp (.bool (decide (0≤z25))) (pu_geq (k:=.i64) (a:=z25) (b:=0) rfl rfl)<|lp (.bool (decide (0≤z25))) (qaa rfl) ?_
 rcases bS (decide (0≤z25)) with hq28 | hq28
 replace hb:=tt hq28 hb
 refine gp rfl rfl (decide (0≤z25)) rfl hq28 (.slice o d.length g) (qaa e0)<|gp rfl rfl (decide (0≤z25)) rfl hq28 (iv z25) (qaa rfl) ?_
 obtain ⟨x29,h30,hb⟩:=bd hb
 obtain ⟨ad31,cs32,hA,hc33,hr34⟩:=hC.elo (i:=0) rfl (qac h30).2
 subst hA
 refine gp rfl rfl (decide (0≤z25)) rfl hq28 (.pointer (some (ad31.add (z25.toNat*1)))) (qag (a:=z25) underlying27 sizeOf3 rfl rfl (qac h30).1) ?_
 obtain ⟨rfl,hr34'⟩:=hr34
 refine gv rfl rfl (decide (0≤z25)) rfl hq28 (iv x29) (qah isAgg3 rfl (hc33 0 _ rfl))<|gp rfl rfl (decide (0≤z25)) rfl hq28 (iv x18) (qaa rfl) ?_
 obtain ⟨z35,h36,hb⟩:=bd hb
 refine gp rfl rfl (decide (0≤z25)) rfl hq28 (iv z35) (qbx (a:=x18) rfl h36)<|gp rfl rfl (decide (0≤z25)) rfl hq28 (.bool (decide (x29=z35))) (qcu (k:=.i64) (a:=x29) (b:=z35) rfl rfl)<|lp (.bool (decide (x29=z35))) (qap (q:=(decide (0≤z25))) rfl hq28 rfl)<|ln (hK27 _ _ ?_)
 refine Wc.fresh fun E37 hE=>?_
 have e0:=cg hE 0 e0
 have e4:=cg hE 4 e4
 have e6:E37 6=iv x18:=cg hE 6 rfl
 have e7:E37 7=iv z25:=cg hE 7 rfl
 have e8:=cg hE 8 e8
 have e9:=cg hE 9 e9
 have e10:=cg hE 10 e10
 have e11:E37 11=.bool (decide (f<(c.length:Int))):=cg hE 11 rfl
 have e27:E37 27=.bool (decide (x29=z35)):=cg hE 27 rfl
 clear hE
 refine Wc.cond (t:=(decide (x29=z35))) (e27) (fun hq38=>?_) (fun hq38=>?_)
 replace hb:=tt hq38 hb
 refine rg<|lp _ (qaa e0)<|lp _ (qaa e7) ?_
 obtain ⟨u39,h40,hb⟩:=bd hb
 refine lp (.slice (some ad31) ((d.take z25.toNat).length) g) (pu_cuth (b:=z25) underlying27 sizeOf3 rfl rfl (hC.ow (i:=0) rfl).qaf (cut_some h40)) ?_
 replace hC:=hC.cuth (i:=0) rfl (k:=z25.toNat) (by have:=cut_some h40; omega)
 obtain ⟨-,hl41,hc42⟩:=(hC.ow (i:=0) rfl).qaf
 refine lp (.slice (some ad31) ((d.take z25.toNat).length) g) (qab rfl)<|ln (hK16 _ _ ?_)
 refine rg ?_
 obtain ⟨z43,h44,hb⟩:=bd hb
 refine lp (iv z43) (qak (a:=f) (b:=1) e10 rfl h44)<|lp (iv z43) (qaa rfl)<|ln ?_
 obtain rfl:=os hb
 exact hK8 m9' _ _ (Nat.lt_succ_self _) ⟨(d.take z25.toNat),z43,(some ad31),(d.take z25.toNat).length,g,rfl,e4,e8,e9,rfl,(qai h44),hC.sE [0,1],lN hl0⟩
 replace hb:=tf hq38 hb
 refine rg<|lp _ (qaa e0)<|lp _ (qaa e6)<|lex.op (hC.lit (s:=si) (vs:=[iv x18]) (xs:=[x18]) underlying27 type3 rfl rfl (nb rfl) rfl rfl (by simp [Value.cells,Sh.n]) rfl (show Elems _ _ si ([iv x18]++([])) ([x18]:List Int) from Elems.cons (⟨rfl,I64.wr (qbl hr23')⟩) (Elems.nil _ _ _))) ?_
 rintro _ w49 ⟨A45,c46,rfl,hl47,hc48,hC,-,-⟩
 obtain ⟨u51,h52,hb⟩:=bd hb
 refine lex.op (hC.app (i:=1) (s:=si) (xs:=d) (ys:=([x18]:List Int)) (m:=((([x18]:List Int)).length)) rfl underlying27 underlying27 type3 rfl rfl rfl (hC.srco (i:=0) rfl) rfl rfl (by have:=qbn h52; simp at this⊢ <;>omega) (by decide)) ?_
 rintro _ w57 ⟨A53,c54,rfl,hl55,hc56,hC,-,-⟩
 refine lp (.slice A53 ((d++([x18]:List Int)).length) c54) (qab rfl)<|ln (hK16 _ _ ?_)
 refine rg ?_
 obtain ⟨z58,h59,hb⟩:=bd hb
 refine lp (iv z58) (qak (a:=f) (b:=1) e10 rfl h59)<|lp (iv z58) (qaa rfl)<|ln ?_
 obtain rfl:=os hb
 exact hK8 m9' _ _ (Nat.lt_succ_self _) ⟨(d++([x18]:List Int)),z58,A53,(d++([x18]:List Int)).length,c54,rfl,e4,e8,e9,rfl,(qai h59),hC.sE [1,2],lN hl0⟩
 replace hb:=tf hq28 hb
 refine gs rfl rfl (decide (0≤z25)) rfl hq28<|gs rfl rfl (decide (0≤z25)) rfl hq28<|gs rfl rfl (decide (0≤z25)) rfl hq28<|gs rfl rfl (decide (0≤z25)) rfl hq28<|gs rfl rfl (decide (0≤z25)) rfl hq28<|gs rfl rfl (decide (0≤z25)) rfl hq28<|gs rfl rfl (decide (0≤z25)) rfl hq28<|lp (.bool false) (qat (q:=(decide (0≤z25))) rfl hq28 rfl)<|ln (hK27 _ _ ?_)
 refine Wc.fresh fun E60 hE=>?_
 have e0:=cg hE 0 e0
 have e4:=cg hE 4 e4
 have e6:E60 6=iv x18:=cg hE 6 rfl
 have e7:E60 7=iv z25:=cg hE 7 rfl
 have e8:=cg hE 8 e8
 have e9:=cg hE 9 e9
 have e10:=cg hE 10 e10
 have e11:E60 11=.bool (decide (f<(c.length:Int))):=cg hE 11 rfl
 have e27:E60 27=.bool false:=cg hE 27 rfl
 clear hE
 refine Wc.cond_false (e27) ?_
 refine rg<|lp _ (qaa e0)<|lp _ (qaa e6)<|lex.op (hC.lit (s:=si) (vs:=[iv x18]) (xs:=[x18]) underlying27 type3 rfl rfl (nb rfl) rfl rfl (by simp [Value.cells,Sh.n]) rfl (show Elems _ _ si ([iv x18]++([])) ([x18]:List Int) from Elems.cons (⟨rfl,I64.wr (qbl hr23')⟩) (Elems.nil _ _ _))) ?_
 rintro _ w65 ⟨A61,c62,rfl,hl63,hc64,hC,-,-⟩
 obtain ⟨u67,h68,hb⟩:=bd hb
 refine lex.op (hC.app (i:=1) (s:=si) (xs:=d) (ys:=([x18]:List Int)) (m:=((([x18]:List Int)).length)) rfl underlying27 underlying27 type3 rfl rfl rfl (hC.srco (i:=0) rfl) rfl rfl (by have:=qbn h68; simp at this⊢ <;>omega) (by decide)) ?_
 rintro _ w73 ⟨A69,c70,rfl,hl71,hc72,hC,-,-⟩
 refine lp (.slice A69 ((d++([x18]:List Int)).length) c70) (qab rfl)<|ln (hK16 _ _ ?_)
 refine rg ?_
 obtain ⟨z74,h75,hb⟩:=bd hb
 refine lp (iv z74) (qak (a:=f) (b:=1) e10 rfl h75)<|lp (iv z74) (qaa rfl)<|ln ?_
 obtain rfl:=os hb
 exact hK8 m9' _ _ (Nat.lt_succ_self _) ⟨(d++([x18]:List Int)),z74,A69,(d++([x18]:List Int)).length,c70,rfl,e4,e8,e9,rfl,(qai h75),hC.sE [1,2],lN hl0⟩
 replace hb:=tf hq15 hb
 refine Wc.exit rfl ?_
 obtain rfl:=os hb
 obtain rfl:=(lX hl0).symm
 exact hK7 _ _ ⟨d,f,o,d.length,g,e0,e4,C,hC.sE [0],hbK0⟩
 clear hb hC hl0
 rintro E77 w76 ⟨d,f,o,x,g,e0,e4,C,hC,hb⟩
 obtain ⟨rfl,D,G⟩:=(hC.ow (i:=0) rfl).qaf
 refine hK4 _ _<|Wc.seq fun _ hK78=>rg<|lp _ (qaa e0)<|lp (.slice o d.length g) (qab rfl)<|ln (hK78 _ _ ?_)
 obtain rfl:=os hb
 subst hI
 refine Wc.ret (hKR _ _ ?_)
 refine ⟨_,res1 results56 (tV (.slice o d.length g) rfl),_,rfl,o,d.length,g,rfl,hC.sE [0]⟩

theorem qge (n:Nat) {w:World} {O0:List Nat} (hO: ∀k∈O0,k<w.heap.size) {b:Option Addr} {d c:Nat} {a:List Int} (f:Rep O0 w (.sl si) [.slice b d c] a) {r:(List Int)} (hb:F.qfx n a=some r):
    Calls prog 34 #[.slice b d c] w fun e w'=> ∃v,e=.returned v∧∃(A0:Option Addr) (m0 c0:Nat),v=.slice A0 m0 c0∧Cx (fun _=>False) O0 w w' [.own 3 si (.slice A0 m0 c0) r]:=by
 unfold F.qfx at hb
 have hC:=Cx.start hO
 replace hC:=hC.arg rfl f
 clear hO
 obtain ⟨rfl,g,h⟩:=f.qaf
 refine qao func34 rfl (by rw [ntmps34]; exact nb rfl) fun KR hKR=>?_
 refine Wc.seq fun _ hK2=>rg<|lp (.slice none 0 0) (qab rfl)<|ln (hK2 _ _ ?_)
 refine Wc.seq fun _ hK3=>rg<|lp (.slice b a.length c) (qaa rfl)<|lp (iv (a.length:Int)) (qan (A:=b) (n:=a.length) (m:=c) underlying27 rfl) ?_
 obtain ⟨u4,h5,hb⟩:=bd hb
 refine lex.op (hC.make0 (s:=si) (n:=(a.length:Int)) underlying27 type3 rfl rfl rfl rfl (qae h5).1 (qae h5).2 (by decide)) ?_
 rintro _ w10 ⟨A6,c7,rfl,hl8,hc9,hC,-,-⟩
 refine lp (.slice b a.length c) (qaa rfl) ?_
 replace hC:Cx (fun _=>False) O0 w w10 ([.own 3 si (.slice A6 ((([]:List Int)).length) c7) ([]:List Int)]++[.ro (.sl si) [.slice b a.length c] a]):=hC.sE [0,1]
 obtain ⟨y12,h13,hb⟩:=bd hb
 refine lex.cl (⟨_,_,qas (vs:=[.slice A6 ((([]:List Int)).length) c7,.slice b a.length c]) call56 rfl rfl rfl,word_push_ok n hC.lt (hC.rd (i:=1) rfl) hC.give h13⟩) ?_
 rintro _ w18 ⟨A14,m15,c16,rfl,hK⟩
 replace hC:=hC.back hK
 clear hK
 obtain ⟨rfl,hl19,hc20⟩:=(hC.ow (i:=0) rfl).qaf
 refine lp (.slice A14 y12.length c16) (qab rfl)<|ln (hK3 _ _ ?_)
 obtain rfl:=os hb
 refine Wc.ret (hKR _ _ ?_)
 refine ⟨_,res1 results34 (tV (.slice A14 y12.length c16) rfl),_,rfl,A14,y12.length,c16,rfl,hC.sE [0]⟩

theorem artin_Act_c1_ok (n:Nat) {w:World} {O0:List Nat} (hO: ∀k∈O0,k<w.heap.size) {c:Int} (x:I64 c) {q:Nat} {d:Int} (D:I64 d) {j:Option Addr} {u l:Nat} {o:List Int} (z:Rep O0 w (.sl si) [.slice j u l] o) (hio:Tk O0 w [.box q 24 [iv d,.slice j u l]]) {r:(List (List Int))} (hb:F.qha n c d o=some r):
    Calls prog 33 #[iv c,pg q] w fun e w'=> ∃v,e=.returned v∧∃(A0:Option Addr) (m0 c0:Nat),v=.slice A0 m0 c0∧Cx (fun k=>k∈blocks [.box q 24 [iv d,.slice j u l]]) O0 w w' [.own 27 (.sl si) (.slice A0 m0 c0) r,.box q 24 [iv d,.slice j u l]]:=by
 unfold F.qha at hb
 have hC:=Cx.startTk hO hio
 have hsub:=hio.2.2
 replace hC:=hC.argTk (by first | exact hsub | exact fun k hk=>hsub k (by simpa [blocks,Fact.blk] using hk)) z
 clear hO
 obtain ⟨rfl,B,C⟩:=z.qaf
 clear hio hsub
 obtain ⟨I,hI,hC⟩: ∃I:Nat→Prop,I=(fun k=>k∈blocks [.box q 24 [iv d,.slice j o.length l]])∧Cx I O0 w w ([.ro (.sl si) [.slice j o.length l] o,.box q 24 [iv d,.slice j o.length l]]):=⟨_,rfl,hC⟩
 refine qao func33 rfl (by rw [ntmps33]; exact nb rfl) fun KR hKR=>?_
 refine Wc.seq fun _ hK3=>rg<|lp (.slice none 0 0) (qab rfl)<|ln (hK3 _ _ ?_)
 refine Wc.seq fun _ hK4=>rg<|lp (.pointer (some ((⟨q,0,none⟩:Addr).add 0))) (qal (sz:=1) underlying24 rfl sizeOf3 (by decide) rfl rfl)<|lv (iv d) (qar (hC.bx (i:=1) rfl) isAgg3 rfl rfl) ?_
 obtain ⟨u5,h6,hb⟩:=bd hb
 refine lex.op (hC.make (s:=(.sl si)) (n:=d) underlying37 type27 rfl rfl rfl rfl rfl (qae h6).1 (qae h6).2 (by decide)) ?_
 rintro _ w11 ⟨A7,c8,rfl,hl9,hc10,hC,-,-⟩
 refine lp (.slice A7 (((List.replicate d.toNat ([]:List Int))).length) c8) (qab rfl)<|ln (hK4 _ _ ?_)
 refine Wc.seq fun _ hK13=>?_
 refine Wc.seq fun _ hK14=>rg<|lp (.slice A7 (((List.replicate d.toNat ([]:List Int))).length) c8) (qaa rfl)<|lp (iv (((List.replicate d.toNat ([]:List Int))).length:Int)) (qan (A:=A7) (n:=((List.replicate d.toNat ([]:List Int))).length) (m:=c8) underlying37 rfl)<|lp (iv 0) (qaa rfl)<|ln (hK14 _ _ ?_)
 obtain ⟨o15,hl0,f15,hf15,hb⟩:=bn hb
 refine Wc.cut (fun E wv=> ∃(f:Int) (p:List (List Int)),E 0=iv c∧E 3=.slice none 0 0∧E 4=.slice A7 (((List.replicate d.toNat ([]:List Int))).length) c8∧I64 f∧Cx I O0 w wv [.own 27 (.sl si) (.slice A7 (((List.replicate d.toNat ([]:List Int))).length) c8) p,.box q 24 [iv d,.slice j o.length l],.ro (.sl si) [.slice j o.length l] o]∧f15 (f,p)=some r) (fun _ hK16=>?_) ?_
 refine Wc.block ?_
 refine Wc.loop (fun m E wv=> ∃(f:Int) (p:List (List Int)),E 0=iv c∧E 3=.slice none 0 0∧E 4=.slice A7 (((List.replicate d.toNat ([]:List Int))).length) c8∧E 11=iv (((List.replicate d.toNat ([]:List Int))).length:Int)∧E 12=iv f∧I64 f∧Cx I O0 w wv [.own 27 (.sl si) (.slice A7 (((List.replicate d.toNat ([]:List Int))).length) c8) p,.box q 24 [iv d,.slice j o.length l],.ro (.sl si) [.slice j o.length l] o]∧loopN m (F.qdw n d) (f,p)=some o15) n ⟨0,(List.replicate d.toNat ([]:List Int)),rfl,rfl,rfl,rfl,rfl,(show I64 0 from by unfold I64; omega),hC.sE [0,2,1],hl0⟩ ?_
 have hbK0:=hb
 clear hb hC hl0
 rintro m18 E20 w19 ⟨f,p,e0,e3,e4,e11,e12,y,hC,hl0⟩ K17 hK17
 obtain ⟨m18',o21,rfl,hb,hl0⟩:=qam hl0
 unfold F.qdw at hb
 refine Wc.seq fun _ hK22=>rg<|lp _ (qau e12 e11)<|ln (hK22 _ _ ?_)
 refine Wc.seq fun _ hK23=>?_
 refine Wc.cond (t:=(decide (f<(((List.replicate d.toNat ([]:List Int))).length:Int)))) (rfl) (fun hq24=>?_) (fun hq24=>?_)
 replace hb:=tt hq24 hb
 refine Wc.skip (hK23 _ _ ?_)
 refine Wc.seq fun _ hK25=>?_
 refine Wc.block<|Wc.seq fun _ hK26=>rg<|lp _ (qaa e12)<|lp (iv f) (qab rfl)<|ln (hK26 _ _ ?_)
 refine rg<|lp _ (qaa e4)<|lp (iv f) (qaa rfl)<|lp (iv f) (qaa rfl) ?_
 obtain ⟨z27,h28,hb⟩:=bd hb
 refine lp (iv z27) (qak (a:=f) (b:=1) rfl rfl h28)<|lex.op (hC.lit (s:=si) (vs:=[iv z27]) (xs:=[z27]) underlying27 type3 rfl rfl (nb rfl) rfl rfl (by simp [Value.cells,Sh.n]) rfl (show Elems _ _ si ([iv z27]++([])) ([z27]:List Int) from Elems.cons (⟨rfl,I64.wr (qai h28)⟩) (Elems.nil _ _ _))) ?_
 rintro _ w33 ⟨A29,c30,rfl,hl31,hc32,hC,-,-⟩
 obtain ⟨x35,h36,hb⟩:=bd hb
 obtain ⟨ad37,cs38,hA,hc39,hr40⟩:=hC.elo (i:=1) rfl (qac h36).2
 subst hA
 refine lp (.pointer (some (ad37.add (f.toNat*1)))) (qag (a:=f) underlying37 sizeOf27 rfl rfl (by rw [(hC.ow (i:=1) rfl).qaf.1]; exact (qac h36).1)) ?_
 replace hC:=hC.freeze (i:=0) rfl (hC.own_newI hI (i:=0) rfl (List.forall_mem_cons.2 ⟨fun g hg=>⟨2,_,rfl,by decide,hg⟩,fun _ h=>absurd h List.not_mem_nil⟩))
 refine lex.sk (hC.put (i:=1) rfl rfl sizeOf27 (k:=f.toNat) (a:=([z27]:List Int)) (by have:=(qac h36).1; simp at this⊢; omega) (hC.rd (i:=0) rfl) rfl rfl rfl) ?_
 rintro w41 ⟨hC,hF⟩
 refine ln (hK25 _ _ ?_)
 refine rg ?_
 obtain ⟨z42,h43,hb⟩:=bd hb
 refine lp (iv z42) (qak (a:=f) (b:=1) e12 rfl h43)<|lp (iv z42) (qaa rfl)<|ln ?_
 obtain rfl:=os hb
 exact hK17 m18' _ _ (Nat.lt_succ_self _) ⟨z42,(p.set f.toNat ([z27]:List Int)),e0,e3,e4,e11,rfl,(qai h43),hC.sE [1,2,3],lN hl0⟩
 replace hb:=tf hq24 hb
 refine Wc.exit rfl ?_
 obtain rfl:=os hb
 obtain rfl:=(lX hl0).symm
 exact hK16 _ _ ⟨f,p,e0,e3,e4,y,hC.sE [0,1,2],hbK0⟩
 clear hb hC hl0
 rintro E45 w44 ⟨f,p,e0,e3,e4,y,hC,hb⟩
 subst hf15
 refine hK13 _ _ ?_
 refine Wc.seq fun _ hK46=>?_
 refine Wc.seq fun _ hK47=>rg<|lp _ (qaa e0)<|lp (iv c) (qab rfl)<|ln (hK47 _ _ ?_)
 refine Wc.seq fun _ hK48=>rg<|lp (iv c) (qaa rfl)<|lp (.bool (decide (0<c))) (qbi (k:=.i64) (a:=c) (b:=0) rfl rfl)<|ln (hK48 _ _ ?_)
 refine Wc.cond (t:=(decide (0<c))) (rfl) (fun hq49=>?_) (fun hq49=>?_)
 replace hb:=tt hq49 hb
 refine rg<|lp _ (qaa e4)<|lp (iv c) (qaa rfl) ?_
 obtain ⟨z50,h51,hb⟩:=bd hb
 refine lp (iv z50) (qbu (a:=c) (b:=1) rfl rfl h51)<|lp _ (qaa e4)<|lp (iv c) (qaa rfl)<|lp (iv c) (qaa rfl)<|lp (iv c) (qaa rfl) ?_
 obtain ⟨z52,h53,hb⟩:=bd hb
 refine lp (iv z52) (qak (a:=c) (b:=1) rfl rfl h53)<|lp (iv c) (qaa rfl) ?_
 obtain ⟨z54,h55,hb⟩:=bd hb
 refine lp (iv z54) (qbx (a:=c) rfl h55)<|lex.op (hC.lit (s:=si) (vs:=[iv c,iv z52,iv z54]) (xs:=[c,z52,z54]) underlying27 type3 rfl rfl (nb rfl) rfl rfl (by simp [Value.cells,Sh.n]) rfl (show Elems _ _ si ([iv c]++([iv z52]++([iv z54]++([])))) ([c,z52,z54]:List Int) from Elems.cons (⟨rfl,I64.wr x⟩) (Elems.cons (⟨rfl,I64.wr (qai h53)⟩) (Elems.cons (⟨rfl,I64.wr (qai h55)⟩) (Elems.nil _ _ _))))) ?_
 rintro _ w60 ⟨A56,c57,rfl,hl58,hc59,hC,-,-⟩
 refine lp (iv c) (qaa rfl)<|lex.op (hC.lit (s:=si) (vs:=[iv c]) (xs:=[c]) underlying27 type3 rfl rfl (nb rfl) rfl rfl (by simp [Value.cells,Sh.n]) rfl (show Elems _ _ si ([iv c]++([])) ([c]:List Int) from Elems.cons (⟨rfl,I64.wr x⟩) (Elems.nil _ _ _))) ?_
 rintro _ w66 ⟨A62,c63,rfl,hl64,hc65,hC,-,-⟩
 obtain ⟨x68,h69,hb⟩:=bd hb
 obtain ⟨ad70,cs71,hA,hc72,hr73⟩:=hC.elo (i:=2) rfl (qac h69).2
 subst hA
 refine lp (.pointer (some (ad70.add (z50.toNat*1)))) (qag (a:=z50) underlying37 sizeOf27 rfl rfl (by rw [(hC.ow (i:=2) rfl).qaf.1]; exact (qac h69).1)) ?_
 replace hC:=hC.freeze (i:=1) rfl (hC.own_newI hI (i:=1) rfl (List.forall_mem_cons.2 ⟨fun g hg=>⟨3,_,rfl,by decide,hg⟩,fun _ h=>absurd h List.not_mem_nil⟩))
 refine lex.sk (hC.put (i:=2) rfl rfl sizeOf27 (k:=z50.toNat) (a:=([c,z52,z54]:List Int)) (by have:=(qac h69).1; simp at this⊢; omega) (hC.rd (i:=1) rfl) rfl rfl rfl) ?_
 rintro w74 ⟨hC,hF⟩
 obtain ⟨x75,h76,hb⟩:=bd hb
 obtain ⟨ad77,cs78,hA,hc79,hr80⟩:=hC.elo (i:=2) rfl (qac h76).2
 obtain rfl:=Option.some.inj hA
 refine lp (.pointer (some (ad70.add (c.toNat*1)))) (qag (a:=c) underlying37 sizeOf27 rfl rfl (by rw [(hC.ow (i:=2) rfl).qaf.1]; exact (qac h76).1)) ?_
 replace hC:=hC.freeze (i:=0) rfl (hC.own_newI hI (i:=0) rfl (List.forall_mem_cons.2 ⟨fun g hg=>⟨3,_,rfl,by decide,hg⟩,fun _ h=>absurd h List.not_mem_nil⟩))
 refine lex.sk (hC.put (i:=2) rfl rfl sizeOf27 (k:=c.toNat) (a:=([c]:List Int)) (by have:=(qac h76).1; simp at this⊢; omega) (hC.rd (i:=0) rfl) rfl rfl rfl) ?_
 rintro w81 ⟨hC,hF⟩
 refine ln (hK46 _ _ ?_)
 refine Wc.seq fun _ hK82=>rg<|lp _ (qaa e4)<|lp (.slice (some ad70) (((List.replicate d.toNat ([]:List Int))).length) c8) (qab rfl)<|ln (hK82 _ _ ?_)
 obtain rfl:=os hb
 subst hI
 refine Wc.ret (hKR _ _ ?_)
 refine ⟨_,res1 results33 (tV (.slice (some ad70) (((List.replicate d.toNat ([]:List Int))).length) c8) rfl),_,rfl,(some ad70),((List.replicate d.toNat ([]:List Int))).length,c8,rfl,hC.sE [2,3]⟩
 replace hb:=tf hq49 hb
 refine Wc.seq fun _ hK83=>rg<|lp _ (qaa e0) ?_
 obtain ⟨z84,h85,hb⟩:=bd hb
 refine lp (iv z84) (qbx (a:=c) rfl h85)<|lp (iv z84) (qab rfl)<|ln (hK83 _ _ ?_)
 refine rg<|lp _ (qaa e4)<|lp (iv z84) (qaa rfl) ?_
 obtain ⟨z86,h87,hb⟩:=bd hb
 refine lp (iv z86) (qbu (a:=z84) (b:=1) rfl rfl h87)<|lp _ (qaa e4)<|lp (iv z84) (qaa rfl)<|lp (iv z84) (qaa rfl) ?_
 obtain ⟨z88,h89,hb⟩:=bd hb
 refine lp (iv z88) (qak (a:=z84) (b:=1) rfl rfl h89)<|lex.op (hC.lit (s:=si) (vs:=[iv z88]) (xs:=[z88]) underlying27 type3 rfl rfl (nb rfl) rfl rfl (by simp [Value.cells,Sh.n]) rfl (show Elems _ _ si ([iv z88]++([])) ([z88]:List Int) from Elems.cons (⟨rfl,I64.wr (qai h89)⟩) (Elems.nil _ _ _))) ?_
 rintro _ w94 ⟨A90,c91,rfl,hl92,hc93,hC,-,-⟩
 refine lp (iv z84) (qaa rfl) ?_
 obtain ⟨z96,h97,hb⟩:=bd hb
 refine lp (iv z96) (qak (a:=z84) (b:=1) rfl rfl h97) ?_
 obtain ⟨z98,h99,hb⟩:=bd hb
 refine lp (iv z98) (qbx (a:=z96) rfl h99)<|lp (iv z84) (qaa rfl)<|lp (iv z84) (qaa rfl) ?_
 obtain ⟨z100,h101,hb⟩:=bd hb
 refine lp (iv z100) (qak (a:=z84) (b:=1) rfl rfl h101)<|lex.op (hC.lit (s:=si) (vs:=[iv z98,iv z84,iv z100]) (xs:=[z98,z84,z100]) underlying27 type3 rfl rfl (nb rfl) rfl rfl (by simp [Value.cells,Sh.n]) rfl (show Elems _ _ si ([iv z98]++([iv z84]++([iv z100]++([])))) ([z98,z84,z100]:List Int) from Elems.cons (⟨rfl,I64.wr (qai h99)⟩) (Elems.cons (⟨rfl,I64.wr (qai h85)⟩) (Elems.cons (⟨rfl,I64.wr (qai h101)⟩) (Elems.nil _ _ _))))) ?_
 rintro _ w106 ⟨A102,c103,rfl,hl104,hc105,hC,-,-⟩
 obtain ⟨x108,h109,hb⟩:=bd hb
 obtain ⟨ad110,cs111,hA,hc112,hr113⟩:=hC.elo (i:=2) rfl (qac h109).2
 subst hA
 refine lp (.pointer (some (ad110.add (z86.toNat*1)))) (qag (a:=z86) underlying37 sizeOf27 rfl rfl (by rw [(hC.ow (i:=2) rfl).qaf.1]; exact (qac h109).1)) ?_
 replace hC:=hC.freeze (i:=1) rfl (hC.own_newI hI (i:=1) rfl (List.forall_mem_cons.2 ⟨fun g hg=>⟨3,_,rfl,by decide,hg⟩,fun _ h=>absurd h List.not_mem_nil⟩))
 refine lex.sk (hC.put (i:=2) rfl rfl sizeOf27 (k:=z86.toNat) (a:=([z88]:List Int)) (by have:=(qac h109).1; simp at this⊢; omega) (hC.rd (i:=1) rfl) rfl rfl rfl) ?_
 rintro w114 ⟨hC,hF⟩
 obtain ⟨x115,h116,hb⟩:=bd hb
 obtain ⟨ad117,cs118,hA,hc119,hr120⟩:=hC.elo (i:=2) rfl (qac h116).2
 obtain rfl:=Option.some.inj hA
 refine lp (.pointer (some (ad110.add (z84.toNat*1)))) (qag (a:=z84) underlying37 sizeOf27 rfl rfl (by rw [(hC.ow (i:=2) rfl).qaf.1]; exact (qac h116).1)) ?_
 replace hC:=hC.freeze (i:=0) rfl (hC.own_newI hI (i:=0) rfl (List.forall_mem_cons.2 ⟨fun g hg=>⟨3,_,rfl,by decide,hg⟩,fun _ h=>absurd h List.not_mem_nil⟩))
 refine lex.sk (hC.put (i:=2) rfl rfl sizeOf27 (k:=z84.toNat) (a:=([z98,z84,z100]:List Int)) (by have:=(qac h116).1; simp at this⊢; omega) (hC.rd (i:=0) rfl) rfl rfl rfl) ?_
 rintro w121 ⟨hC,hF⟩
 refine ln (hK46 _ _ ?_)
 refine Wc.seq fun _ hK122=>rg<|lp _ (qaa e4)<|lp (.slice (some ad110) (((List.replicate d.toNat ([]:List Int))).length) c8) (qab rfl)<|ln (hK122 _ _ ?_)
 obtain rfl:=os hb
 subst hI
 refine Wc.ret (hKR _ _ ?_)
 refine ⟨_,res1 results33 (tV (.slice (some ad110) (((List.replicate d.toNat ([]:List Int))).length) c8) rfl),_,rfl,(some ad110),((List.replicate d.toNat ([]:List Int))).length,c8,rfl,hC.sE [2,3]⟩
