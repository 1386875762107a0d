import Derived.Test.YticemffhlapnnaaS
set_option linter.all false
namespace Go.Proofs.Yticemffhlapnnaa
open Ev Try
set_option maxRecDepth 100000
set_option maxHeartbeats 4000000
theorem braid_Valid_ok (n:Nat) {w:World} {O0:List Nat} (hO: ∀k∈O0,k<w.heap.size) {c:Int} (u:I64 c) {f:Option Addr} {l g:Nat} {d:List Int} (o:Rep O0 w (.sl si) [.slice f l g] d) {r:Bool} (hb:F.qfs n c d=some r):
    Calls prog 22 #[.agg #[iv c,.slice f l g]] w fun e w'=> ∃v,e=.returned v∧v=.bool r∧Cx (fun _=>False) O0 w w' []:=by
 unfold F.qfs at hb
 have hC:=Cx.start hO
 replace hC:=hC.arg rfl o
 clear hO
 obtain ⟨rfl,p,s⟩:=o.qad
 refine qaq func22 rfl (by rw [ntmps22]; exact nb rfl) fun KR hKR=>?_
 refine Wc.seq fun _ hK2=>rg<|lex.op (hC.box (cs:=[iv c,.slice f d.length g]) rfl rfl) ?_
 rintro _ w4 ⟨g3,rfl,hC,hF,-⟩
 refine lp (.bool false) (qab rfl)<|ln (hK2 _ _ ?_)
 refine Wc.seq fun _ hK6=>?_
 refine Wc.seq fun _ hK7=>rg<|lp (.pointer (some ((⟨g3,0,none⟩:Addr).add 0))) (qag (sz:=1) underlying40 rfl sizeOf3 (by decide) rfl rfl)<|lv (iv c) (qam (hC.bx (i:=0) rfl) isAgg3 rfl rfl)<|lp (.bool (decide (c<1))) (qap (k:=.i64) (a:=c) (b:=1) rfl rfl)<|lp (.bool (decide (c<1))) (qaa rfl) ?_
 rcases bS (decide (c<1)) with hq8 | hq8
 replace hb:=tt hq8 hb
 refine gs rfl rfl (decide (c<1)) rfl hq8<|gs rfl rfl (decide (c<1)) rfl hq8<|gs rfl rfl (decide (c<1)) rfl hq8<|lp (.bool true) (qbg (q:=(decide (c<1))) rfl hq8 rfl)<|lp (.bool true) (qaa rfl)<|gs rfl rfl true rfl rfl<|gs rfl rfl true rfl rfl<|gs rfl rfl true rfl rfl<|gs rfl rfl true rfl rfl<|lp (.bool true) (qbg (q:=true) rfl rfl rfl)<|ln (hK7 _ _ ?_)
 refine Wc.cond_true (rfl) ?_
 refine Wc.seq fun _ hK9=>rg<|lp (.bool false) (qab rfl)<|ln (hK9 _ _ ?_)
 obtain rfl:=os hb
 refine Wc.ret (hKR _ _ ?_)
 refine ⟨_,res1 results22 (tV (.bool false) rfl),_,rfl,rfl,hC.sE []⟩
 replace hb:=tf hq8 hb
 refine gp rfl rfl (decide (c<1)) rfl hq8 (.pointer (some ((⟨g3,0,none⟩:Addr).add 0))) (qag (sz:=1) underlying40 rfl sizeOf3 (by decide) rfl rfl)<|gv rfl rfl (decide (c<1)) rfl hq8 (iv c) (qam (hC.bx (i:=0) rfl) isAgg3 rfl rfl)<|gp rfl rfl (decide (c<1)) rfl hq8 (.bool (decide (10<c))) (qed (k:=.i64) (a:=c) (b:=10) rfl rfl)<|lp (.bool (decide (10<c))) (qbc (q:=(decide (c<1))) rfl hq8 rfl)<|lp (.bool (decide (10<c))) (qaa rfl) ?_
 rcases bS (decide (10<c)) with hq10 | hq10
 replace hb:=tt hq10 hb
 refine gs rfl rfl (decide (10<c)) rfl hq10<|gs rfl rfl (decide (10<c)) rfl hq10<|gs rfl rfl (decide (10<c)) rfl hq10<|gs rfl rfl (decide (10<c)) rfl hq10<|lp (.bool true) (qbg (q:=(decide (10<c))) rfl hq10 rfl)<|ln (hK7 _ _ ?_)
 refine Wc.cond_true (rfl) ?_
 refine Wc.seq fun _ hK11=>rg<|lp (.bool false) (qab rfl)<|ln (hK11 _ _ ?_)
 obtain rfl:=os hb
 refine Wc.ret (hKR _ _ ?_)
 refine ⟨_,res1 results22 (tV (.bool false) rfl),_,rfl,rfl,hC.sE []⟩
 replace hb:=tf hq10 hb
 refine gp rfl rfl (decide (10<c)) rfl hq10 (.pointer (some ((⟨g3,0,none⟩:Addr).add 1))) (qag (sz:=1) underlying40 rfl sizeOf22 (by decide) rfl rfl)<|gv rfl rfl (decide (10<c)) rfl hq10 (.slice f d.length g) (qam (hC.bx (i:=0) rfl) isAgg22 rfl rfl)<|gp rfl rfl (decide (10<c)) rfl hq10 (iv (d.length:Int)) (qao (A:=f) (n:=d.length) (m:=g) underlying22 rfl)<|gp rfl rfl (decide (10<c)) rfl hq10 (.bool (decide (200<(d.length:Int)))) (qed (k:=.i64) (a:=(d.length:Int)) (b:=200) rfl rfl)<|lp (.bool (decide (200<(d.length:Int)))) (qbc (q:=(decide (10<c))) rfl hq10 rfl)<|ln (hK7 _ _ ?_)
 refine Wc.cond (t:=(decide (200<(d.length:Int)))) (rfl) (fun hq12=>?_) (fun hq12=>?_)
 replace hb:=tt hq12 hb
 refine Wc.seq fun _ hK13=>rg<|lp (.bool false) (qab rfl)<|ln (hK13 _ _ ?_)
 obtain rfl:=os hb
 refine Wc.ret (hKR _ _ ?_)
 refine ⟨_,res1 results22 (tV (.bool false) rfl),_,rfl,rfl,hC.sE []⟩
 replace hb:=tf hq12 hb
 refine Wc.skip (hK6 _ _ ?_)
 refine Wc.fresh fun E14 hE=>?_
 have e1:E14 1=pg g3:=cg hE 1 rfl
 have e2:E14 2=.bool false:=cg hE 2 rfl
 clear hE
 refine Wc.seq fun _ hK15=>?_
 refine Wc.seq fun _ hK16=>rg<|lp (.pointer (some ((⟨g3,0,none⟩:Addr).add 1))) (qag (sz:=1) underlying40 rfl sizeOf22 (by decide) rfl e1)<|lv (.slice f d.length g) (qam (hC.bx (i:=0) rfl) isAgg22 rfl rfl)<|lp (iv (d.length:Int)) (qao (A:=f) (n:=d.length) (m:=g) underlying22 rfl)<|lp (iv 0) (qaa rfl)<|ln (hK16 _ _ ?_)
 obtain ⟨o17,hl0,hb⟩:=bd hb
 refine Wc.cut (fun E wv=> ∃(h:Int),E 2=.bool false∧I64 h∧Cx (fun _=>False) O0 w wv []∧(some true:Option (Bool))=some r) (fun _ hK18=>?_) ?_
 refine Wc.block ?_
 refine Wc.loop (fun m E wv=> ∃(h:Int),E 1=pg g3∧E 2=.bool false∧E 20=.slice f d.length g∧E 21=iv (d.length:Int)∧E 22=iv h∧I64 h∧Cx (fun _=>False) O0 w wv [.box g3 40 [iv c,.slice f d.length g],.ro (.sl si) [.slice f d.length g] d]∧loopN m (F.qfx n c d) h=some o17) n ⟨0,e1,e2,rfl,rfl,rfl,(show I64 0 from by unfold I64; omega),hC.sE [0,1],hl0⟩ ?_
 have hbK0:=hb
 clear hb hC hl0
 rintro m20 E22 w21 ⟨h,e1,e2,e20,e21,e22,j,hC,hl0⟩ K19 hK19
 obtain ⟨m20',o23,rfl,hb,hl0⟩:=qan hl0
 unfold F.qfx at hb
 refine Wc.seq fun _ hK24=>rg<|lp _ (qap e22 e21)<|ln (hK24 _ _ ?_)
 refine Wc.seq fun _ hK25=>?_
 refine Wc.cond (t:=(decide (h<(d.length:Int)))) (rfl) (fun hq26=>?_) (fun hq26=>?_)
 replace hb:=tt hq26 hb
 refine Wc.skip (hK25 _ _ ?_)
 refine Wc.seq fun _ hK27=>?_
 refine Wc.block<|Wc.seq fun _ hK28=>rg ?_
 obtain ⟨x29,h30,hb⟩:=bd hb
 obtain ⟨ad31,cs32,hA,hc33,hr34⟩:=hC.elr (i:=1) rfl (qac h30).2
 subst hA
 refine lp (.pointer (some (ad31.add (h.toNat*1)))) (qaf (a:=h) underlying22 sizeOf3 e20 e22 (qac h30).1) ?_
 obtain ⟨rfl,hr34'⟩:=hr34
 refine lv (iv x29) (qaj isAgg3 rfl (hc33 0 _ rfl))<|lp (iv x29) (qab rfl)<|ln (hK28 _ _ ?_)
 refine Wc.seq fun _ hK35=>rg<|lp (iv x29) (qaa rfl)<|lp (.bool (decide (x29=0))) (qef (k:=.i64) (a:=x29) (b:=0) rfl rfl)<|lp (.bool (decide (x29=0))) (qaa rfl) ?_
 rcases bS (decide (x29=0)) with hq36 | hq36
 replace hb:=tt hq36 hb
 refine gs rfl rfl (decide (x29=0)) rfl hq36<|gs rfl rfl (decide (x29=0)) rfl hq36<|gs rfl rfl (decide (x29=0)) rfl hq36<|gs rfl rfl (decide (x29=0)) rfl hq36<|gs rfl rfl (decide (x29=0)) rfl hq36<|lp (.bool true) (qbg (q:=(decide (x29=0))) rfl hq36 rfl)<|lp (.bool true) (qaa rfl)<|gs rfl rfl true rfl rfl<|gs rfl rfl true rfl rfl<|gs rfl rfl true rfl rfl<|gs rfl rfl true rfl rfl<|lp (.bool true) (qbg (q:=true) rfl rfl rfl)<|ln (hK35 _ _ ?_)
 refine Wc.cond_true (rfl) ?_
 refine Wc.seq fun _ hK37=>rg<|lp (.bool false) (qab rfl)<|ln (hK37 _ _ ?_)
 obtain rfl:=os hb
 obtain rfl:=(lX hl0).symm
 replace hb:=hbK0
 obtain rfl:=os hb
 refine Wc.ret (hKR _ _ ?_)
 refine ⟨_,res1 results22 (tV (.bool false) rfl),_,rfl,rfl,hC.sE []⟩
 replace hb:=tf hq36 hb
 refine gp rfl rfl (decide (x29=0)) rfl hq36 (iv x29) (qaa rfl)<|gp rfl rfl (decide (x29=0)) rfl hq36 (.pointer (some ((⟨g3,0,none⟩:Addr).add 0))) (qag (sz:=1) underlying40 rfl sizeOf3 (by decide) rfl e1)<|gv rfl rfl (decide (x29=0)) rfl hq36 (iv c) (qam (hC.bx (i:=0) rfl) isAgg3 rfl rfl) ?_
 obtain ⟨z38,h39,hb⟩:=bd hb
 refine gp rfl rfl (decide (x29=0)) rfl hq36 (iv z38) (pu_negc (a:=c) rfl h39)<|gp rfl rfl (decide (x29=0)) rfl hq36 (.bool (decide (x29≤z38))) (pu_leq (k:=.i64) (a:=x29) (b:=z38) rfl rfl)<|lp (.bool (decide (x29≤z38))) (qbc (q:=(decide (x29=0))) rfl hq36 rfl)<|lp (.bool (decide (x29≤z38))) (qaa rfl) ?_
 rcases bS (decide (x29≤z38)) with hq40 | hq40
 replace hb:=tt hq40 hb
 refine gs rfl rfl (decide (x29≤z38)) rfl hq40<|gs rfl rfl (decide (x29≤z38)) rfl hq40<|gs rfl rfl (decide (x29≤z38)) rfl hq40<|gs rfl rfl (decide (x29≤z38)) rfl hq40<|lp (.bool true) (qbg (q:=(decide (x29≤z38))) rfl hq40 rfl)<|ln (hK35 _ _ ?_)
 refine Wc.cond_true (rfl) ?_
 refine Wc.seq fun _ hK41=>rg<|lp (.bool false) (qab rfl)<|ln (hK41 _ _ ?_)
 obtain rfl:=os hb
 obtain rfl:=(lX hl0).symm
 replace hb:=hbK0
 obtain rfl:=os hb
 refine Wc.ret (hKR _ _ ?_)
 refine ⟨_,res1 results22 (tV (.bool false) rfl),_,rfl,rfl,hC.sE []⟩
 replace hb:=tf hq40 hb
 refine gp rfl rfl (decide (x29≤z38)) rfl hq40 (iv x29) (qaa rfl)<|gp rfl rfl (decide (x29≤z38)) rfl hq40 (.pointer (some ((⟨g3,0,none⟩:Addr).add 0))) (qag (sz:=1) underlying40 rfl sizeOf3 (by decide) rfl e1)<|gv rfl rfl (decide (x29≤z38)) rfl hq40 (iv c) (qam (hC.bx (i:=0) rfl) isAgg3 rfl rfl)<|gp rfl rfl (decide (x29≤z38)) rfl hq40 (.bool (decide (c≤x29))) (pu_geq (k:=.i64) (a:=x29) (b:=c) rfl rfl)<|lp (.bool (decide (c≤x29))) (qbc (q:=(decide (x29≤z38))) rfl hq40 rfl)<|ln (hK35 _ _ ?_)
 refine Wc.cond (t:=(decide (c≤x29))) (rfl) (fun hq42=>?_) (fun hq42=>?_)
 replace hb:=tt hq42 hb
 refine Wc.seq fun _ hK43=>rg<|lp (.bool false) (qab rfl)<|ln (hK43 _ _ ?_)
 obtain rfl:=os hb
 obtain rfl:=(lX hl0).symm
 replace hb:=hbK0
 obtain rfl:=os hb
 refine Wc.ret (hKR _ _ ?_)
 refine ⟨_,res1 results22 (tV (.bool false) rfl),_,rfl,rfl,hC.sE []⟩
 replace hb:=tf hq42 hb
 refine Wc.skip (hK27 _ _ ?_)
 refine rg ?_
 obtain ⟨z44,h45,hb⟩:=bd hb
 refine lp (iv z44) (qal (a:=h) (b:=1) e22 rfl h45)<|lp (iv z44) (qaa rfl)<|ln ?_
 obtain rfl:=os hb
 exact hK19 m20' _ _ (Nat.lt_succ_self _) ⟨z44,e1,e2,e20,e21,rfl,(qai h45),hC.sE [0,1],lN hl0⟩
 replace hb:=tf hq26 hb
 refine Wc.exit rfl ?_
 obtain rfl:=os hb
 obtain rfl:=(lX hl0).symm
 exact hK18 _ _ ⟨h,e2,j,hC.sE [],hbK0⟩
 clear hb hC hl0
 rintro E47 w46 ⟨h,e2,j,hC,hb⟩
 refine hK15 _ _<|Wc.seq fun _ hK48=>rg<|lp (.bool true) (qab rfl)<|ln (hK48 _ _ ?_)
 obtain rfl:=os hb
 refine Wc.ret (hKR _ _ ?_)
 refine ⟨_,res1 results22 (tV (.bool true) rfl),_,rfl,rfl,hC.sE []⟩

theorem slices_Index_Lint_int_ok (n:Nat) {w:World} {O0:List Nat} (hO: ∀k∈O0,k<w.heap.size) {g:Option Addr} {l h:Nat} {d:List Int} (o:Rep O0 w (.sl si) [.slice g l h] d) {f:Int} (p:I64 f) {r:Int} (hb:F.qee n d f=some r):
    Calls prog 47 #[.slice g l h,iv f] w fun e w'=> ∃v,e=.returned v∧v=iv r∧I64 r∧Cx (fun _=>False) O0 w w' []:=by
 unfold F.qee at hb
 have hC:=Cx.start hO
 replace hC:=hC.arg rfl o
 clear hO
 obtain ⟨rfl,q,s⟩:=o.qad
 refine qaq func47 rfl (by rw [ntmps47]; exact nb rfl) fun KR hKR=>?_
 refine Wc.seq fun _ hK2=>rg<|lp (iv 0) (qab rfl)<|ln (hK2 _ _ ?_)
 refine Wc.seq fun _ hK3=>?_
 refine Wc.seq fun _ hK4=>rg<|lp (.slice g d.length h) (qaa rfl)<|lp (iv (d.length:Int)) (qao (A:=g) (n:=d.length) (m:=h) underlying22 rfl)<|lp (iv 0) (qaa rfl)<|ln (hK4 _ _ ?_)
 obtain ⟨o5,hl0,hb⟩:=bd hb
 refine Wc.cut (fun E wv=> ∃(c:Int),E 4=iv 0∧I64 c∧Cx (fun _=>False) O0 w wv []∧(some (-1):Option (Int))=some r) (fun _ hK6=>?_) ?_
 refine Wc.block ?_
 refine Wc.loop (fun m E wv=> ∃(c:Int),E 0=.slice g d.length h∧E 1=iv f∧E 4=iv 0∧E 7=iv (d.length:Int)∧E 8=iv c∧I64 c∧Cx (fun _=>False) O0 w wv [.ro (.sl si) [.slice g d.length h] d]∧loopN m (F.qcf n d f) c=some o5) n ⟨0,rfl,rfl,rfl,rfl,rfl,(show I64 0 from by unfold I64; omega),hC.sE [0],hl0⟩ ?_
 have hbK0:=hb
 clear hb hC hl0
 rintro m8 E10 w9 ⟨c,e0,e1,e4,e7,e8,j,hC,hl0⟩ K7 hK7
 obtain ⟨m8',o11,rfl,hb,hl0⟩:=qan hl0
 unfold F.qcf at hb
 refine Wc.seq fun _ hK12=>rg<|lp _ (qap e8 e7)<|ln (hK12 _ _ ?_)
 refine Wc.seq fun _ hK13=>?_
 refine Wc.cond (t:=(decide (c<(d.length:Int)))) (rfl) (fun hq14=>?_) (fun hq14=>?_)
 replace hb:=tt hq14 hb
 refine Wc.skip (hK13 _ _ ?_)
 refine Wc.seq fun _ hK15=>?_
 refine Wc.block<|Wc.seq fun _ hK16=>rg<|lp _ (qaa e8)<|lp (iv c) (qab rfl)<|ln (hK16 _ _ ?_)
 refine Wc.seq fun _ hK17=>rg<|lp _ (qaa e1)<|lp _ (qaa e0)<|lp (iv c) (qaa rfl) ?_
 obtain ⟨x18,h19,hb⟩:=bd hb
 obtain ⟨ad20,cs21,hA,hc22,hr23⟩:=hC.elr (i:=0) rfl (qac h19).2
 subst hA
 refine lp (.pointer (some (ad20.add (c.toNat*1)))) (qaf (a:=c) underlying22 sizeOf3 rfl rfl (qac h19).1) ?_
 obtain ⟨rfl,hr23'⟩:=hr23
 refine lv (iv x18) (qaj isAgg3 rfl (hc22 0 _ rfl))<|lp (.bool (decide (f=x18))) (qef (k:=.i64) (a:=f) (b:=x18) rfl rfl)<|ln (hK17 _ _ ?_)
 refine Wc.cond (t:=(decide (f=x18))) (rfl) (fun hq24=>?_) (fun hq24=>?_)
 replace hb:=tt hq24 hb
 refine Wc.seq fun _ hK25=>rg<|lp (iv c) (qaa rfl)<|lp (iv c) (qab rfl)<|ln (hK25 _ _ ?_)
 obtain rfl:=os hb
 obtain rfl:=(lX hl0).symm
 replace hb:=hbK0
 obtain rfl:=os hb
 refine Wc.ret (hKR _ _ ?_)
 refine ⟨_,res1 results47 (tV (iv c) rfl),_,rfl,rfl,j,hC.sE []⟩
 replace hb:=tf hq24 hb
 refine Wc.skip (hK15 _ _ ?_)
 refine rg ?_
 obtain ⟨z26,h27,hb⟩:=bd hb
 refine lp (iv z26) (qal (a:=c) (b:=1) e8 rfl h27)<|lp (iv z26) (qaa rfl)<|ln ?_
 obtain rfl:=os hb
 exact hK7 m8' _ _ (Nat.lt_succ_self _) ⟨z26,e0,e1,e4,e7,rfl,(qai h27),hC.sE [0],lN hl0⟩
 replace hb:=tf hq14 hb
 refine Wc.exit rfl ?_
 obtain rfl:=os hb
 obtain rfl:=(lX hl0).symm
 exact hK6 _ _ ⟨c,e4,j,hC.sE [],hbK0⟩
 clear hb hC hl0
 rintro E29 w28 ⟨c,e4,j,hC,hb⟩
 refine hK3 _ _<|Wc.seq fun _ hK30=>rg<|lp (iv (-1)) (qab rfl)<|ln (hK30 _ _ ?_)
 obtain rfl:=os hb
 refine Wc.ret (hKR _ _ ?_)
 refine ⟨_,res1 results47 (tV (iv (-1)) rfl),_,rfl,rfl,(show I64 (-1) from by unfold I64; omega),hC.sE []⟩

def insRen:Go.Shelf.Ren:=⟨fun x=>match x with | 21=>46 | 27=>71 | 28=>72 | 35=>84 | 39=>49 | _=>0,fun x=>match x with | 0=>0 | 3=>3 | 4=>4 | 22=>22 | _=>0,fun _=>0⟩
theorem insLays:Go.Proofs.Lays2.n21 prog insRen where
  mixed:=mixed
  f21:=by kernel_rfl
  f27:=by kernel_rfl
  f28:=by kernel_rfl
  f35:=by kernel_rfl
  f39:=by kernel_rfl
  t0:=underlying0
  a0:=isAgg0
  z0:=sizeOf0
  v0:=zeroValue0
  t3:=underlying3
  a3:=isAgg3
  z3:=sizeOf3
  v3:=zeroValue3
  t4:=underlying4
  a4:=isAgg4
  z4:=sizeOf4
  v4:=zeroValue4
  t22:=underlying22
  a22:=isAgg22
  z22:=sizeOf22
  v22:=zeroValue22
  i3:=by kernel_rfl
theorem slices_Insert_Lint_int_ok (n:Nat) {w:World} {O0:List Nat} (hO: ∀k∈O0,k<w.heap.size) {A0:Option Addr} {m0 c0:Nat} {a:List Int} {b:Int} (d:I64 b) {A2:Option Addr} {m2 c2:Nat} {c:List Int} (hio:Tk O0 w [.own 3 si (.slice A0 m0 c0) a,.own 3 si (.slice A2 m2 c2) c]) {r:List Int} (hb:F.qcm n a b c=some r):
    Calls prog 46 #[.slice A0 m0 c0,iv b,.slice A2 m2 c2] w fun e w'=> ∃v,e=.returned v∧∃(A1:Option Addr) (m1 c1:Nat),v=.slice A1 m1 c1∧Cx (fun k=>k∈blocks [.own 3 si (.slice A0 m0 c0) a,.own 3 si (.slice A2 m2 c2) c]) O0 w w' [.own 3 si (.slice A1 m1 c1) r]:=
  insert_calls insLays hO rfl rfl hio hb

theorem ref01_Ints_ok (n:Nat) {w:World} {O0:List Nat} (hO: ∀k∈O0,k<w.heap.size) {g:Option Addr} {p h:Nat} {d:List Int} (q:Rep O0 w (.sl si) [.slice g p h] d) {j:Option Addr} {s l:Nat} {f:List Int} (u:Rep O0 w (.sl si) [.slice j s l] f) {r:Bool} (hb:F.ref01_Ints n d f=some r):
    Calls prog 25 #[.slice g p h,.slice j s l] w fun e w'=> ∃v,e=.returned v∧v=.bool r∧Cx (fun _=>False) O0 w w' []:=by
 unfold F.ref01_Ints at hb
 have hC:=Cx.start hO
 replace hC:=hC.arg rfl q
 replace hC:=hC.arg rfl u
 clear hO
 obtain ⟨rfl,x,y⟩:=q.qad
 obtain ⟨rfl,z,B⟩:=u.qad
 refine qaq func25 rfl (by rw [ntmps25]; exact nb rfl) fun KR hKR=>?_
 refine Wc.seq fun _ hK3=>rg<|lp (.bool false) (qab rfl)<|ln (hK3 _ _ ?_)
 refine Wc.seq fun _ hK4=>?_
 refine Wc.seq fun _ hK5=>rg<|lp (.slice g d.length h) (qaa rfl)<|lp (iv (d.length:Int)) (qao (A:=g) (n:=d.length) (m:=h) underlying22 rfl)<|lp (.slice j f.length l) (qaa rfl)<|lp (iv (f.length:Int)) (qao (A:=j) (n:=f.length) (m:=l) underlying22 rfl)<|lp (.bool (!(decide ((d.length:Int)=(f.length:Int))))) (pu_neq (k:=.i64) (a:=(d.length:Int)) (b:=(f.length:Int)) rfl rfl)<|ln (hK5 _ _ ?_)
 refine Wc.cond (t:=(!(decide ((d.length:Int)=(f.length:Int))))) (rfl) (fun hq6=>?_) (fun hq6=>?_)
 replace hb:=tt hq6 hb
 refine Wc.seq fun _ hK7=>rg<|lp (.bool false) (qab rfl)<|ln (hK7 _ _ ?_)
 obtain rfl:=os hb
 refine Wc.ret (hKR _ _ ?_)
 refine ⟨_,res1 results25 (tV (.bool false) rfl),_,rfl,rfl,hC.sE []⟩
 replace hb:=tf hq6 hb
 refine Wc.skip (hK4 _ _ ?_)
 refine Wc.seq fun _ hK8=>?_
 refine Wc.seq fun _ hK9=>rg<|lp (iv 0) (qab rfl)<|ln (hK9 _ _ ?_)
 obtain ⟨o10,hl0,hb⟩:=bd hb
 refine Wc.cut (fun E wv=> ∃(c:Int),E 4=.bool false∧I64 c∧Cx (fun _=>False) O0 w wv []∧(some true:Option (Bool))=some r) (fun _ hK11=>?_) ?_
 refine Wc.block ?_
 refine Wc.loop (fun m E wv=> ∃(c:Int),E 0=.slice g d.length h∧E 1=.slice j f.length l∧E 4=.bool false∧E 5=iv c∧I64 c∧Cx (fun _=>False) O0 w wv [.ro (.sl si) [.slice g d.length h] d,.ro (.sl si) [.slice j f.length l] f]∧loopN m (F.ref01_Ints_b0 n d f) c=some o10) n ⟨0,rfl,rfl,rfl,rfl,(show I64 0 from by unfold I64; omega),hC.sE [1,0],hl0⟩ ?_
 have hbK0:=hb
 clear hb hC hl0
 rintro m13 E15 w14 ⟨c,e0,e1,e4,e5,o,hC,hl0⟩ K12 hK12
 obtain ⟨m13',o16,rfl,hb,hl0⟩:=qan hl0
 unfold F.ref01_Ints_b0 at hb
 refine Wc.seq fun _ hK17=>?_
 refine Wc.seq fun _ hK18=>rg<|lp _ (qaa e5)<|lp _ (qaa e0)<|lp (iv (d.length:Int)) (qao (A:=g) (n:=d.length) (m:=h) underlying22 rfl)<|lp (.bool (decide (c<(d.length:Int)))) (qap (k:=.i64) (a:=c) (b:=(d.length:Int)) rfl rfl)<|ln (hK18 _ _ ?_)
 refine Wc.cond (t:=(decide (c<(d.length:Int)))) (rfl) (fun hq19=>?_) (fun hq19=>?_)
 replace hb:=tt hq19 hb
 refine Wc.skip (hK17 _ _ ?_)
 refine Wc.seq fun _ hK20=>?_
 refine Wc.block ?_
 refine Wc.seq fun _ hK21=>?_
 refine Wc.regionMix [] (frm [] ([]:List Fact) ([]:List Fact)) (fun _=>rfl) mixed (by decide+kernel) (by decide+kernel) fun w23 hw22=>?_
 replace hC:=hC.step (Fr.qbb hw22)
 have hM:=Fr.refl (fun k=>k∈blocks ([]:List Fact)) w23
 clear hw22
 have hS:=hC
 refine mp (.slice g d.length h) (qaa e0)<|mp (iv c) (qaa e5) ?_
 obtain ⟨x24,h25,hb⟩:=bd hb
 obtain ⟨ad26,cs27,hA,ho30,hc28,hr29⟩:=hS.elr2 (i:=0) rfl (qac h25).2 []
 subst hA
 refine mp (.pointer (some (ad26.add (c.toNat*1)))) (qaf (a:=c) underlying22 sizeOf3 rfl rfl (qac h25).1) ?_
 obtain ⟨rfl,hr29'⟩:=hr29
 refine mixE.load hM (v:=iv x24) (fun _ hF=>qaj isAgg3 rfl (hF.cell (hc28 0 _ rfl) (off1 ho30)))<|mp (.slice j f.length l) (qaa e1)<|mp (iv c) (qaa e5) ?_
 obtain ⟨x31,h32,hb⟩:=bd hb
 obtain ⟨ad33,cs34,hA,ho37,hc35,hr36⟩:=hS.elr2 (i:=1) rfl (qac h32).2 []
 subst hA
 refine mp (.pointer (some (ad33.add (c.toNat*1)))) (qaf (a:=c) underlying22 sizeOf3 rfl rfl (qac h32).1) ?_
 obtain ⟨rfl,hr36'⟩:=hr36
 refine mixE.load hM (v:=iv x31) (fun _ hF=>qaj isAgg3 rfl (hF.cell (hc35 0 _ rfl) (off1 ho37)))<|mp (.bool (!(decide (x24=x31)))) (pu_neq (k:=.i64) (a:=x24) (b:=x31) rfl rfl)<|mixE.nil ?_
 clear hS hM
 refine hK21 _ _<|Wc.cond (t:=(!(decide (x24=x31)))) (rfl) (fun hq38=>?_) (fun hq38=>?_)
 replace hb:=tt hq38 hb
 refine Wc.seq fun _ hK39=>rg<|lp (.bool false) (qab rfl)<|ln (hK39 _ _ ?_)
 obtain rfl:=os hb
 obtain rfl:=(lX hl0).symm
 replace hb:=hbK0
 obtain rfl:=os hb
 refine Wc.ret (hKR _ _ ?_)
 refine ⟨_,res1 results25 (tV (.bool false) rfl),_,rfl,rfl,hC.sE []⟩
 replace hb:=tf hq38 hb
 refine Wc.skip (hK20 _ _ ?_)
 refine rg<|lp _ (qaa e5) ?_
 obtain ⟨z40,h41,hb⟩:=bd hb
 refine lp (iv z40) (qal (a:=c) (b:=1) rfl rfl h41)<|lp (iv z40) (qab rfl)<|ln ?_
 obtain rfl:=os hb
 exact hK12 m13' _ _ (Nat.lt_succ_self _) ⟨z40,e0,e1,e4,rfl,(qai h41),hC.sE [0,1],lN hl0⟩
 replace hb:=tf hq19 hb
 refine Wc.exit rfl ?_
 obtain rfl:=os hb
 obtain rfl:=(lX hl0).symm
 exact hK11 _ _ ⟨c,e4,o,hC.sE [],hbK0⟩
 clear hb hC hl0
 rintro E43 w42 ⟨c,e4,o,hC,hb⟩
 refine hK8 _ _<|Wc.seq fun _ hK44=>rg<|lp (.bool true) (qab rfl)<|ln (hK44 _ _ ?_)
 obtain rfl:=os hb
 refine Wc.ret (hKR _ _ ?_)
 refine ⟨_,res1 results25 (tV (.bool true) rfl),_,rfl,rfl,hC.sE []⟩
