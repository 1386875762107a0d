import Derived.Test.YtlkmcbgkohpmiaaS
import Derived.Test.YtlkmcbgkohpmiaaG0
import Derived.Test.YtlkmcbgkohpmiaaG1
set_option linter.all false
namespace Go.Proofs.Ytlkmcbgkohpmiaa
open Ev Try
set_option maxRecDepth 100000
set_option maxHeartbeats 4000000
theorem artin_Images_ok (n:Nat) {w:World} {O0:List Nat} (hO: ∀k∈O0,k<w.heap.size) {c:Int} (x:I64 c) {g:Option Addr} {y h:Nat} {j:List Int} (z:Rep O0 w (.sl si) [.slice g y h] j) {r:(List (List Int))×Int} (hb:F.qen n c j=some r):
    Calls prog 17 #[.agg #[iv c,.slice g y h]] w fun e w'=> ∃v,e=.returned v∧∃(A0:Option Addr) (m0 c0:Nat),v=.tuple #[.slice A0 m0 c0,iv r.2]∧I64 r.2∧Cx (fun _=>False) O0 w w' [.own 27 (.sl si) (.slice A0 m0 c0) r.1]:=by
 unfold F.qen at hb
 have hC:=Cx.start hO
 replace hC:=hC.arg rfl z
 clear hO
 obtain ⟨rfl,C,D⟩:=z.qaf
 refine qao func17 rfl (by rw [ntmps17]; exact nb rfl) fun KR hKR=>?_
 refine Wc.seq fun _ hK2=>rg<|lex.op (hC.box (cs:=[iv c,.slice g j.length h]) rfl rfl) ?_
 rintro _ w4 ⟨g3,rfl,hC,hF,-⟩
 refine lp (.slice none 0 0) (qab rfl)<|lp (iv 0) (qab rfl)<|ln (hK2 _ _ ?_)
 refine Wc.seq fun _ hK6=>?_
 refine Wc.seq fun _ hK7=>rg<|lv (.agg #[iv c,.slice g j.length h]) (qbm (hC.bx (i:=0) rfl) isAgg24 sizeOf24 rfl) ?_
 obtain ⟨y8,h9,hb⟩:=bd hb
 refine lex.cl (⟨_,_,qas (vs:=[.agg #[iv c,.slice g j.length h]]) call16 rfl rfl rfl,qhc n hC.lt x (hC.rd (i:=1) rfl) h9⟩) ?_
 rintro _ w10 ⟨rfl,hK⟩
 replace hC:=hC.merge hK
 clear hK
 refine lp (.bool (!y8)) (qcd (q:=y8) rfl)<|ln (hK7 _ _ ?_)
 refine Wc.cond (t:=(!y8)) (rfl) (fun hq11=>?_) (fun hq11=>?_)
 replace hb:=tt hq11 hb
 refine Wc.seq fun _ hK12=>rg<|lp (.slice none 0 0) (qab rfl)<|lp (iv 1) (qab rfl)<|ln (hK12 _ _ ?_)
 replace hC:=hC.nil 27 (.sl si)
 obtain rfl:=os hb
 refine Wc.ret (hKR _ _ ?_)
 refine ⟨_,res2 results17 (tV (.slice none 0 0) rfl) (tV (iv 1) rfl),_,rfl,none,0,0,rfl,(show I64 1 from by unfold I64; omega),hC.sE [0]⟩
 replace hb:=tf hq11 hb
 refine Wc.skip (hK6 _ _ ?_)
 refine Wc.seq fun _ hK14=>rg<|lp (.slice none 0 0) (qab rfl)<|ln (hK14 _ _ ?_)
 refine Wc.seq fun _ hK15=>?_
 refine Wc.seq fun _ hK16=>rg<|lp (.pointer (some ((⟨g3,0,none⟩:Addr).add 0))) (qal (sz:=1) underlying24 rfl sizeOf3 (by decide) rfl rfl)<|lv (iv c) (qar (hC.bx (i:=0) rfl) isAgg3 rfl rfl)<|lp (iv 0) (qaa rfl)<|ln (hK16 _ _ ?_)
 refine Wc.fresh fun E17 hE=>?_
 have e1:E17 1=pg g3:=cg hE 1 rfl
 have e2:E17 2=.slice none 0 0:=cg hE 2 rfl
 have e3:E17 3=iv 0:=cg hE 3 rfl
 have e4:E17 4=.slice none 0 0:=cg hE 4 rfl
 have e12:E17 12=iv c:=cg hE 12 rfl
 have e13:E17 13=iv 0:=cg hE 13 rfl
 clear hE
 replace hC:=hC.nil 27 (.sl si)
 obtain ⟨o19,hl0,hb⟩:=bd hb
 refine Wc.cut (fun E wv=> ∃(f:List (List Int)) (d:Int) (l:Option Addr) (p o:Nat),E 2=.slice none 0 0∧E 3=iv 0∧E 4=.slice l p o∧I64 d∧Cx (fun _=>False) O0 w wv [.own 27 (.sl si) (.slice l p o) f]∧(some (f,0):Option ((List (List Int))×Int))=some r) (fun _ hK20=>?_) ?_
 refine Wc.block ?_
 refine Wc.loop (fun m E wv=> ∃(f:List (List Int)) (d:Int) (l:Option Addr) (p o:Nat),E 1=pg g3∧E 2=.slice none 0 0∧E 3=iv 0∧E 4=.slice l p o∧E 12=iv c∧E 13=iv d∧I64 d∧Cx (fun _=>False) O0 w wv [.box g3 24 [iv c,.slice g j.length h],.ro (.sl si) [.slice g j.length h] j,.own 27 (.sl si) (.slice l p o) f]∧loopN m (F.qes n c j) (f,d)=some o19) n ⟨([]:List (List Int)),0,none,0,0,e1,e2,e3,e4,e12,e13,(show I64 0 from by unfold I64; omega),hC.sE [1,2,0],hl0⟩ ?_
 have hbK0:=hb
 clear hb hC hl0
 rintro m22 E24 w23 ⟨f,d,l,p,o,e1,e2,e3,e4,e12,e13,u,hC,hl0⟩ K21 hK21
 obtain ⟨m22',o25,rfl,hb,hl0⟩:=qam hl0
 unfold F.qes at hb
 obtain ⟨rfl,A,B⟩:=(hC.ow (i:=2) rfl).qaf
 refine Wc.seq fun _ hK26=>rg<|lp _ (qau e13 e12)<|ln (hK26 _ _ ?_)
 refine Wc.seq fun _ hK27=>?_
 refine Wc.cond (t:=(decide (d<c))) (rfl) (fun hq28=>?_) (fun hq28=>?_)
 replace hb:=tt hq28 hb
 refine Wc.skip (hK27 _ _ ?_)
 refine Wc.seq fun _ hK29=>?_
 refine Wc.block<|Wc.seq fun _ hK30=>rg<|lp _ (qaa e13)<|lp (iv d) (qab rfl)<|ln (hK30 _ _ ?_)
 refine Wc.seq fun _ hK31=>rg<|lv (.agg #[iv c,.slice g j.length h]) (qbm (hC.bx (i:=0) rfl) isAgg24 sizeOf24 e1)<|lp (iv d) (qaa rfl) ?_
 obtain ⟨z32,h33,hb⟩:=bd hb
 refine lp (iv z32) (qak (a:=d) (b:=1) rfl rfl h33)<|lex.op (hC.lit (s:=si) (vs:=[iv z32]) (xs:=[z32]) underlying27 type3 rfl rfl (nb rfl) rfl rfl (by simp [Value.cells,Sh.n]) rfl (show Elems _ _ si ([iv z32]++([])) ([z32]:List Int) from Elems.cons (⟨rfl,I64.wr (qai h33)⟩) (Elems.nil _ _ _))) ?_
 rintro _ w38 ⟨A34,c35,rfl,hl36,hc37,hC,-,-⟩
 obtain ⟨y40,h41,hb⟩:=bd hb
 refine lex.cl (⟨_,_,qas (vs:=[.agg #[iv c,.slice g j.length h],.slice A34 ((([z32]:List Int)).length) c35]) call11 rfl rfl rfl,artin_Act_ok n (hC.lentLt [.slice A34 ((([z32]:List Int)).length) c35]) x ((hC.rd (i:=2) rfl).lent [.slice A34 ((([z32]:List Int)).length) c35]) ((hC.ow (i:=0) rfl).lend (vs:=[.slice A34 ((([z32]:List Int)).length) c35]) (by simp)) h41⟩) ?_
 rintro _ w47 ⟨A42,m43,c44,rfl,hr46,hK⟩
 replace hC:=hC.mergeF hK rfl
 clear hK
 obtain ⟨rfl,hl48,hc49⟩:=(hC.ow (i:=0) rfl).qaf
 refine lp (.tuple #[.slice A42 y40.1.length c44,iv y40.2]) (qaa rfl)<|lp (.slice A42 y40.1.length c44) (qaz rfl rfl)<|lp (iv y40.2) (qaz rfl rfl)<|lp (.slice A42 y40.1.length c44) (qab rfl)<|lp (iv y40.2) (qab rfl)<|ln (hK31 _ _ ?_)
 refine Wc.fresh fun E50 hE=>?_
 have e1:=cg hE 1 e1
 have e2:=cg hE 2 e2
 have e3:=cg hE 3 e3
 have e4:=cg hE 4 e4
 have e5:E50 5=iv d:=cg hE 5 rfl
 have e6:E50 6=.slice A42 y40.1.length c44:=cg hE 6 rfl
 have e7:E50 7=iv y40.2:=cg hE 7 rfl
 have e12:=cg hE 12 e12
 have e13:=cg hE 13 e13
 have e14:E50 14=.bool (decide (d<c)):=cg hE 14 rfl
 clear hE
 refine Wc.seq fun _ hK51=>?_
 refine Wc.seq fun _ hK52=>rg<|lp _ (qaa e7)<|lp (.bool (!(decide (y40.2=0)))) (qbv (k:=.i64) (a:=y40.2) (b:=0) rfl rfl)<|ln (hK52 _ _ ?_)
 refine Wc.cond (t:=(!(decide (y40.2=0)))) (rfl) (fun hq53=>?_) (fun hq53=>?_)
 replace hb:=tt hq53 hb
 refine Wc.seq fun _ hK54=>rg<|lp _ (qaa e7)<|lp (.slice none 0 0) (qab rfl)<|lp (iv y40.2) (qab rfl)<|ln (hK54 _ _ ?_)
 obtain rfl:=os hb
 obtain rfl:=(lX hl0).symm
 replace hb:=hbK0
 replace hC:=hC.nil 27 (.sl si)
 obtain rfl:=os hb
 refine Wc.ret (hKR _ _ ?_)
 refine ⟨_,res2 results17 (tV (.slice none 0 0) rfl) (tV (iv y40.2) rfl),_,rfl,none,0,0,rfl,hr46,hC.sE [0]⟩
 replace hb:=tf hq53 hb
 refine Wc.skip (hK51 _ _ ?_)
 refine rg<|lp _ (qaa e4)<|lp _ (qaa e6) ?_
 replace hC:=hC.freeze (i:=0) rfl (hC.qdh (i:=0) rfl)
 refine lex.op (hC.lit (s:=(.sl si)) (vs:=[.slice A42 y40.1.length c44]) (xs:=[y40.1]) underlying37 type27 rfl rfl (nb rfl) rfl rfl (by simp [Value.cells,Sh.n]) rfl (show Elems _ _ (.sl si) ([.slice A42 y40.1.length c44]++([])) ([y40.1]:List (List Int)) from Elems.cons (hC.rd (i:=0) rfl) (Elems.nil _ _ _))) ?_
 rintro _ w60 ⟨A56,c57,rfl,hl58,hc59,hC,-,-⟩
 obtain ⟨u62,h63,hb⟩:=bd hb
 refine lex.op (hC.app (i:=5) (s:=(.sl si)) (xs:=f) (ys:=([y40.1]:List (List Int))) (m:=((([y40.1]:List (List Int))).length)) rfl underlying37 underlying37 type27 rfl rfl rfl (hC.srco (i:=0) rfl) rfl rfl (by have:=qbn h63; simp at this⊢ <;>omega) (by decide)) ?_
 rintro _ w68 ⟨A64,c65,rfl,hl66,hc67,hC,-,-⟩
 refine lp (.slice A64 ((f++([y40.1]:List (List Int))).length) c65) (qab rfl)<|ln (hK29 _ _ ?_)
 refine rg ?_
 obtain ⟨z69,h70,hb⟩:=bd hb
 refine lp (iv z69) (qak (a:=d) (b:=1) e13 rfl h70)<|lp (iv z69) (qaa rfl)<|ln ?_
 obtain rfl:=os hb
 exact hK21 m22' _ _ (Nat.lt_succ_self _) ⟨(f++([y40.1]:List (List Int))),z69,A64,(f++([y40.1]:List (List Int))).length,c65,e1,e2,e3,rfl,e12,rfl,(qai h70),hC.sE [3,4,5],lN hl0⟩
 replace hb:=tf hq28 hb
 refine Wc.exit rfl ?_
 obtain rfl:=os hb
 obtain rfl:=(lX hl0).symm
 exact hK20 _ _ ⟨f,d,l,f.length,o,e2,e3,e4,u,hC.sE [2],hbK0⟩
 clear hb hC hl0
 rintro E72 w71 ⟨f,d,l,p,o,e2,e3,e4,u,hC,hb⟩
 obtain ⟨rfl,A,B⟩:=(hC.ow (i:=0) rfl).qaf
 refine hK15 _ _<|Wc.seq fun _ hK73=>rg<|lp _ (qaa e4)<|lp (.slice l f.length o) (qab rfl)<|lp (iv 0) (qab rfl)<|ln (hK73 _ _ ?_)
 obtain rfl:=os hb
 refine Wc.ret (hKR _ _ ?_)
 refine ⟨_,res2 results17 (tV (.slice l f.length o) rfl) (tV (iv 0) rfl),_,rfl,l,f.length,o,rfl,(show I64 0 from by unfold I64; omega),hC.sE [0]⟩

theorem qhb (n:Nat) {w:World} {O0:List Nat} (hO: ∀k∈O0,k<w.heap.size) {c:Int} (d:I64 c) {r:Int} (hb:F.qct n c=some r):
    Calls prog 41 #[iv c] w fun e w'=> ∃v,e=.returned v∧v=iv r∧I64 r∧Cx (fun _=>False) O0 w w' []:=by
 unfold F.qct at hb
 have hC:=Cx.start hO
 clear hO
 refine qao func41 rfl (by rw [ntmps41]; exact nb rfl) fun KR hKR=>?_
 refine Wc.seq fun _ hK1=>rg<|lp (iv 0) (qab rfl)<|ln (hK1 _ _ ?_)
 refine Wc.seq fun _ hK2=>rg<|lp (iv c) (qaa rfl)<|lp (iv c) (qaa rfl) ?_
 obtain ⟨z3,h4,hb⟩:=bd hb
 refine lp (iv z3) (qbx (a:=c) rfl h4)<|lp (iv (max c z3)) (pu_max (a:=c) (b:=z3) rfl rfl)<|lp (iv (max c z3)) (qab rfl)<|ln (hK2 _ _ ?_)
 obtain rfl:=os hb
 refine Wc.ret (hKR _ _ ?_)
 refine ⟨_,res1 results41 (tV (iv (max c z3)) rfl),_,rfl,rfl,(I64.max d (qai h4)),hC.sE []⟩

theorem braid_Perm_ok (n:Nat) {w:World} {O0:List Nat} (hO: ∀k∈O0,k<w.heap.size) {c:Int} (D:I64 c) {g:Option Addr} {B h:Nat} {d:List Int} (C:Rep O0 w (.sl si) [.slice g B h] d) {r:(List Int)} (hb:F.braid_Perm n c d=some r):
    Calls prog 23 #[.agg #[iv c,.slice g B h]] w fun e w'=> ∃v,e=.returned v∧∃(A0:Option Addr) (m0 c0:Nat),v=.slice A0 m0 c0∧Cx (fun _=>False) O0 w w' [.own 3 si (.slice A0 m0 c0) r]:=by
 unfold F.braid_Perm at hb
 have hC:=Cx.start hO
 replace hC:=hC.arg rfl C
 clear hO
 obtain ⟨rfl,G,H⟩:=C.qaf
 refine qao func23 rfl (by rw [ntmps23]; exact nb rfl) fun KR hKR=>?_
 refine Wc.seq fun _ hK2=>rg<|lex.op (hC.box (cs:=[iv c,.slice g d.length h]) rfl rfl) ?_
 rintro _ w4 ⟨g3,rfl,hC,hF,-⟩
 refine lp (.slice none 0 0) (qab rfl)<|ln (hK2 _ _ ?_)
 refine Wc.seq fun _ hK6=>?_
 refine Wc.seq fun _ hK7=>rg<|lv (.agg #[iv c,.slice g d.length h]) (qbm (hC.bx (i:=0) rfl) isAgg24 sizeOf24 rfl) ?_
 obtain ⟨y8,h9,hb⟩:=bd hb
 refine lex.cl (⟨_,_,qas (vs:=[.agg #[iv c,.slice g d.length h]]) call16 rfl rfl rfl,qhc n hC.lt D (hC.rd (i:=1) rfl) h9⟩) ?_
 rintro _ w10 ⟨rfl,hK⟩
 replace hC:=hC.merge hK
 clear hK
 refine lp (.bool (!y8)) (qcd (q:=y8) rfl)<|ln (hK7 _ _ ?_)
 refine Wc.cond (t:=(!y8)) (rfl) (fun hq11=>?_) (fun hq11=>?_)
 replace hb:=tt hq11 hb
 refine Wc.seq fun _ hK12=>rg<|lp (.slice none 0 0) (qab rfl)<|ln (hK12 _ _ ?_)
 replace hC:=hC.nil 3 si
 obtain rfl:=os hb
 refine Wc.ret (hKR _ _ ?_)
 refine ⟨_,res1 results23 (tV (.slice none 0 0) rfl),_,rfl,none,0,0,rfl,hC.sE [0]⟩
 replace hb:=tf hq11 hb
 refine Wc.skip (hK6 _ _ ?_)
 refine Wc.seq fun _ hK14=>rg<|lp (.pointer (some ((⟨g3,0,none⟩:Addr).add 0))) (qal (sz:=1) underlying24 rfl sizeOf3 (by decide) rfl rfl)<|lv (iv c) (qar (hC.bx (i:=0) rfl) isAgg3 rfl rfl) ?_
 obtain ⟨u15,h16,hb⟩:=bd hb
 refine lex.op (hC.make (s:=si) (n:=c) underlying22 type3 rfl rfl rfl rfl rfl (qae h16).1 (qae h16).2 (by decide)) ?_
 rintro _ w21 ⟨A17,c18,rfl,hl19,hc20,hC,-,-⟩
 refine lp (.slice A17 (((rZ c)).length) c18) (qab rfl)<|ln (hK14 _ _ ?_)
 refine Wc.seq fun _ hK23=>?_
 refine Wc.seq fun _ hK24=>rg<|lp (.slice A17 (((rZ c)).length) c18) (qaa rfl)<|lp (iv (((rZ c)).length:Int)) (qan (A:=A17) (n:=((rZ c)).length) (m:=c18) underlying22 rfl)<|lp (iv 0) (qaa rfl)<|ln (hK24 _ _ ?_)
 refine Wc.fresh fun E25 hE=>?_
 have e1:E25 1=pg g3:=cg hE 1 rfl
 have e2:E25 2=.slice none 0 0:=cg hE 2 rfl
 have e3:E25 3=.slice A17 (((rZ c)).length) c18:=cg hE 3 rfl
 have e18:E25 18=iv (((rZ c)).length:Int):=cg hE 18 rfl
 have e19:E25 19=iv 0:=cg hE 19 rfl
 clear hE
 obtain ⟨o26,hl0,f26,hf26,hb⟩:=bn hb
 refine Wc.cut (fun E wv=> ∃(f:Int) (u:List Int),E 1=pg g3∧E 2=.slice none 0 0∧E 3=.slice A17 (((rZ c)).length) c18∧I64 f∧Cx (fun _=>False) O0 w wv [.box g3 24 [iv c,.slice g d.length h],.ro (.sl si) [.slice g d.length h] d,.own 3 si (.slice A17 (((rZ c)).length) c18) u]∧f26 (f,u)=some r) (fun _ hK27=>?_) ?_
 refine Wc.block ?_
 refine Wc.loop (fun m E wv=> ∃(f:Int) (u:List Int),E 1=pg g3∧E 2=.slice none 0 0∧E 3=.slice A17 (((rZ c)).length) c18∧E 18=iv (((rZ c)).length:Int)∧E 19=iv f∧I64 f∧Cx (fun _=>False) O0 w wv [.box g3 24 [iv c,.slice g d.length h],.ro (.sl si) [.slice g d.length h] d,.own 3 si (.slice A17 (((rZ c)).length) c18) u]∧loopN m (F.qeu n c) (f,u)=some o26) n ⟨0,(rZ c),e1,e2,e3,e18,e19,(show I64 0 from by unfold I64; omega),hC.sE [1,2,0],hl0⟩ ?_
 have hbK0:=hb
 clear hb hC hl0
 rintro m29 E31 w30 ⟨f,u,e1,e2,e3,e18,e19,x,hC,hl0⟩ K28 hK28
 obtain ⟨m29',o32,rfl,hb,hl0⟩:=qam hl0
 unfold F.qeu at hb
 refine Wc.seq fun _ hK33=>rg<|lp _ (qau e19 e18)<|ln (hK33 _ _ ?_)
 refine Wc.seq fun _ hK34=>?_
 refine Wc.cond (t:=(decide (f<(((rZ c)).length:Int)))) (rfl) (fun hq35=>?_) (fun hq35=>?_)
 replace hb:=tt hq35 hb
 refine Wc.skip (hK34 _ _ ?_)
 refine Wc.seq fun _ hK36=>?_
 refine Wc.block<|Wc.seq fun _ hK37=>rg<|lp _ (qaa e19)<|lp (iv f) (qab rfl)<|ln (hK37 _ _ ?_)
 refine rg<|lp _ (qaa e3)<|lp (iv f) (qaa rfl)<|lp (iv f) (qaa rfl) ?_
 obtain ⟨x38,h39,hb⟩:=bd hb
 obtain ⟨ad40,cs41,hA,hc42,hr43⟩:=hC.elo (i:=2) rfl (qac h39).2
 subst hA
 refine lp (.pointer (some (ad40.add (f.toNat*1)))) (qag (a:=f) underlying22 sizeOf3 rfl rfl (by rw [(hC.ow (i:=2) rfl).qaf.1]; exact (qac h39).1))<|lex.sk (hC.put (i:=2) rfl rfl sizeOf3 (k:=f.toNat) (a:=f) (by have:=(qac h39).1; simp at this⊢; omega) (⟨rfl,I64.wr x⟩) rfl rfl rfl) ?_
 rintro w44 ⟨hC,hF⟩
 refine ln (hK36 _ _ ?_)
 refine rg ?_
 obtain ⟨z45,h46,hb⟩:=bd hb
 refine lp (iv z45) (qak (a:=f) (b:=1) e19 rfl h46)<|lp (iv z45) (qaa rfl)<|ln ?_
 obtain rfl:=os hb
 exact hK28 m29' _ _ (Nat.lt_succ_self _) ⟨z45,(u.set f.toNat f),e1,e2,e3,e18,rfl,(qai h46),hC.sE [0,1,2],lN hl0⟩
 replace hb:=tf hq35 hb
 refine Wc.exit rfl ?_
 obtain rfl:=os hb
 obtain rfl:=(lX hl0).symm
 exact hK27 _ _ ⟨f,u,e1,e2,e3,x,hC.sE [0,1,2],hbK0⟩
 clear hb hC hl0
 rintro E48 w47 ⟨f,u,e1,e2,e3,x,hC,hb⟩
 subst hf26
 refine hK23 _ _ ?_
 refine Wc.seq fun _ hK49=>?_
 refine Wc.seq fun _ hK50=>rg<|lp (.pointer (some ((⟨g3,0,none⟩:Addr).add 1))) (qal (sz:=1) underlying24 rfl sizeOf22 (by decide) rfl e1)<|lv (.slice g d.length h) (qar (hC.bx (i:=0) rfl) isAgg22 rfl rfl)<|lp (iv (d.length:Int)) (qan (A:=g) (n:=d.length) (m:=h) underlying22 rfl)<|lp (iv 0) (qaa rfl)<|ln (hK50 _ _ ?_)
 obtain ⟨o51,hl1,f51,hf51,hb⟩:=bn hb
 refine Wc.cut (fun E wv=> ∃(o:Int) (j:List Int),E 1=pg g3∧E 2=.slice none 0 0∧E 3=.slice A17 (((rZ c)).length) c18∧I64 o∧Cx (fun _=>False) O0 w wv [.box g3 24 [iv c,.slice g d.length h],.ro (.sl si) [.slice g d.length h] d,.own 3 si (.slice A17 (((rZ c)).length) c18) j]∧f51 (o,j)=some r) (fun _ hK52=>?_) ?_
 refine Wc.block ?_
 refine Wc.loop (fun m E wv=> ∃(o:Int) (j:List Int),E 1=pg g3∧E 2=.slice none 0 0∧E 3=.slice A17 (((rZ c)).length) c18∧E 28=.slice g d.length h∧E 29=iv (d.length:Int)∧E 30=iv o∧I64 o∧Cx (fun _=>False) O0 w wv [.box g3 24 [iv c,.slice g d.length h],.ro (.sl si) [.slice g d.length h] d,.own 3 si (.slice A17 (((rZ c)).length) c18) j]∧loopN m (F.qcv n d) (o,j)=some o51) n ⟨0,u,e1,e2,e3,rfl,rfl,rfl,(show I64 0 from by unfold I64; omega),hC.sE [0,1,2],hl1⟩ ?_
 have hbK1:=hb
 clear hb hC hl1
 rintro m54 E56 w55 ⟨o,j,e1,e2,e3,e28,e29,e30,z,hC,hl1⟩ K53 hK53
 obtain ⟨m54',o57,rfl,hb,hl1⟩:=qam hl1
 unfold F.qcv at hb
 refine Wc.seq fun _ hK58=>rg<|lp _ (qau e30 e29)<|ln (hK58 _ _ ?_)
 refine Wc.seq fun _ hK59=>?_
 refine Wc.cond (t:=(decide (o<(d.length:Int)))) (rfl) (fun hq60=>?_) (fun hq60=>?_)
 replace hb:=tt hq60 hb
 refine Wc.skip (hK59 _ _ ?_)
 refine Wc.seq fun _ hK61=>?_
 refine Wc.block<|Wc.seq fun _ hK62=>rg ?_
 obtain ⟨x63,h64,hb⟩:=bd hb
 obtain ⟨ad65,cs66,hA,hc67,hr68⟩:=hC.elr (i:=1) rfl (qac h64).2
 subst hA
 refine lp (.pointer (some (ad65.add (o.toNat*1)))) (qag (a:=o) underlying22 sizeOf3 e28 e30 (qac h64).1) ?_
 obtain ⟨rfl,hr68'⟩:=hr68
 refine lv (iv x63) (qah isAgg3 rfl (hc67 0 _ rfl))<|lp (iv x63) (qab rfl)<|ln (hK62 _ _ ?_)
 refine Wc.seq fun _ hK69=>rg<|lp (iv x63) (qaa rfl) ?_
 obtain ⟨y70,h71,hb⟩:=bd hb
 refine lex.cl (⟨_,_,qas (vs:=[iv x63]) call41 rfl rfl rfl,qhb n hC.lt (qbl hr68') h71⟩) ?_
 rintro _ w73 ⟨rfl,hr72,hK⟩
 replace hC:=hC.merge hK
 clear hK
 refine lp (iv y70) (qab rfl)<|ln (hK69 _ _ ?_)
 refine Wc.regionMix [] (frm [] ([]:List Fact) [.own 3 si (.slice A17 (((rZ c)).length) c18) j]) (fun _=>rfl) mixed (by decide+kernel) (by decide+kernel) fun w75 hw74=>?_
 replace hC:=hC.step (Fr.qbh hw74)
 have hM:=Fr.refl (fun k=>k∈blocks ([]:List Fact)) w75
 clear hw74
 have hS:=hC
 have hD:Fr (fun k=>k∈blocks (([]:List Fact)++[.own 3 si (.slice A17 (((rZ c)).length) c18) j])) w75 w75:=hM.wide
 have hUf22:Beside (([]:List Fact)++[.own 3 si (.slice A17 (((rZ c)).length) c18) j]) w75 (.slice A17 (((rZ c)).length) c18):=Beside.of (i:=0) rfl
 refine mp (.slice A17 (((rZ c)).length) c18) (qaa e3)<|mp (iv y70) (qaa rfl) ?_
 obtain ⟨z76,h77,hb⟩:=bd hb
 refine mp (iv z76) (qbu (a:=y70) (b:=1) rfl rfl h77)<|mp (.slice A17 (((rZ c)).length) c18) (qaa e3)<|mp (iv y70) (qaa rfl)<|mp (.slice A17 (((rZ c)).length) c18) (qaa e3)<|mp (iv y70) (qaa rfl) ?_
 obtain ⟨x78,h79,hb⟩:=bd hb
 obtain ⟨ad80,cs81,hA,ho84,hc82,hr83⟩:=hS.elo2 (i:=2) rfl (qac h79).2 [] (by decide)
 subst hA
 refine mp (.pointer (some (ad80.add (y70.toNat*1)))) (qag (a:=y70) underlying22 sizeOf3 rfl rfl (by rw [(hC.ow (i:=2) rfl).qaf.1]; exact (qac h79).1)) ?_
 obtain ⟨rfl,hr83'⟩:=hr83
 refine mixE.load hM (v:=iv x78) (fun _ hF=>qah isAgg3 rfl (hF.cell (hc82 0 _ rfl) (off1 ho84)))<|mp (.slice (some ad80) (((rZ c)).length) c18) (qaa e3)<|mp (iv y70) (qaa rfl) ?_
 obtain ⟨z85,h86,hb⟩:=bd hb
 refine mp (iv z85) (qbu (a:=y70) (b:=1) rfl rfl h86) ?_
 obtain ⟨x87,h88,hb⟩:=bd hb
 obtain ⟨ad89,cs90,hA,ho93,hc91,hr92⟩:=hS.elo2 (i:=2) rfl (qac h88).2 [] (by decide)
 obtain rfl:=Option.some.inj hA
 refine mp (.pointer (some (ad80.add (z85.toNat*1)))) (qag (a:=z85) underlying22 sizeOf3 rfl rfl (by rw [(hC.ow (i:=2) rfl).qaf.1]; exact (qac h88).1)) ?_
 obtain ⟨rfl,hr92'⟩:=hr92
 refine mixE.load hM (v:=iv x87) (fun _ hF=>qah isAgg3 rfl (hF.cell (hc91 0 _ rfl) (off1 ho93))) ?_
 obtain ⟨x94,h95,hb⟩:=bd hb
 obtain ⟨ad96,cs97,hA,ho100,hc98,hr99⟩:=hS.elo2 (i:=2) rfl (qac h95).2 [] (by decide)
 obtain rfl:=Option.some.inj hA
 refine mp (.pointer (some (ad80.add (z76.toNat*1)))) (qag (a:=z76) underlying22 sizeOf3 rfl rfl (by rw [(hC.ow (i:=2) rfl).qaf.1]; exact (qac h95).1))<|mixE.sk hD (hC.put (i:=2) rfl rfl sizeOf3 (k:=z76.toNat) (a:=x78) (by have:=(qac h95).1; simp at this⊢; omega) (⟨rfl,I64.wr (qbl hr83')⟩) rfl rfl rfl) ?_
 rintro w101 ⟨hC,hF⟩
 replace hD:=hD.beside hUf22 hF
 clear hF
 refine ⟨hD,?_⟩
 obtain ⟨x102,h103,hb⟩:=bd hb
 obtain ⟨ad104,cs105,hA,hc106,hr107⟩:=hC.elo (i:=2) rfl (qac h103).2
 obtain rfl:=Option.some.inj hA
 refine mp (.pointer (some (ad80.add (y70.toNat*1)))) (qag (a:=y70) underlying22 sizeOf3 rfl rfl (by rw [(hC.ow (i:=2) rfl).qaf.1]; exact (qac h103).1))<|mixE.sk hD (hC.put (i:=2) rfl rfl sizeOf3 (k:=y70.toNat) (a:=x87) (by have:=(qac h103).1; simp at this⊢; omega) (⟨rfl,I64.wr (qbl hr92')⟩) rfl rfl rfl) ?_
 rintro w108 ⟨hC,hF⟩
 replace hD:=hD.beside hUf22 hF
 clear hF
 refine ⟨hD,?_⟩
 refine mixE.nil ?_
 clear hS hM
 clear hD
 refine hK61 _ _<|rg ?_
 obtain ⟨z109,h110,hb⟩:=bd hb
 refine lp (iv z109) (qak (a:=o) (b:=1) e30 rfl h110)<|lp (iv z109) (qaa rfl)<|ln ?_
 obtain rfl:=os hb
 exact hK53 m54' _ _ (Nat.lt_succ_self _) ⟨z109,((j.set z76.toNat x78).set y70.toNat x87),e1,e2,e3,e28,e29,rfl,(qai h110),hC.sE [0,1,2],lN hl1⟩
 replace hb:=tf hq60 hb
 refine Wc.exit rfl ?_
 obtain rfl:=os hb
 obtain rfl:=(lX hl1).symm
 exact hK52 _ _ ⟨o,j,e1,e2,e3,z,hC.sE [0,1,2],hbK1⟩
 clear hb hC hl1
 rintro E112 w111 ⟨o,j,e1,e2,e3,z,hC,hb⟩
 subst hf51
 refine hK49 _ _<|Wc.seq fun _ hK113=>rg<|lp (.pointer (some ((⟨g3,0,none⟩:Addr).add 0))) (qal (sz:=1) underlying24 rfl sizeOf3 (by decide) rfl e1)<|lv (iv c) (qar (hC.bx (i:=0) rfl) isAgg3 rfl rfl) ?_
 obtain ⟨u114,h115,hb⟩:=bd hb
 refine lex.op (hC.make (s:=si) (n:=c) underlying52 type3 rfl rfl rfl rfl rfl (qae h115).1 (qae h115).2 (by decide)) ?_
 rintro _ w120 ⟨A116,c117,rfl,hl118,hc119,hC,-,-⟩
 refine lp (.slice A116 (((rZ c)).length) c117) (qab rfl)<|ln (hK113 _ _ ?_)
 refine Wc.seq fun _ hK122=>?_
 refine Wc.seq fun _ hK123=>rg<|lp _ (qaa e3)<|lp (iv (((rZ c)).length:Int)) (qan (A:=A17) (n:=((rZ c)).length) (m:=c18) underlying22 rfl)<|lp (iv 0) (qaa rfl)<|ln (hK123 _ _ ?_)
 obtain ⟨o124,hl2,f124,hf124,hb⟩:=bn hb
 refine Wc.cut (fun E wv=> ∃(l:Int) (p:List Int),E 2=.slice none 0 0∧E 8=.slice A116 (((rZ c)).length) c117∧I64 l∧Cx (fun _=>False) O0 w wv [.own 3 si (.slice A116 (((rZ c)).length) c117) p]∧f124 (l,p)=some r) (fun _ hK125=>?_) ?_
 refine Wc.block ?_
 refine Wc.loop (fun m E wv=> ∃(l:Int) (p:List Int),E 2=.slice none 0 0∧E 8=.slice A116 (((rZ c)).length) c117∧E 56=.slice A17 (((rZ c)).length) c18∧E 57=iv (((rZ c)).length:Int)∧E 58=iv l∧I64 l∧Cx (fun _=>False) O0 w wv [.own 3 si (.slice A116 (((rZ c)).length) c117) p,.own 3 si (.slice A17 (((rZ c)).length) c18) j]∧loopN m (F.qex n c j) (l,p)=some o124) n ⟨0,(rZ c),e2,rfl,rfl,rfl,rfl,(show I64 0 from by unfold I64; omega),hC.sE [0,3],hl2⟩ ?_
 have hbK2:=hb
 clear hb hC hl2
 rintro m127 E129 w128 ⟨l,p,e2,e8,e56,e57,e58,y,hC,hl2⟩ K126 hK126
 obtain ⟨m127',o130,rfl,hb,hl2⟩:=qam hl2
 unfold F.qex at hb
 refine Wc.seq fun _ hK131=>rg<|lp _ (qau e58 e57)<|ln (hK131 _ _ ?_)
 refine Wc.seq fun _ hK132=>?_
 refine Wc.cond (t:=(decide (l<(((rZ c)).length:Int)))) (rfl) (fun hq133=>?_) (fun hq133=>?_)
 replace hb:=tt hq133 hb
 refine Wc.skip (hK132 _ _ ?_)
 refine Wc.seq fun _ hK134=>?_
 refine Wc.block<|Wc.seq fun _ hK135=>rg<|lp _ (qaa e58) ?_
 obtain ⟨x136,h137,hb⟩:=bd hb
 obtain ⟨ad138,cs139,hA,hc140,hr141⟩:=hC.elo (i:=1) rfl (qac h137).2
 subst hA
 refine lp (.pointer (some (ad138.add (l.toNat*1)))) (qag (a:=l) underlying22 sizeOf3 e56 e58 (by rw [(hC.ow (i:=1) rfl).qaf.1]; exact (qac h137).1)) ?_
 obtain ⟨rfl,hr141'⟩:=hr141
 refine lv (iv x136) (qah isAgg3 rfl (hc140 0 _ rfl))<|lp (iv l) (qab rfl)<|lp (iv x136) (qab rfl)<|ln (hK135 _ _ ?_)
 refine rg<|lp _ (qaa e8)<|lp (iv x136) (qaa rfl)<|lp (iv l) (qaa rfl) ?_
 obtain ⟨x142,h143,hb⟩:=bd hb
 obtain ⟨ad144,cs145,hA,hc146,hr147⟩:=hC.elo (i:=0) rfl (qac h143).2
 subst hA
 refine lp (.pointer (some (ad144.add (x136.toNat*1)))) (qag (a:=x136) underlying52 sizeOf3 rfl rfl (by rw [(hC.ow (i:=0) rfl).qaf.1]; exact (qac h143).1))<|lex.sk (hC.put (i:=0) rfl rfl sizeOf3 (k:=x136.toNat) (a:=l) (by have:=(qac h143).1; simp at this⊢; omega) (⟨rfl,I64.wr y⟩) rfl rfl rfl) ?_
 rintro w148 ⟨hC,hF⟩
 refine ln (hK134 _ _ ?_)
 refine rg ?_
 obtain ⟨z149,h150,hb⟩:=bd hb
 refine lp (iv z149) (qak (a:=l) (b:=1) e58 rfl h150)<|lp (iv z149) (qaa rfl)<|ln ?_
 obtain rfl:=os hb
 exact hK126 m127' _ _ (Nat.lt_succ_self _) ⟨z149,(p.set x136.toNat l),e2,e8,e56,e57,rfl,(qai h150),hC.sE [0,1],lN hl2⟩
 replace hb:=tf hq133 hb
 refine Wc.exit rfl ?_
 obtain rfl:=os hb
 obtain rfl:=(lX hl2).symm
 exact hK125 _ _ ⟨l,p,e2,e8,y,hC.sE [0],hbK2⟩
 clear hb hC hl2
 rintro E152 w151 ⟨l,p,e2,e8,y,hC,hb⟩
 subst hf124
 refine hK122 _ _<|Wc.seq fun _ hK153=>rg<|lp _ (qaa e8)<|lp (.slice A116 (((rZ c)).length) c117) (qab rfl)<|ln (hK153 _ _ ?_)
 obtain rfl:=os hb
 refine Wc.ret (hKR _ _ ?_)
 refine ⟨_,res1 results23 (tV (.slice A116 (((rZ c)).length) c117) rfl),_,rfl,A116,((rZ c)).length,c117,rfl,hC.sE [0]⟩

theorem perm_Valid_ok (n:Nat) {w:World} {O0:List Nat} (hO: ∀k∈O0,k<w.heap.size) {h:Option Addr} {l f:Nat} {c:List Int} (o:Rep O0 w (.sl si) [.slice h l f] c) {r:Bool} (hb:F.qgs n c=some r):
    Calls prog 59 #[.slice h l f] w fun e w'=> ∃v,e=.returned v∧v=.bool r∧Cx (fun _=>False) O0 w w' []:=by
 unfold F.qgs at hb
 have hC:=Cx.start hO
 replace hC:=hC.arg rfl o
 clear hO
 obtain ⟨rfl,p,u⟩:=o.qaf
 refine qao func59 rfl (by rw [ntmps59]; exact nb rfl) fun KR hKR=>?_
 refine Wc.seq fun _ hK2=>rg<|lp (.bool false) (qab rfl)<|ln (hK2 _ _ ?_)
 refine Wc.seq fun _ hK3=>rg<|lp (.slice h c.length f) (qaa rfl)<|lp (iv (c.length:Int)) (qan (A:=h) (n:=c.length) (m:=f) underlying52 rfl) ?_
 obtain ⟨u4,h5,hb⟩:=bd hb
 refine lex.op (hC.make (s:=.bool) (n:=(c.length:Int)) underlying102 type4 rfl rfl rfl rfl rfl (qae h5).1 (qae h5).2 (by decide)) ?_
 rintro _ w10 ⟨A6,c7,rfl,hl8,hc9,hC,-,-⟩
 refine lp (.slice A6 (((List.replicate (c.length:Int).toNat false)).length) c7) (qab rfl)<|ln (hK3 _ _ ?_)
 refine Wc.seq fun _ hK12=>?_
 refine Wc.seq fun _ hK13=>rg<|lp (.slice h c.length f) (qaa rfl)<|lp (iv (c.length:Int)) (qan (A:=h) (n:=c.length) (m:=f) underlying52 rfl)<|lp (iv 0) (qaa rfl)<|ln (hK13 _ _ ?_)
 obtain ⟨o14,hl0,hb⟩:=bd hb
 refine Wc.cut (fun E wv=> ∃(d:Int) (g:List Bool),E 2=.bool false∧I64 d∧Cx (fun _=>False) O0 w wv []∧(some true:Option (Bool))=some r) (fun _ hK15=>?_) ?_
 refine Wc.block ?_
 refine Wc.loop (fun m E wv=> ∃(d:Int) (g:List Bool),E 0=.slice h c.length f∧E 2=.bool false∧E 3=.slice A6 (((List.replicate (c.length:Int).toNat false)).length) c7∧E 9=.slice h c.length f∧E 10=iv (c.length:Int)∧E 11=iv d∧I64 d∧Cx (fun _=>False) O0 w wv [.ro (.sl si) [.slice h c.length f] c,.own 4 .bool (.slice A6 (((List.replicate (c.length:Int).toNat false)).length) c7) g]∧loopN m (F.qgv n c) (d,g)=some o14) n ⟨0,(List.replicate (c.length:Int).toNat false),rfl,rfl,rfl,rfl,rfl,rfl,(show I64 0 from by unfold I64; omega),hC.sE [1,0],hl0⟩ ?_
 have hbK0:=hb
 clear hb hC hl0
 rintro m17 E19 w18 ⟨d,g,e0,e2,e3,e9,e10,e11,j,hC,hl0⟩ K16 hK16
 obtain ⟨m17',o20,rfl,hb,hl0⟩:=qam hl0
 unfold F.qgv at hb
 refine Wc.seq fun _ hK21=>rg<|lp _ (qau e11 e10)<|ln (hK21 _ _ ?_)
 refine Wc.seq fun _ hK22=>?_
 refine Wc.cond (t:=(decide (d<(c.length:Int)))) (rfl) (fun hq23=>?_) (fun hq23=>?_)
 replace hb:=tt hq23 hb
 refine Wc.skip (hK22 _ _ ?_)
 refine Wc.seq fun _ hK24=>?_
 refine Wc.block<|Wc.seq fun _ hK25=>rg ?_
 obtain ⟨x26,h27,hb⟩:=bd hb
 obtain ⟨ad28,cs29,hA,hc30,hr31⟩:=hC.elr (i:=0) rfl (qac h27).2
 subst hA
 refine lp (.pointer (some (ad28.add (d.toNat*1)))) (qag (a:=d) underlying52 sizeOf3 e9 e11 (qac h27).1) ?_
 obtain ⟨rfl,hr31'⟩:=hr31
 refine lv (iv x26) (qah isAgg3 rfl (hc30 0 _ rfl))<|lp (iv x26) (qab rfl)<|ln (hK25 _ _ ?_)
 refine Wc.seq fun _ hK32=>?_
 refine Wc.seq fun _ hK33=>rg<|lp (iv x26) (qaa rfl)<|lp (.bool (decide (x26<0))) (qau (k:=.i64) (a:=x26) (b:=0) rfl rfl)<|lp (.bool (decide (x26<0))) (qaa rfl) ?_
 rcases bS (decide (x26<0)) with hq34 | hq34
 replace hb:=tt hq34 hb
 refine gs rfl rfl (decide (x26<0)) rfl hq34<|gs rfl rfl (decide (x26<0)) rfl hq34<|gs rfl rfl (decide (x26<0)) rfl hq34<|gs rfl rfl (decide (x26<0)) rfl hq34<|lp (.bool true) (qap (q:=(decide (x26<0))) rfl hq34 rfl)<|lp (.bool true) (qaa rfl)<|gs rfl rfl true rfl rfl<|gs rfl rfl true rfl rfl<|gs rfl rfl true rfl rfl<|gs rfl rfl true rfl rfl<|lp (.bool true) (qap (q:=true) rfl rfl rfl)<|ln (hK33 _ _ ?_)
 refine Wc.cond_true (rfl) ?_
 refine Wc.seq fun _ hK35=>rg<|lp (.bool false) (qab rfl)<|ln (hK35 _ _ ?_)
 obtain rfl:=os hb
 obtain rfl:=(lX hl0).symm
 replace hb:=hbK0
 obtain rfl:=os hb
 refine Wc.ret (hKR _ _ ?_)
 refine ⟨_,res1 results59 (tV (.bool false) rfl),_,rfl,rfl,hC.sE []⟩
 replace hb:=tf hq34 hb
 refine gp rfl rfl (decide (x26<0)) rfl hq34 (iv x26) (qaa rfl)<|gp rfl rfl (decide (x26<0)) rfl hq34 (.slice (some ad28) c.length f) (qaa e0)<|gp rfl rfl (decide (x26<0)) rfl hq34 (iv (c.length:Int)) (qan (A:=(some ad28)) (n:=c.length) (m:=f) underlying52 rfl)<|gp rfl rfl (decide (x26<0)) rfl hq34 (.bool (decide ((c.length:Int)≤x26))) (pu_geq (k:=.i64) (a:=x26) (b:=(c.length:Int)) rfl rfl)<|lp (.bool (decide ((c.length:Int)≤x26))) (qat (q:=(decide (x26<0))) rfl hq34 rfl)<|lp (.bool (decide ((c.length:Int)≤x26))) (qaa rfl) ?_
 rcases bS (decide ((c.length:Int)≤x26)) with hq36 | hq36
 replace hb:=tt hq36 hb
 refine gs rfl rfl (decide ((c.length:Int)≤x26)) rfl hq36<|gs rfl rfl (decide ((c.length:Int)≤x26)) rfl hq36<|gs rfl rfl (decide ((c.length:Int)≤x26)) rfl hq36<|gs rfl rfl (decide ((c.length:Int)≤x26)) rfl hq36<|lp (.bool true) (qap (q:=(decide ((c.length:Int)≤x26))) rfl hq36 rfl)<|ln (hK33 _ _ ?_)
 refine Wc.cond_true (rfl) ?_
 refine Wc.seq fun _ hK37=>rg<|lp (.bool false) (qab rfl)<|ln (hK37 _ _ ?_)
 obtain rfl:=os hb
 obtain rfl:=(lX hl0).symm
 replace hb:=hbK0
 obtain rfl:=os hb
 refine Wc.ret (hKR _ _ ?_)
 refine ⟨_,res1 results59 (tV (.bool false) rfl),_,rfl,rfl,hC.sE []⟩
 replace hb:=tf hq36 hb
 refine gp rfl rfl (decide ((c.length:Int)≤x26)) rfl hq36 (.slice A6 (((List.replicate (c.length:Int).toNat false)).length) c7) (qaa e3)<|gp rfl rfl (decide ((c.length:Int)≤x26)) rfl hq36 (iv x26) (qaa rfl) ?_
 obtain ⟨x38,h39,hb⟩:=bd hb
 obtain ⟨ad40,cs41,hA,hc42,hr43⟩:=hC.elo (i:=1) rfl (qac h39).2
 subst hA
 refine gp rfl rfl (decide ((c.length:Int)≤x26)) rfl hq36 (.pointer (some (ad40.add (x26.toNat*1)))) (qag (a:=x26) underlying102 sizeOf4 rfl rfl (by rw [(hC.ow (i:=1) rfl).qaf.1]; exact (qac h39).1)) ?_
 obtain rfl:=(show _=_ from hr43)
 refine gv rfl rfl (decide ((c.length:Int)≤x26)) rfl hq36 (.bool x38) (qah isAgg4 rfl (hc42 0 _ rfl))<|lp (.bool x38) (qat (q:=(decide ((c.length:Int)≤x26))) rfl hq36 rfl)<|ln (hK33 _ _ ?_)
 refine Wc.cond (t:=x38) (rfl) (fun hq44=>?_) (fun hq44=>?_)
 replace hb:=tt hq44 hb
 refine Wc.seq fun _ hK45=>rg<|lp (.bool false) (qab rfl)<|ln (hK45 _ _ ?_)
 obtain rfl:=os hb
 obtain rfl:=(lX hl0).symm
 replace hb:=hbK0
 obtain rfl:=os hb
 refine Wc.ret (hKR _ _ ?_)
 refine ⟨_,res1 results59 (tV (.bool false) rfl),_,rfl,rfl,hC.sE []⟩
 replace hb:=tf hq44 hb
 refine Wc.skip (hK32 _ _ ?_)
 refine Wc.fresh fun E46 hE=>?_
 have e0:=cg hE 0 e0
 have e2:=cg hE 2 e2
 have e3:=cg hE 3 e3
 have e5:E46 5=iv x26:=cg hE 5 rfl
 have e9:=cg hE 9 e9
 have e10:=cg hE 10 e10
 have e11:=cg hE 11 e11
 have e12:E46 12=.bool (decide (d<(c.length:Int))):=cg hE 12 rfl
 have e28:E46 28=.bool x38:=cg hE 28 rfl
 clear hE
 refine rg<|lp _ (qaa e3)<|lp _ (qaa e5) ?_
 obtain ⟨x47,h48,hb⟩:=bd hb
 obtain ⟨ad49,cs50,hA,hc51,hr52⟩:=hC.elo (i:=1) rfl (qac h48).2
 obtain rfl:=Option.some.inj hA
 refine lp (.pointer (some (ad40.add (x26.toNat*1)))) (qag (a:=x26) underlying102 sizeOf4 rfl rfl (by rw [(hC.ow (i:=1) rfl).qaf.1]; exact (qac h48).1))<|lex.sk (hC.put (i:=1) rfl rfl sizeOf4 (k:=x26.toNat) (a:=true) (by have:=(qac h48).1; simp at this⊢; omega) (show Rep _ _ .bool _ _ from rfl) rfl rfl rfl) ?_
 rintro w53 ⟨hC,hF⟩
 refine ln (hK24 _ _ ?_)
 refine rg ?_
 obtain ⟨z54,h55,hb⟩:=bd hb
 refine lp (iv z54) (qak (a:=d) (b:=1) e11 rfl h55)<|lp (iv z54) (qaa rfl)<|ln ?_
 obtain rfl:=os hb
 exact hK16 m17' _ _ (Nat.lt_succ_self _) ⟨z54,(g.set x26.toNat true),e0,e2,e3,e9,e10,rfl,(qai h55),hC.sE [0,1],lN hl0⟩
 replace hb:=tf hq23 hb
 refine Wc.exit rfl ?_
 obtain rfl:=os hb
 obtain rfl:=(lX hl0).symm
 exact hK15 _ _ ⟨d,g,e2,j,hC.sE [],hbK0⟩
 clear hb hC hl0
 rintro E57 w56 ⟨d,g,e2,j,hC,hb⟩
 refine hK12 _ _<|Wc.seq fun _ hK58=>rg<|lp (.bool true) (qab rfl)<|ln (hK58 _ _ ?_)
 obtain rfl:=os hb
 refine Wc.ret (hKR _ _ ?_)
 refine ⟨_,res1 results59 (tV (.bool true) rfl),_,rfl,rfl,hC.sE []⟩

theorem perm_Cycles_ok (n:Nat) {w:World} {O0:List Nat} (hO: ∀k∈O0,k<w.heap.size) {p:Option Addr} {H u:Nat} {f:List Int} (J:Rep O0 w (.sl si) [.slice p H u] f) {r:(List (List Int))} (hb:F.qfz n f=some r):
    Calls prog 39 #[.slice p H u] w fun e w'=> ∃v,e=.returned v∧∃(A0:Option Addr) (m0 c0:Nat),v=.slice A0 m0 c0∧Cx (fun _=>False) O0 w w' [.own 22 (.sl si) (.slice A0 m0 c0) r]:=by
 unfold F.qfz at hb
 have hC:=Cx.start hO
 replace hC:=hC.arg rfl J
 clear hO
 obtain ⟨rfl,P,Q⟩:=J.qaf
 refine qao func39 rfl (by rw [ntmps39]; exact nb rfl) fun KR hKR=>?_
 refine Wc.seq fun _ hK2=>rg<|lp (.slice none 0 0) (qab rfl)<|ln (hK2 _ _ ?_)
 refine Wc.seq fun _ hK3=>?_
 refine Wc.seq fun _ hK4=>rg<|lp (.slice p f.length u) (qaa rfl) ?_
 obtain ⟨y5,h6,hb⟩:=bd hb
 refine lex.cl (⟨_,_,qas (vs:=[.slice p f.length u]) call59 rfl rfl rfl,perm_Valid_ok n hC.lt (hC.rd (i:=0) rfl) h6⟩) ?_
 rintro _ w7 ⟨rfl,hK⟩
 replace hC:=hC.merge hK
 clear hK
 refine lp (.bool (!y5)) (qcd (q:=y5) rfl)<|ln (hK4 _ _ ?_)
 refine Wc.cond (t:=(!y5)) (rfl) (fun hq8=>?_) (fun hq8=>?_)
 replace hb:=tt hq8 hb
 refine Wc.seq fun _ hK9=>rg<|lp (.slice none 0 0) (qab rfl)<|ln (hK9 _ _ ?_)
 replace hC:=hC.nil 22 (.sl si)
 obtain rfl:=os hb
 refine Wc.ret (hKR _ _ ?_)
 refine ⟨_,res1 results39 (tV (.slice none 0 0) rfl),_,rfl,none,0,0,rfl,hC.sE [0]⟩
 replace hb:=tf hq8 hb
 refine Wc.skip (hK3 _ _ ?_)
 refine Wc.seq fun _ hK11=>rg<|lp (.slice none 0 0) (qab rfl)<|ln (hK11 _ _ ?_)
 refine Wc.seq fun _ hK12=>rg<|lp (.slice p f.length u) (qaa rfl)<|lp (iv (f.length:Int)) (qan (A:=p) (n:=f.length) (m:=u) underlying52 rfl) ?_
 obtain ⟨u13,h14,hb⟩:=bd hb
 refine lex.op (hC.make (s:=.bool) (n:=(f.length:Int)) underlying102 type4 rfl rfl rfl rfl rfl (qae h14).1 (qae h14).2 (by decide)) ?_
 rintro _ w19 ⟨A15,c16,rfl,hl17,hc18,hC,-,-⟩
 refine lp (.slice A15 (((List.replicate (f.length:Int).toNat false)).length) c16) (qab rfl)<|ln (hK12 _ _ ?_)
 refine Wc.seq fun _ hK21=>?_
 refine Wc.seq fun _ hK22=>rg<|lp (.slice p f.length u) (qaa rfl)<|lp (iv (f.length:Int)) (qan (A:=p) (n:=f.length) (m:=u) underlying52 rfl)<|lp (iv 0) (qaa rfl)<|ln (hK22 _ _ ?_)
 refine Wc.fresh fun E23 hE=>?_
 have e0:E23 0=.slice p f.length u:=cg hE 0 rfl
 have e2:E23 2=.slice none 0 0:=cg hE 2 rfl
 have e3:E23 3=.slice none 0 0:=cg hE 3 rfl
 have e4:E23 4=.slice A15 (((List.replicate (f.length:Int).toNat false)).length) c16:=cg hE 4 rfl
 have e15:E23 15=iv (f.length:Int):=cg hE 15 rfl
 have e16:E23 16=iv 0:=cg hE 16 rfl
 clear hE
 replace hC:=hC.nil 22 (.sl si)
 obtain ⟨o25,hl0,f25,hf25,hb⟩:=bn hb
 refine Wc.cut (fun E wv=> ∃(g:List (List Int)) (c:Int) (z:List Bool) (j:Option Addr) (B l:Nat),E 2=.slice none 0 0∧E 3=.slice j B l∧I64 c∧Cx (fun _=>False) O0 w wv [.own 22 (.sl si) (.slice j B l) g]∧f25 (g,c,z)=some r) (fun _ hK26=>?_) ?_
 refine Wc.block ?_
 refine Wc.loop (fun m E wv=> ∃(g:List (List Int)) (c:Int) (z:List Bool) (j:Option Addr) (B l:Nat),E 0=.slice p f.length u∧E 2=.slice none 0 0∧E 3=.slice j B l∧E 4=.slice A15 (((List.replicate (f.length:Int).toNat false)).length) c16∧E 15=iv (f.length:Int)∧E 16=iv c∧I64 c∧Cx (fun _=>False) O0 w wv [.ro (.sl si) [.slice p f.length u] f,.own 22 (.sl si) (.slice j B l) g,.own 4 .bool (.slice A15 (((List.replicate (f.length:Int).toNat false)).length) c16) z]∧loopN m (F.perm_Cycles_b0 n f) (g,c,z)=some o25) n ⟨([]:List (List Int)),0,(List.replicate (f.length:Int).toNat false),none,0,0,e0,e2,e3,e4,e15,e16,(show I64 0 from by unfold I64; omega),hC.sE [2,0,1],hl0⟩ ?_
 have hbK0:=hb
 clear hb hC hl0
 rintro m28 E30 w29 ⟨g,c,z,j,B,l,e0,e2,e3,e4,e15,e16,D,hC,hl0⟩ K27 hK27
 obtain ⟨m28',o31,rfl,hb,hl0⟩:=qam hl0
 unfold F.perm_Cycles_b0 at hb
 obtain ⟨rfl,K,L⟩:=(hC.ow (i:=1) rfl).qaf
 refine Wc.seq fun _ hK32=>rg<|lp _ (qau e16 e15)<|ln (hK32 _ _ ?_)
 refine Wc.seq fun _ hK33=>?_
 refine Wc.cond (t:=(decide (c<(f.length:Int)))) (rfl) (fun hq34=>?_) (fun hq34=>?_)
 replace hb:=tt hq34 hb
 refine Wc.skip (hK33 _ _ ?_)
 refine Wc.seq fun _ hK35=>?_
 refine Wc.block<|Wc.seq fun _ hK36=>rg<|lp _ (qaa e16)<|lp (iv c) (qab rfl)<|ln (hK36 _ _ ?_)
 refine Wc.seq fun _ hK37=>rg<|lp (.slice none 0 0) (qab rfl)<|ln (hK37 _ _ ?_)
 refine Wc.seq fun _ hK38=>?_
 refine Wc.seq fun _ hK39=>rg<|lp (iv c) (qaa rfl)<|lp (iv c) (qab rfl)<|ln (hK39 _ _ ?_)
 replace hC:=hC.nil 3 si
 obtain ⟨o41,hl1,hb⟩:=bd hb
 refine Wc.cut (fun E wv=> ∃(d:List Int) (h:Int) (o:List Bool) (x:Option Addr) (C y:Nat),E 0=.slice p f.length u∧E 2=.slice none 0 0∧E 3=.slice j g.length l∧E 4=.slice A15 (((List.replicate (f.length:Int).toNat false)).length) c16∧E 5=iv c∧E 6=.slice x C y∧E 7=iv h∧E 15=iv (f.length:Int)∧E 16=iv c∧E 17=.bool (decide (c<(f.length:Int)))∧I64 h∧Cx (fun _=>False) O0 w wv [.ro (.sl si) [.slice p f.length u] f,.own 22 (.sl si) (.slice j g.length l) g,.own 4 .bool (.slice A15 (((List.replicate (f.length:Int).toNat false)).length) c16) o,.own 3 si (.slice x C y) d]∧(cond (decide (0<(d.length:Int))) ((lim (g.length+([d]:List (List Int)).length)).bind fun u96=>(chk (c+1)).bind fun z103=>some (.inl ((g++([d]:List (List Int))),z103,o))) ((chk (c+1)).bind fun z105=>some (.inl (g,z105,o))):Option (((List (List Int))×Int×(List Bool))⊕(((List (List Int))×Int×(List Bool)))))=some o31) (fun _ hK42=>?_) ?_
 refine Wc.block ?_
 refine Wc.loop (fun m E wv=> ∃(d:List Int) (h:Int) (o:List Bool) (x:Option Addr) (C y:Nat),E 0=.slice p f.length u∧E 2=.slice none 0 0∧E 3=.slice j g.length l∧E 4=.slice A15 (((List.replicate (f.length:Int).toNat false)).length) c16∧E 5=iv c∧E 6=.slice x C y∧E 7=iv h∧E 15=iv (f.length:Int)∧E 16=iv c∧E 17=.bool (decide (c<(f.length:Int)))∧I64 h∧Cx (fun _=>False) O0 w wv [.ro (.sl si) [.slice p f.length u] f,.own 22 (.sl si) (.slice j g.length l) g,.own 4 .bool (.slice A15 (((List.replicate (f.length:Int).toNat false)).length) c16) o,.own 3 si (.slice x C y) d]∧loopN m (F.perm_Cycles_b1 n f) (d,h,o)=some o41) n ⟨([]:List Int),c,z,none,0,0,e0,e2,e3,e4,rfl,rfl,rfl,e15,e16,rfl,D,hC.sE [1,2,3,0],hl1⟩ ?_
 have hbK1:=hb
 clear hb hC hl1
 rintro m44 E46 w45 ⟨d,h,o,x,C,y,e0,e2,e3,e4,e5,e6,e7,e15,e16,e17,G,hC,hl1⟩ K43 hK43
 obtain ⟨m44',o47,rfl,hb,hl1⟩:=qam hl1
 unfold F.perm_Cycles_b1 at hb
 obtain ⟨rfl,M,N⟩:=(hC.ow (i:=3) rfl).qaf
 refine Wc.seq fun _ hK48=>?_
 refine Wc.seq fun _ hK49=>rg<|lp _ (qaa e4)<|lp _ (qaa e7) ?_
 obtain ⟨x50,h51,hb⟩:=bd hb
 obtain ⟨ad52,cs53,hA,hc54,hr55⟩:=hC.elo (i:=2) rfl (qac h51).2
 subst hA
 refine lp (.pointer (some (ad52.add (h.toNat*1)))) (qag (a:=h) underlying102 sizeOf4 rfl rfl (by rw [(hC.ow (i:=2) rfl).qaf.1]; exact (qac h51).1)) ?_
 obtain rfl:=(show _=_ from hr55)
 refine lv (.bool x50) (qah isAgg4 rfl (hc54 0 _ rfl))<|lp (.bool (!x50)) (qcd (q:=x50) rfl)<|ln (hK49 _ _ ?_)
 refine Wc.cond (t:=(!x50)) (rfl) (fun hq56=>?_) (fun hq56=>?_)
 replace hb:=tt hq56 hb
 refine Wc.skip (hK48 _ _ ?_)
 refine Wc.seq fun _ hK57=>?_
 refine Wc.block<|Wc.seq fun _ hK58=>rg<|lp _ (qaa e4)<|lp _ (qaa e7) ?_
 obtain ⟨x59,h60,hb⟩:=bd hb
 obtain ⟨ad61,cs62,hA,hc63,hr64⟩:=hC.elo (i:=2) rfl (qac h60).2
 obtain rfl:=Option.some.inj hA
 refine lp (.pointer (some (ad52.add (h.toNat*1)))) (qag (a:=h) underlying102 sizeOf4 rfl rfl (by rw [(hC.ow (i:=2) rfl).qaf.1]; exact (qac h60).1))<|lex.sk (hC.put (i:=2) rfl rfl sizeOf4 (k:=h.toNat) (a:=true) (by have:=(qac h60).1; simp at this⊢; omega) (show Rep _ _ .bool _ _ from rfl) rfl rfl rfl) ?_
 rintro w65 ⟨hC,hF⟩
 refine ln (hK58 _ _ ?_)
 refine rg<|lp _ (qaa e6)<|lp _ (qaa e7)<|lex.op (hC.lit (s:=si) (vs:=[iv h]) (xs:=[h]) underlying22 type3 rfl rfl (nb rfl) rfl rfl (by simp [Value.cells,Sh.n]) rfl (show Elems _ _ si ([iv h]++([])) ([h]:List Int) from Elems.cons (⟨rfl,I64.wr G⟩) (Elems.nil _ _ _))) ?_
 rintro _ w70 ⟨A66,c67,rfl,hl68,hc69,hC,-,-⟩
 obtain ⟨u72,h73,hb⟩:=bd hb
 refine lex.op (hC.app (i:=4) (s:=si) (xs:=d) (ys:=([h]:List Int)) (m:=((([h]:List Int)).length)) rfl underlying22 underlying22 type3 rfl rfl rfl (hC.srco (i:=0) rfl) rfl rfl (by have:=qbn h73; simp at this⊢ <;>omega) (by decide)) ?_
 rintro _ w78 ⟨A74,c75,rfl,hl76,hc77,hC,-,-⟩
 refine lp (.slice A74 ((d++([h]:List Int)).length) c75) (qab rfl)<|ln (hK57 _ _ ?_)
 refine Wc.fresh fun E79 hE=>?_
 have e0:=cg hE 0 e0
 have e2:=cg hE 2 e2
 have e3:=cg hE 3 e3
 have e4:=cg hE 4 e4
 have e5:=cg hE 5 e5
 have e6:E79 6=.slice A74 ((d++([h]:List Int)).length) c75:=cg hE 6 rfl
 have e7:=cg hE 7 e7
 have e15:=cg hE 15 e15
 have e16:=cg hE 16 e16
 have e17:=cg hE 17 e17
 have e24:E79 24=.bool (!x50):=cg hE 24 rfl
 clear hE
 refine rg<|lp _ (qaa e0)<|lp _ (qaa e7) ?_
 obtain ⟨x80,h81,hb⟩:=bd hb
 obtain ⟨ad82,cs83,hA,hc84,hr85⟩:=hC.elr (i:=1) rfl (qac h81).2
 subst hA
 refine lp (.pointer (some (ad82.add (h.toNat*1)))) (qag (a:=h) underlying52 sizeOf3 rfl rfl (qac h81).1) ?_
 obtain ⟨rfl,hr85'⟩:=hr85
 refine lv (iv x80) (qah isAgg3 rfl (hc84 0 _ rfl))<|lp (iv x80) (qab rfl)<|ln ?_
 obtain rfl:=os hb
 exact hK43 m44' _ _ (Nat.lt_succ_self _) ⟨(d++([h]:List Int)),x80,(o.set h.toNat true),A74,(d++([h]:List Int)).length,c75,e0,e2,e3,e4,e5,e6,rfl,e15,e16,e17,(qbl hr85'),hC.sE [1,2,3,4],lN hl1⟩
 replace hb:=tf hq56 hb
 refine Wc.exit rfl ?_
 obtain rfl:=os hb
 obtain rfl:=(lX hl1).symm
 exact hK42 _ _ ⟨d,h,o,x,d.length,y,e0,e2,e3,e4,e5,e6,e7,e15,e16,e17,G,hC.sE [0,1,2,3],hbK1⟩
 clear hb hC hl1
 rintro E87 w86 ⟨d,h,o,x,C,y,e0,e2,e3,e4,e5,e6,e7,e15,e16,e17,G,hC,hb⟩
 obtain ⟨rfl,M,N⟩:=(hC.ow (i:=3) rfl).qaf
 refine hK38 _ _<|Wc.seq fun _ hK88=>rg<|lp _ (qaa e6)<|lp (iv (d.length:Int)) (qan (A:=x) (n:=d.length) (m:=y) underlying22 rfl)<|lp (.bool (decide (0<(d.length:Int)))) (qbi (k:=.i64) (a:=(d.length:Int)) (b:=0) rfl rfl)<|ln (hK88 _ _ ?_)
 refine Wc.cond (t:=(decide (0<(d.length:Int)))) (rfl) (fun hq89=>?_) (fun hq89=>?_)
 replace hb:=tt hq89 hb
 refine rg<|lp _ (qaa e3)<|lp _ (qaa e6) ?_
 replace hC:=hC.freeze (i:=3) rfl (hC.qdh (i:=3) rfl)
 refine lex.op (hC.lit (s:=(.sl si)) (vs:=[.slice x d.length y]) (xs:=[d]) underlying41 type22 rfl rfl (nb rfl) rfl rfl (by simp [Value.cells,Sh.n]) rfl (show Elems _ _ (.sl si) ([.slice x d.length y]++([])) ([d]:List (List Int)) from Elems.cons (hC.rd (i:=3) rfl) (Elems.nil _ _ _))) ?_
 rintro _ w94 ⟨A90,c91,rfl,hl92,hc93,hC,-,-⟩
 obtain ⟨u96,h97,hb⟩:=bd hb
 refine lex.op (hC.app (i:=2) (s:=(.sl si)) (xs:=g) (ys:=([d]:List (List Int))) (m:=((([d]:List (List Int))).length)) rfl underlying41 underlying41 type22 rfl rfl rfl (hC.srco (i:=0) rfl) rfl rfl (by have:=qbn h97; simp at this⊢ <;>omega) (by decide)) ?_
 rintro _ w102 ⟨A98,c99,rfl,hl100,hc101,hC,-,-⟩
 refine lp (.slice A98 ((g++([d]:List (List Int))).length) c99) (qab rfl)<|ln (hK35 _ _ ?_)
 refine rg ?_
 obtain ⟨z103,h104,hb⟩:=bd hb
 refine lp (iv z103) (qak (a:=c) (b:=1) e16 rfl h104)<|lp (iv z103) (qaa rfl)<|ln ?_
 obtain rfl:=os hb
 exact hK27 m28' _ _ (Nat.lt_succ_self _) ⟨(g++([d]:List (List Int))),z103,o,A98,(g++([d]:List (List Int))).length,c99,e0,e2,rfl,e4,e15,rfl,(qai h104),hC.sE [1,2,3],lN hl0⟩
 replace hb:=tf hq89 hb
 refine Wc.skip (hK35 _ _ ?_)
 refine rg ?_
 obtain ⟨z105,h106,hb⟩:=bd hb
 refine lp (iv z105) (qak (a:=c) (b:=1) e16 rfl h106)<|lp (iv z105) (qaa rfl)<|ln ?_
 obtain rfl:=os hb
 exact hK27 m28' _ _ (Nat.lt_succ_self _) ⟨g,z105,o,j,g.length,l,e0,e2,e3,e4,e15,rfl,(qai h106),hC.sE [0,1,2],lN hl0⟩
 replace hb:=tf hq34 hb
 refine Wc.exit rfl ?_
 obtain rfl:=os hb
 obtain rfl:=(lX hl0).symm
 exact hK26 _ _ ⟨g,c,z,j,g.length,l,e2,e3,D,hC.sE [1],hbK0⟩
 clear hb hC hl0
 rintro E108 w107 ⟨g,c,z,j,B,l,e2,e3,D,hC,hb⟩
 subst hf25
 obtain ⟨rfl,K,L⟩:=(hC.ow (i:=0) rfl).qaf
 refine hK21 _ _<|Wc.seq fun _ hK109=>rg<|lp _ (qaa e3)<|lp (.slice j g.length l) (qab rfl)<|ln (hK109 _ _ ?_)
 obtain rfl:=os hb
 refine Wc.ret (hKR _ _ ?_)
 refine ⟨_,res1 results39 (tV (.slice j g.length l) rfl),_,rfl,j,g.length,l,rfl,hC.sE [0]⟩
