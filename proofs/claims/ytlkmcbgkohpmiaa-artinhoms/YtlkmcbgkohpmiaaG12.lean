import Derived.Test.YtlkmcbgkohpmiaaS
import Derived.Test.YtlkmcbgkohpmiaaG2
set_option linter.all false
namespace Go.Proofs.Ytlkmcbgkohpmiaa
open Ev Try
set_option maxRecDepth 100000
set_option maxHeartbeats 4000000
theorem homs_identity_ok (n:Nat) {w:World} {O0:List Nat} (hO: ∀k∈O0,k<w.heap.size) {c:Int} (h:I64 c) {r:(List Int)} (hb:F.qfp n c=some r):
    Calls prog 78 #[iv c] w fun e w'=> ∃v,e=.returned v∧∃(A0:Option Addr) (m0 c0:Nat),v=.slice A0 m0 c0∧Cx (fun _=>False) O0 w w' [.own 3 si (.slice A0 m0 c0) r]:=by
 unfold F.qfp at hb
 have hC:=Cx.start hO
 clear hO
 refine qao func78 rfl (by rw [ntmps78]; exact nb rfl) fun KR hKR=>?_
 refine Wc.seq fun _ hK1=>rg<|lp (.slice none 0 0) (qab rfl)<|ln (hK1 _ _ ?_)
 refine Wc.seq fun _ hK2=>rg<|lp (iv c) (qaa rfl) ?_
 obtain ⟨u3,h4,hb⟩:=bd hb
 refine lex.op (hC.make (s:=si) (n:=c) underlying52 type3 rfl rfl rfl rfl rfl (qae h4).1 (qae h4).2 (by decide)) ?_
 rintro _ w9 ⟨A5,c6,rfl,hl7,hc8,hC,-,-⟩
 refine lp (.slice A5 (((rZ c)).length) c6) (qab rfl)<|ln (hK2 _ _ ?_)
 refine Wc.seq fun _ hK11=>?_
 refine Wc.seq fun _ hK12=>rg<|lp (.slice A5 (((rZ c)).length) c6) (qaa rfl)<|lp (iv (((rZ c)).length:Int)) (qan (A:=A5) (n:=((rZ c)).length) (m:=c6) underlying52 rfl)<|lp (iv 0) (qaa rfl)<|ln (hK12 _ _ ?_)
 obtain ⟨o13,hl0,f13,hf13,hb⟩:=bn hb
 refine Wc.cut (fun E wv=> ∃(d:Int) (f:List Int),E 2=.slice none 0 0∧E 3=.slice A5 (((rZ c)).length) c6∧I64 d∧Cx (fun _=>False) O0 w wv [.own 3 si (.slice A5 (((rZ c)).length) c6) f]∧f13 (d,f)=some r) (fun _ hK14=>?_) ?_
 refine Wc.block ?_
 refine Wc.loop (fun m E wv=> ∃(d:Int) (f:List Int),E 2=.slice none 0 0∧E 3=.slice A5 (((rZ c)).length) c6∧E 8=iv (((rZ c)).length:Int)∧E 9=iv d∧I64 d∧Cx (fun _=>False) O0 w wv [.own 3 si (.slice A5 (((rZ c)).length) c6) f]∧loopN m (F.qcz n c) (d,f)=some o13) n ⟨0,(rZ c),rfl,rfl,rfl,rfl,(show I64 0 from by unfold I64; omega),hC.sE [0],hl0⟩ ?_
 have hbK0:=hb
 clear hb hC hl0
 rintro m16 E18 w17 ⟨d,f,e2,e3,e8,e9,g,hC,hl0⟩ K15 hK15
 obtain ⟨m16',o19,rfl,hb,hl0⟩:=qam hl0
 unfold F.qcz at hb
 refine Wc.seq fun _ hK20=>rg<|lp _ (qau e9 e8)<|ln (hK20 _ _ ?_)
 refine Wc.seq fun _ hK21=>?_
 refine Wc.cond (t:=(decide (d<(((rZ c)).length:Int)))) (rfl) (fun hq22=>?_) (fun hq22=>?_)
 replace hb:=tt hq22 hb
 refine Wc.skip (hK21 _ _ ?_)
 refine Wc.seq fun _ hK23=>?_
 refine Wc.block<|Wc.seq fun _ hK24=>rg<|lp _ (qaa e9)<|lp (iv d) (qab rfl)<|ln (hK24 _ _ ?_)
 refine rg<|lp _ (qaa e3)<|lp (iv d) (qaa rfl)<|lp (iv d) (qaa rfl) ?_
 obtain ⟨x25,h26,hb⟩:=bd hb
 obtain ⟨ad27,cs28,hA,hc29,hr30⟩:=hC.elo (i:=0) rfl (qac h26).2
 subst hA
 refine lp (.pointer (some (ad27.add (d.toNat*1)))) (qag (a:=d) underlying52 sizeOf3 rfl rfl (by rw [(hC.ow (i:=0) rfl).qaf.1]; exact (qac h26).1))<|lex.sk (hC.put (i:=0) rfl rfl sizeOf3 (k:=d.toNat) (a:=d) (by have:=(qac h26).1; simp at this⊢; omega) (⟨rfl,I64.wr g⟩) rfl rfl rfl) ?_
 rintro w31 ⟨hC,hF⟩
 refine ln (hK23 _ _ ?_)
 refine rg ?_
 obtain ⟨z32,h33,hb⟩:=bd hb
 refine lp (iv z32) (qak (a:=d) (b:=1) e9 rfl h33)<|lp (iv z32) (qaa rfl)<|ln ?_
 obtain rfl:=os hb
 exact hK15 m16' _ _ (Nat.lt_succ_self _) ⟨z32,(f.set d.toNat d),e2,e3,e8,rfl,(qai h33),hC.sE [0],lN hl0⟩
 replace hb:=tf hq22 hb
 refine Wc.exit rfl ?_
 obtain rfl:=os hb
 obtain rfl:=(lX hl0).symm
 exact hK14 _ _ ⟨d,f,e2,e3,g,hC.sE [0],hbK0⟩
 clear hb hC hl0
 rintro E35 w34 ⟨d,f,e2,e3,g,hC,hb⟩
 subst hf13
 refine hK11 _ _<|Wc.seq fun _ hK36=>rg<|lp _ (qaa e3)<|lp (.slice A5 (((rZ c)).length) c6) (qab rfl)<|ln (hK36 _ _ ?_)
 obtain rfl:=os hb
 refine Wc.ret (hKR _ _ ?_)
 refine ⟨_,res1 results78 (tV (.slice A5 (((rZ c)).length) c6) rfl),_,rfl,A5,((rZ c)).length,c6,rfl,hC.sE [0]⟩

theorem homs_Count_c1_ok (n:Nat) {w:World} {O0:List Nat} (hO: ∀k∈O0,k<w.heap.size) {f:Option Addr} {l g:Nat} {h:List (List Int)} (m:Rep O0 w (.sl (.sl si)) [.slice f l g] h) {d:Nat} {c:Int} (o:I64 c) (hio:Tk O0 w [.box d 3 [iv c]]) {r:Bool×Int} (hb:F.homs_Count_c1 n h c=some r):
    Calls prog 55 #[.slice f l g,pg d] w fun e w'=> ∃v,e=.returned v∧v=.bool r.1∧I64 r.2∧Cx (fun k=>k∈blocks [.box d 3 [iv c]]) O0 w w' [.box d 3 [iv r.2]]:=by
 unfold F.homs_Count_c1 at hb
 have hC:=Cx.startTk hO hio
 have hsub:=hio.2.2
 replace hC:=hC.argTk (by first | exact hsub | exact fun k hk=>hsub k (by simpa [blocks,Fact.blk] using hk)) m
 clear hO
 obtain ⟨rfl,p,q⟩:=m.qaf
 clear hio hsub
 obtain ⟨I,hI,hC⟩: ∃I:Nat→Prop,I=(fun k=>k∈blocks [.box d 3 [iv c]])∧Cx I O0 w w ([.ro (.sl (.sl si)) [.slice f h.length g] h,.box d 3 [iv c]]):=⟨_,rfl,hC⟩
 refine qao func55 rfl (by rw [ntmps55]; exact nb rfl) fun KR hKR=>?_
 refine Wc.seq fun _ hK3=>rg<|lp (.bool false) (qab rfl)<|ln (hK3 _ _ ?_)
 refine Wc.seq fun _ hK4=>rg<|lv (iv c) (qah isAgg3 rfl ((hC.bx (i:=1) rfl).cell (j:=0) rfl)) ?_
 obtain ⟨z5,h6,hb⟩:=bd hb
 refine lp (iv z5) (qak (a:=c) (b:=1) rfl rfl h6)<|lex.sk (hC.setf (i:=1) (k:=0) (v:=iv z5) rfl sizeOf3 rfl (by rw [Addr.add_zero']; exact rfl) rfl rfl) ?_
 rintro w7 ⟨hC,hF⟩
 refine ln (hK4 _ _ ?_)
 refine Wc.seq fun _ hK8=>rg<|lp (.bool true) (qab rfl)<|ln (hK8 _ _ ?_)
 obtain rfl:=os hb
 subst hI
 refine Wc.ret (hKR _ _ ?_)
 refine ⟨_,res1 results55 (tV (.bool true) rfl),_,rfl,rfl,(qai h6),hC.sE [1]⟩

theorem perm_Inverse_ok (n:Nat) {w:World} {O0:List Nat} (hO: ∀k∈O0,k<w.heap.size) {g:Option Addr} {l h:Nat} {c:List Int} (o:Rep O0 w (.sl si) [.slice g l h] c) {r:(List Int)} (hb:F.qgj n c=some r):
    Calls prog 80 #[.slice g l h] w fun e w'=> ∃v,e=.returned v∧∃(A0:Option Addr) (m0 c0:Nat),v=.slice A0 m0 c0∧Cx (fun _=>False) O0 w w' [.own 3 si (.slice A0 m0 c0) r]:=by
 unfold F.qgj at hb
 have hC:=Cx.start hO
 replace hC:=hC.arg rfl o
 clear hO
 obtain ⟨rfl,p,u⟩:=o.qaf
 refine qao func80 rfl (by rw [ntmps80]; exact nb rfl) fun KR hKR=>?_
 refine Wc.seq fun _ hK2=>rg<|lp (.slice none 0 0) (qab rfl)<|ln (hK2 _ _ ?_)
 refine Wc.seq fun _ hK3=>?_
 refine Wc.seq fun _ hK4=>rg<|lp (.slice g c.length h) (qaa rfl) ?_
 obtain ⟨y5,h6,hb⟩:=bd hb
 refine lex.cl (⟨_,_,qas (vs:=[.slice g c.length h]) call59 rfl rfl rfl,perm_Valid_ok n hC.lt (hC.rd (i:=0) rfl) h6⟩) ?_
 rintro _ w7 ⟨rfl,hK⟩
 replace hC:=hC.merge hK
 clear hK
 refine lp (.bool (!y5)) (qcd (q:=y5) rfl)<|ln (hK4 _ _ ?_)
 refine Wc.cond (t:=(!y5)) (rfl) (fun hq8=>?_) (fun hq8=>?_)
 replace hb:=tt hq8 hb
 refine Wc.seq fun _ hK9=>rg<|lp (.slice none 0 0) (qab rfl)<|ln (hK9 _ _ ?_)
 replace hC:=hC.nil 3 si
 obtain rfl:=os hb
 refine Wc.ret (hKR _ _ ?_)
 refine ⟨_,res1 results80 (tV (.slice none 0 0) rfl),_,rfl,none,0,0,rfl,hC.sE [0]⟩
 replace hb:=tf hq8 hb
 refine Wc.skip (hK3 _ _ ?_)
 refine Wc.seq fun _ hK11=>rg<|lp (.slice g c.length h) (qaa rfl)<|lp (iv (c.length:Int)) (qan (A:=g) (n:=c.length) (m:=h) underlying52 rfl) ?_
 obtain ⟨u12,h13,hb⟩:=bd hb
 refine lex.op (hC.make (s:=si) (n:=(c.length:Int)) underlying52 type3 rfl rfl rfl rfl rfl (qae h13).1 (qae h13).2 (by decide)) ?_
 rintro _ w18 ⟨A14,c15,rfl,hl16,hc17,hC,-,-⟩
 refine lp (.slice A14 (((rZ c.length)).length) c15) (qab rfl)<|ln (hK11 _ _ ?_)
 refine Wc.seq fun _ hK20=>?_
 refine Wc.seq fun _ hK21=>rg<|lp (.slice g c.length h) (qaa rfl)<|lp (iv (c.length:Int)) (qan (A:=g) (n:=c.length) (m:=h) underlying52 rfl)<|lp (iv 0) (qaa rfl)<|ln (hK21 _ _ ?_)
 refine Wc.fresh fun E22 hE=>?_
 have e2:E22 2=.slice none 0 0:=cg hE 2 rfl
 have e3:E22 3=.slice A14 (((rZ c.length)).length) c15:=cg hE 3 rfl
 have e12:E22 12=.slice g c.length h:=cg hE 12 rfl
 have e13:E22 13=iv (c.length:Int):=cg hE 13 rfl
 have e14:E22 14=iv 0:=cg hE 14 rfl
 clear hE
 obtain ⟨o23,hl0,hb⟩:=bd hb
 refine Wc.cut (fun E wv=> ∃(d:Int) (f:List Int),E 2=.slice none 0 0∧E 3=.slice A14 (((rZ c.length)).length) c15∧I64 d∧Cx (fun _=>False) O0 w wv [.own 3 si (.slice A14 (((rZ c.length)).length) c15) f]∧(some f:Option ((List Int)))=some r) (fun _ hK24=>?_) ?_
 refine Wc.block ?_
 refine Wc.loop (fun m E wv=> ∃(d:Int) (f:List Int),E 2=.slice none 0 0∧E 3=.slice A14 (((rZ c.length)).length) c15∧E 12=.slice g c.length h∧E 13=iv (c.length:Int)∧E 14=iv d∧I64 d∧Cx (fun _=>False) O0 w wv [.own 3 si (.slice A14 (((rZ c.length)).length) c15) f,.ro (.sl si) [.slice g c.length h] c]∧loopN m (F.qet n c) (d,f)=some o23) n ⟨0,(rZ c.length),e2,e3,e12,e13,e14,(show I64 0 from by unfold I64; omega),hC.sE [0,1],hl0⟩ ?_
 have hbK0:=hb
 clear hb hC hl0
 rintro m26 E28 w27 ⟨d,f,e2,e3,e12,e13,e14,j,hC,hl0⟩ K25 hK25
 obtain ⟨m26',o29,rfl,hb,hl0⟩:=qam hl0
 unfold F.qet at hb
 refine Wc.seq fun _ hK30=>rg<|lp _ (qau e14 e13)<|ln (hK30 _ _ ?_)
 refine Wc.seq fun _ hK31=>?_
 refine Wc.cond (t:=(decide (d<(c.length:Int)))) (rfl) (fun hq32=>?_) (fun hq32=>?_)
 replace hb:=tt hq32 hb
 refine Wc.skip (hK31 _ _ ?_)
 refine Wc.seq fun _ hK33=>?_
 refine Wc.block<|Wc.seq fun _ hK34=>rg<|lp _ (qaa e14) ?_
 obtain ⟨x35,h36,hb⟩:=bd hb
 obtain ⟨ad37,cs38,hA,hc39,hr40⟩:=hC.elr (i:=1) rfl (qac h36).2
 subst hA
 refine lp (.pointer (some (ad37.add (d.toNat*1)))) (qag (a:=d) underlying52 sizeOf3 e12 e14 (qac h36).1) ?_
 obtain ⟨rfl,hr40'⟩:=hr40
 refine lv (iv x35) (qah isAgg3 rfl (hc39 0 _ rfl))<|lp (iv d) (qab rfl)<|lp (iv x35) (qab rfl)<|ln (hK34 _ _ ?_)
 refine rg<|lp _ (qaa e3)<|lp (iv x35) (qaa rfl)<|lp (iv d) (qaa rfl) ?_
 obtain ⟨x41,h42,hb⟩:=bd hb
 obtain ⟨ad43,cs44,hA,hc45,hr46⟩:=hC.elo (i:=0) rfl (qac h42).2
 subst hA
 refine lp (.pointer (some (ad43.add (x35.toNat*1)))) (qag (a:=x35) underlying52 sizeOf3 rfl rfl (by rw [(hC.ow (i:=0) rfl).qaf.1]; exact (qac h42).1))<|lex.sk (hC.put (i:=0) rfl rfl sizeOf3 (k:=x35.toNat) (a:=d) (by have:=(qac h42).1; simp at this⊢; omega) (⟨rfl,I64.wr j⟩) rfl rfl rfl) ?_
 rintro w47 ⟨hC,hF⟩
 refine ln (hK33 _ _ ?_)
 refine rg ?_
 obtain ⟨z48,h49,hb⟩:=bd hb
 refine lp (iv z48) (qak (a:=d) (b:=1) e14 rfl h49)<|lp (iv z48) (qaa rfl)<|ln ?_
 obtain rfl:=os hb
 exact hK25 m26' _ _ (Nat.lt_succ_self _) ⟨z48,(f.set x35.toNat d),e2,e3,e12,e13,rfl,(qai h49),hC.sE [0,1],lN hl0⟩
 replace hb:=tf hq32 hb
 refine Wc.exit rfl ?_
 obtain rfl:=os hb
 obtain rfl:=(lX hl0).symm
 exact hK24 _ _ ⟨d,f,e2,e3,j,hC.sE [0],hbK0⟩
 clear hb hC hl0
 rintro E51 w50 ⟨d,f,e2,e3,j,hC,hb⟩
 refine hK20 _ _<|Wc.seq fun _ hK52=>rg<|lp _ (qaa e3)<|lp (.slice A14 (((rZ c.length)).length) c15) (qab rfl)<|ln (hK52 _ _ ?_)
 obtain rfl:=os hb
 refine Wc.ret (hKR _ _ ?_)
 refine ⟨_,res1 results80 (tV (.slice A14 (((rZ c.length)).length) c15) rfl),_,rfl,A14,((rZ c.length)).length,c15,rfl,hC.sE [0]⟩

theorem homs_multiply_ok (n:Nat) {w:World} {O0:List Nat} (hO: ∀k∈O0,k<w.heap.size) {f:Option Addr} {G g:Nat} {c:List Int} {H:Option Addr} {Q q:Nat} {l:List Int} (R:Rep O0 w (.sl si) [.slice H Q q] l) {z:Option Addr} {S B:Nat} {y:List (List Int)} (T:Rep O0 w (.sl (.sl si)) [.slice z S B] y) {h:Option Addr} {J j:Nat} {d:List (List Int)} (K:Rep O0 w (.sl (.sl si)) [.slice h J j] d) (hio:Tk O0 w [.own 3 si (.slice f G g) c]) {r:(List Int)} (hb:F.qfo n c l y d=some r):
    Calls prog 81 #[.slice f G g,.slice H Q q,.slice z S B,.slice h J j] w fun e w'=> ∃v,e=.returned v∧v=.tuple #[]∧Cx (fun k=>k∈blocks [.own 3 si (.slice f G g) c]) O0 w w' [.own 3 si (.slice f G g) r]:=by
 unfold F.qfo at hb
 have hC:=Cx.startTk hO hio
 have hsub:=hio.2.2
 replace hC:=hC.argTk (by first | exact hsub | exact fun k hk=>hsub k (by simpa [blocks,Fact.blk] using hk)) R
 replace hC:=hC.argTk (by first | exact hsub | exact fun k hk=>hsub k (by simpa [blocks,Fact.blk] using hk)) T
 replace hC:=hC.argTk (by first | exact hsub | exact fun k hk=>hsub k (by simpa [blocks,Fact.blk] using hk)) K
 clear hO
 obtain ⟨rfl,a1,a2⟩:=R.qaf
 obtain ⟨rfl,a3,a4⟩:=T.qaf
 obtain ⟨rfl,U,V⟩:=K.qaf
 obtain ⟨rfl,X,Y⟩:=(hC.ow (i:=3) rfl).qaf
 clear hio hsub
 obtain ⟨I,hI,hC⟩: ∃I:Nat→Prop,I=(fun k=>k∈blocks [.own 3 si (.slice f c.length g) c])∧Cx I O0 w w ([.ro (.sl (.sl si)) [.slice h d.length j] d,.ro (.sl (.sl si)) [.slice z y.length B] y,.ro (.sl si) [.slice H l.length q] l,.own 3 si (.slice f c.length g) c]):=⟨_,rfl,hC⟩
 refine qao func81 rfl (by rw [ntmps81]; exact nb rfl) fun KR hKR=>?_
 refine Wc.seq fun _ hK5=>rg<|lp (.slice H l.length q) (qaa rfl)<|lp (iv (l.length:Int)) (qan (A:=H) (n:=l.length) (m:=q) underlying27 rfl)<|lp (iv 0) (qaa rfl)<|ln (hK5 _ _ ?_)
 obtain ⟨o6,hl0,hb⟩:=bd hb
 refine Wc.cut (fun E wv=> ∃(o:Int) (s:List Int),I64 o∧Cx I O0 w wv [.own 3 si (.slice f c.length g) s]∧(some s:Option ((List Int)))=some r) (fun _ hK7=>?_) ?_
 refine Wc.block ?_
 refine Wc.loop (fun m E wv=> ∃(o:Int) (s:List Int),E 0=.slice f c.length g∧E 2=.slice z y.length B∧E 3=.slice h d.length j∧E 13=.slice H l.length q∧E 14=iv (l.length:Int)∧E 15=iv o∧I64 o∧Cx I O0 w wv [.own 3 si (.slice f c.length g) s,.ro (.sl (.sl si)) [.slice z y.length B] y,.ro (.sl (.sl si)) [.slice h d.length j] d,.ro (.sl si) [.slice H l.length q] l]∧loopN m (F.qdd n c l y d) (o,s)=some o6) n ⟨0,c,rfl,rfl,rfl,rfl,rfl,rfl,(show I64 0 from by unfold I64; omega),hC.sE [3,1,0,2],hl0⟩ ?_
 have hbK0:=hb
 clear hb hC hl0
 rintro m9 E11 w10 ⟨o,s,e0,e2,e3,e13,e14,e15,N,hC,hl0⟩ K8 hK8
 obtain ⟨m9',o12,rfl,hb,hl0⟩:=qam hl0
 unfold F.qdd at hb
 refine Wc.seq fun _ hK13=>rg<|lp _ (qau e15 e14)<|ln (hK13 _ _ ?_)
 refine Wc.seq fun _ hK14=>?_
 refine Wc.cond (t:=(decide (o<(l.length:Int)))) (rfl) (fun hq15=>?_) (fun hq15=>?_)
 replace hb:=tt hq15 hb
 refine Wc.skip (hK14 _ _ ?_)
 refine Wc.seq fun _ hK16=>?_
 refine Wc.block<|Wc.seq fun _ hK17=>rg ?_
 obtain ⟨x18,h19,hb⟩:=bd hb
 obtain ⟨ad20,cs21,hA,hc22,hr23⟩:=hC.elr (i:=3) rfl (qac h19).2
 subst hA
 refine lp (.pointer (some (ad20.add (o.toNat*1)))) (qag (a:=o) underlying27 sizeOf3 e13 e15 (qac h19).1) ?_
 obtain ⟨rfl,hr23'⟩:=hr23
 refine lv (iv x18) (qah isAgg3 rfl (hc22 0 _ rfl))<|lp (iv x18) (qab rfl)<|ln (hK17 _ _ ?_)
 refine Wc.seq fun _ hK24=>rg<|lp (.slice none 0 0) (qab rfl)<|ln (hK24 _ _ ?_)
 refine Wc.seqJ (fun E wv=> ∃(u:List Int) (L:Bool) (C:Option Addr) (M D:Nat),E 0=.slice f c.length g∧E 2=.slice z y.length B∧E 3=.slice h d.length j∧E 9=iv x18∧E 10=.slice C M D∧E 13=.slice (some ad20) l.length q∧E 14=iv (l.length:Int)∧E 15=iv o∧E 16=.bool (decide (o<(l.length:Int)))∧E 20=.bool L∧Cx I O0 w wv [.own 3 si (.slice f c.length g) s,.ro (.sl (.sl si)) [.slice z y.length B] y,.ro (.sl (.sl si)) [.slice h d.length j] d,.ro (.sl si) [.slice C M D] u,.ro (.sl si) [.slice (some ad20) l.length q] l]∧F.qei n c o s u L=some o12) (fun _ hK25=>?_) ?_
 refine Wc.seq fun _ hK26=>rg<|lp (iv x18) (qaa rfl)<|lp (.bool (decide (0<x18))) (qbi (k:=.i64) (a:=x18) (b:=0) rfl rfl)<|ln (hK26 _ _ ?_)
 refine Wc.cond (t:=(decide (0<x18))) (rfl) (fun hq27=>?_) (fun hq27=>?_)
 replace hb:=tt hq27 hb
 refine rg<|lp _ (qaa e2)<|lp (iv x18) (qaa rfl) ?_
 obtain ⟨z28,h29,hb⟩:=bd hb
 refine lp (iv z28) (qbu (a:=x18) (b:=1) rfl rfl h29) ?_
 obtain ⟨x30,h31,hb⟩:=bd hb
 obtain ⟨ad32,cs33,hA,hc34,hr35⟩:=hC.elr (i:=1) rfl (qac h31).2
 subst hA
 refine lp (.pointer (some (ad32.add (z28.toNat*1)))) (qag (a:=z28) underlying77 sizeOf52 rfl rfl (qac h31).1) ?_
 have hR:=hr35
 obtain ⟨A36,c37,rfl,hl38,hc39,_⟩:=hr35
 replace hC:=hC.ro hR
 clear hR
 refine lv (.slice A36 x30.length c37) (qah isAgg52 rfl (hc34 0 _ rfl))<|lp (.slice A36 x30.length c37) (qab rfl)<|ln ?_
 exact hK25 _ _ ⟨x30,(decide (0<x18)),A36,x30.length,c37,e0,e2,e3,rfl,rfl,e13,e14,e15,rfl,rfl,hC.sE [1,2,3,0,4],hb⟩
 replace hb:=tf hq27 hb
 refine rg<|lp _ (qaa e3)<|lp (iv x18) (qaa rfl) ?_
 obtain ⟨z41,h42,hb⟩:=bd hb
 refine lp (iv z41) (qbx (a:=x18) rfl h42) ?_
 obtain ⟨z43,h44,hb⟩:=bd hb
 refine lp (iv z43) (qbu (a:=z41) (b:=1) rfl rfl h44) ?_
 obtain ⟨x45,h46,hb⟩:=bd hb
 obtain ⟨ad47,cs48,hA,hc49,hr50⟩:=hC.elr (i:=2) rfl (qac h46).2
 subst hA
 refine lp (.pointer (some (ad47.add (z43.toNat*1)))) (qag (a:=z43) underlying77 sizeOf52 rfl rfl (qac h46).1) ?_
 have hR:=hr50
 obtain ⟨A51,c52,rfl,hl53,hc54,_⟩:=hr50
 replace hC:=hC.ro hR
 clear hR
 refine lv (.slice A51 x45.length c52) (qah isAgg52 rfl (hc49 0 _ rfl))<|lp (.slice A51 x45.length c52) (qab rfl)<|ln ?_
 exact hK25 _ _ ⟨x45,(decide (0<x18)),A51,x45.length,c52,e0,e2,e3,rfl,rfl,e13,e14,e15,rfl,rfl,hC.sE [1,2,3,0,4],hb⟩
 clear hb hC
 rintro E57 w56 ⟨u,L,C,M,D,e0,e2,e3,e9,e10,e13,e14,e15,e16,e20,hC,hb⟩
 unfold F.qei at hb
 obtain ⟨rfl,Z,a0⟩:=(hC.rd (i:=3) rfl).qaf
 refine Wc.seq fun _ hK58=>rg<|lp _ (qaa e0)<|lp (iv (c.length:Int)) (qan (A:=f) (n:=c.length) (m:=g) underlying52 rfl)<|lp (iv 0) (qaa rfl)<|ln (hK58 _ _ ?_)
 obtain ⟨o59,hl2,hb⟩:=bd hb
 refine Wc.cut (fun E wv=> ∃(p:Int) (x:List Int),E 0=.slice f c.length g∧E 2=.slice z y.length B∧E 3=.slice h d.length j∧E 9=iv x18∧E 10=.slice C u.length D∧E 13=.slice (some ad20) l.length q∧E 14=iv (l.length:Int)∧E 15=iv o∧E 16=.bool (decide (o<(l.length:Int)))∧E 20=.bool L∧E 32=.slice f c.length g∧E 33=iv (c.length:Int)∧E 34=iv p∧I64 p∧Cx I O0 w wv [.own 3 si (.slice f c.length g) x,.ro (.sl (.sl si)) [.slice z y.length B] y,.ro (.sl (.sl si)) [.slice h d.length j] d,.ro (.sl si) [.slice C u.length D] u,.ro (.sl si) [.slice (some ad20) l.length q] l]∧((chk (o+1)).bind fun z94=>some (.inl (z94,x)):Option ((Int×(List Int))⊕((Int×(List Int)))))=some o12) (fun _ hK60=>?_) ?_
 refine Wc.block ?_
 refine Wc.loop (fun m E wv=> ∃(p:Int) (x:List Int),E 0=.slice f c.length g∧E 2=.slice z y.length B∧E 3=.slice h d.length j∧E 9=iv x18∧E 10=.slice C u.length D∧E 13=.slice (some ad20) l.length q∧E 14=iv (l.length:Int)∧E 15=iv o∧E 16=.bool (decide (o<(l.length:Int)))∧E 20=.bool L∧E 32=.slice f c.length g∧E 33=iv (c.length:Int)∧E 34=iv p∧I64 p∧Cx I O0 w wv [.own 3 si (.slice f c.length g) x,.ro (.sl (.sl si)) [.slice z y.length B] y,.ro (.sl (.sl si)) [.slice h d.length j] d,.ro (.sl si) [.slice C u.length D] u,.ro (.sl si) [.slice (some ad20) l.length q] l]∧loopN m (F.qbk n c u) (p,x)=some o59) n ⟨0,s,e0,e2,e3,e9,e10,e13,e14,e15,e16,e20,rfl,rfl,rfl,(show I64 0 from by unfold I64; omega),hC.sE [0,1,2,3,4],hl2⟩ ?_
 have hbK2:=hb
 clear hb hC hl2
 rintro m62 E64 w63 ⟨p,x,e0,e2,e3,e9,e10,e13,e14,e15,e16,e20,e32,e33,e34,P,hC,hl2⟩ K61 hK61
 obtain ⟨m62',o65,rfl,hb,hl2⟩:=qam hl2
 unfold F.qbk at hb
 refine Wc.seq fun _ hK66=>rg<|lp _ (qau e34 e33)<|ln (hK66 _ _ ?_)
 refine Wc.seq fun _ hK67=>?_
 refine Wc.cond (t:=(decide (p<(c.length:Int)))) (rfl) (fun hq68=>?_) (fun hq68=>?_)
 replace hb:=tt hq68 hb
 refine Wc.skip (hK67 _ _ ?_)
 refine Wc.seq fun _ hK69=>?_
 refine Wc.block<|Wc.seq fun _ hK70=>rg<|lp _ (qaa e34) ?_
 obtain ⟨x71,h72,hb⟩:=bd hb
 obtain ⟨ad73,cs74,hA,hc75,hr76⟩:=hC.elo (i:=0) rfl (qac h72).2
 subst hA
 refine lp (.pointer (some (ad73.add (p.toNat*1)))) (qag (a:=p) underlying52 sizeOf3 e32 e34 (by rw [(hC.ow (i:=0) rfl).qaf.1]; exact (qac h72).1)) ?_
 obtain ⟨rfl,hr76'⟩:=hr76
 refine lv (iv x71) (qah isAgg3 rfl (hc75 0 _ rfl))<|lp (iv p) (qab rfl)<|lp (iv x71) (qab rfl)<|ln (hK70 _ _ ?_)
 refine rg<|lp _ (qaa e0)<|lp (iv p) (qaa rfl)<|lp _ (qaa e10)<|lp (iv x71) (qaa rfl) ?_
 obtain ⟨x77,h78,hb⟩:=bd hb
 obtain ⟨ad79,cs80,hA,hc81,hr82⟩:=hC.elr (i:=3) rfl (qac h78).2
 subst hA
 refine lp (.pointer (some (ad79.add (x71.toNat*1)))) (qag (a:=x71) underlying52 sizeOf3 rfl rfl (qac h78).1) ?_
 obtain ⟨rfl,hr82'⟩:=hr82
 refine lv (iv x77) (qah isAgg3 rfl (hc81 0 _ rfl)) ?_
 obtain ⟨x83,h84,hb⟩:=bd hb
 obtain ⟨ad85,cs86,hA,hc87,hr88⟩:=hC.elo (i:=0) rfl (qac h84).2
 obtain rfl:=Option.some.inj hA
 refine lp (.pointer (some (ad73.add (p.toNat*1)))) (qag (a:=p) underlying52 sizeOf3 rfl rfl (by rw [(hC.ow (i:=0) rfl).qaf.1]; exact (qac h84).1))<|lex.sk (hC.put (i:=0) rfl rfl sizeOf3 (k:=p.toNat) (a:=x77) (by have:=(qac h84).1; simp at this⊢; omega) (⟨rfl,I64.wr (qbl hr82')⟩) rfl rfl rfl) ?_
 rintro w89 ⟨hC,hF⟩
 refine ln (hK69 _ _ ?_)
 refine rg ?_
 obtain ⟨z90,h91,hb⟩:=bd hb
 refine lp (iv z90) (qak (a:=p) (b:=1) e34 rfl h91)<|lp (iv z90) (qaa rfl)<|ln ?_
 obtain rfl:=os hb
 exact hK61 m62' _ _ (Nat.lt_succ_self _) ⟨z90,(x.set p.toNat x77),e0,e2,e3,e9,e10,e13,e14,e15,e16,e20,e32,e33,rfl,(qai h91),hC.sE [0,1,2,3,4],lN hl2⟩
 replace hb:=tf hq68 hb
 refine Wc.exit rfl ?_
 obtain rfl:=os hb
 obtain rfl:=(lX hl2).symm
 exact hK60 _ _ ⟨p,x,e0,e2,e3,e9,e10,e13,e14,e15,e16,e20,e32,e33,e34,P,hC.sE [0,1,2,3,4],hbK2⟩
 clear hb hC hl2
 rintro E93 w92 ⟨p,x,e0,e2,e3,e9,e10,e13,e14,e15,e16,e20,e32,e33,e34,P,hC,hb⟩
 refine hK16 _ _<|rg ?_
 obtain ⟨z94,h95,hb⟩:=bd hb
 refine lp (iv z94) (qak (a:=o) (b:=1) e15 rfl h95)<|lp (iv z94) (qaa rfl)<|ln ?_
 obtain rfl:=os hb
 exact hK8 m9' _ _ (Nat.lt_succ_self _) ⟨z94,x,e0,e2,e3,e13,e14,rfl,(qai h95),hC.sE [0,1,2,4],lN hl0⟩
 replace hb:=tf hq15 hb
 refine Wc.exit rfl ?_
 obtain rfl:=os hb
 obtain rfl:=(lX hl0).symm
 exact hK7 _ _ ⟨o,s,N,hC.sE [0],hbK0⟩
 clear hb hC hl0
 rintro E97 w96 ⟨o,s,N,hC,hb⟩
 obtain rfl:=os hb
 subst hI
 refine hKR _ _ ?_
 refine ⟨_,res0 results81,_,rfl,rfl,hC.sE [0]⟩

theorem slices_Equal_Perm_int_ok (n:Nat) {w:World} {O0:List Nat} (hO: ∀k∈O0,k<w.heap.size) {g:Option Addr} {p h:Nat} {d:List Int} (q:Rep O0 w (.sl si) [.slice g p h] d) {j:Option Addr} {s l:Nat} {f:List Int} (u:Rep O0 w (.sl si) [.slice j s l] f) {r:Bool} (hb:F.qcb n d f=some r):
    Calls prog 46 #[.slice g p h,.slice j s l] w fun e w'=> ∃v,e=.returned v∧v=.bool r∧Cx (fun _=>False) O0 w w' []:=by
 unfold F.qcb at hb
 have hC:=Cx.start hO
 replace hC:=hC.arg rfl q
 replace hC:=hC.arg rfl u
 clear hO
 obtain ⟨rfl,x,y⟩:=q.qaf
 obtain ⟨rfl,z,B⟩:=u.qaf
 refine qao func46 rfl (by rw [ntmps46]; exact nb rfl) fun KR hKR=>?_
 refine Wc.seq fun _ hK3=>rg<|lp (.bool false) (qab rfl)<|ln (hK3 _ _ ?_)
 refine Wc.seq fun _ hK4=>?_
 refine Wc.seq fun _ hK5=>rg<|lp (.slice g d.length h) (qaa rfl)<|lp (iv (d.length:Int)) (qan (A:=g) (n:=d.length) (m:=h) underlying52 rfl)<|lp (.slice j f.length l) (qaa rfl)<|lp (iv (f.length:Int)) (qan (A:=j) (n:=f.length) (m:=l) underlying52 rfl)<|lp (.bool (!(decide ((d.length:Int)=(f.length:Int))))) (qbv (k:=.i64) (a:=(d.length:Int)) (b:=(f.length:Int)) rfl rfl)<|ln (hK5 _ _ ?_)
 refine Wc.cond (t:=(!(decide ((d.length:Int)=(f.length:Int))))) (rfl) (fun hq6=>?_) (fun hq6=>?_)
 replace hb:=tt hq6 hb
 refine Wc.seq fun _ hK7=>rg<|lp (.bool false) (qab rfl)<|ln (hK7 _ _ ?_)
 obtain rfl:=os hb
 refine Wc.ret (hKR _ _ ?_)
 refine ⟨_,res1 results46 (tV (.bool false) rfl),_,rfl,rfl,hC.sE []⟩
 replace hb:=tf hq6 hb
 refine Wc.skip (hK4 _ _ ?_)
 refine Wc.seq fun _ hK8=>?_
 refine Wc.seq fun _ hK9=>rg<|lp (.slice g d.length h) (qaa rfl)<|lp (iv (d.length:Int)) (qan (A:=g) (n:=d.length) (m:=h) underlying52 rfl)<|lp (iv 0) (qaa rfl)<|ln (hK9 _ _ ?_)
 obtain ⟨o10,hl0,hb⟩:=bd hb
 refine Wc.cut (fun E wv=> ∃(c:Int),E 4=.bool false∧I64 c∧Cx (fun _=>False) O0 w wv []∧(some true:Option (Bool))=some r) (fun _ hK11=>?_) ?_
 refine Wc.block ?_
 refine Wc.loop (fun m E wv=> ∃(c:Int),E 0=.slice g d.length h∧E 1=.slice j f.length l∧E 4=.bool false∧E 12=iv (d.length:Int)∧E 13=iv c∧I64 c∧Cx (fun _=>False) O0 w wv [.ro (.sl si) [.slice g d.length h] d,.ro (.sl si) [.slice j f.length l] f]∧loopN m (F.qcg n d f) c=some o10) n ⟨0,rfl,rfl,rfl,rfl,rfl,(show I64 0 from by unfold I64; omega),hC.sE [1,0],hl0⟩ ?_
 have hbK0:=hb
 clear hb hC hl0
 rintro m13 E15 w14 ⟨c,e0,e1,e4,e12,e13,o,hC,hl0⟩ K12 hK12
 obtain ⟨m13',o16,rfl,hb,hl0⟩:=qam hl0
 unfold F.qcg at hb
 refine Wc.seq fun _ hK17=>rg<|lp _ (qau e13 e12)<|ln (hK17 _ _ ?_)
 refine Wc.seq fun _ hK18=>?_
 refine Wc.cond (t:=(decide (c<(d.length:Int)))) (rfl) (fun hq19=>?_) (fun hq19=>?_)
 replace hb:=tt hq19 hb
 refine Wc.skip (hK18 _ _ ?_)
 refine Wc.seq fun _ hK20=>?_
 refine Wc.block<|Wc.seq fun _ hK21=>rg<|lp _ (qaa e13)<|lp (iv c) (qab rfl)<|ln (hK21 _ _ ?_)
 refine Wc.seq fun _ hK22=>?_
 refine Wc.regionMix [] (frm [] ([]:List Fact) ([]:List Fact)) (fun _=>rfl) mixed (by decide+kernel) (by decide+kernel) fun w24 hw23=>?_
 replace hC:=hC.step (Fr.qbh hw23)
 have hM:=Fr.refl (fun k=>k∈blocks ([]:List Fact)) w24
 clear hw23
 have hS:=hC
 refine mp (.slice g d.length h) (qaa e0)<|mp (iv c) (qaa rfl) ?_
 obtain ⟨x25,h26,hb⟩:=bd hb
 obtain ⟨ad27,cs28,hA,ho31,hc29,hr30⟩:=hS.elr2 (i:=0) rfl (qac h26).2 []
 subst hA
 refine mp (.pointer (some (ad27.add (c.toNat*1)))) (qag (a:=c) underlying52 sizeOf3 rfl rfl (qac h26).1) ?_
 obtain ⟨rfl,hr30'⟩:=hr30
 refine mixE.load hM (v:=iv x25) (fun _ hF=>qah isAgg3 rfl (hF.cell (hc29 0 _ rfl) (off1 ho31)))<|mp (.slice j f.length l) (qaa e1)<|mp (iv c) (qaa rfl) ?_
 obtain ⟨x32,h33,hb⟩:=bd hb
 obtain ⟨ad34,cs35,hA,ho38,hc36,hr37⟩:=hS.elr2 (i:=1) rfl (qac h33).2 []
 subst hA
 refine mp (.pointer (some (ad34.add (c.toNat*1)))) (qag (a:=c) underlying52 sizeOf3 rfl rfl (qac h33).1) ?_
 obtain ⟨rfl,hr37'⟩:=hr37
 refine mixE.load hM (v:=iv x32) (fun _ hF=>qah isAgg3 rfl (hF.cell (hc36 0 _ rfl) (off1 ho38)))<|mp (.bool (!(decide (x25=x32)))) (qbv (k:=.i64) (a:=x25) (b:=x32) rfl rfl)<|mixE.nil ?_
 clear hS hM
 refine hK22 _ _<|Wc.cond (t:=(!(decide (x25=x32)))) (rfl) (fun hq39=>?_) (fun hq39=>?_)
 replace hb:=tt hq39 hb
 refine Wc.seq fun _ hK40=>rg<|lp (.bool false) (qab rfl)<|ln (hK40 _ _ ?_)
 obtain rfl:=os hb
 obtain rfl:=(lX hl0).symm
 replace hb:=hbK0
 obtain rfl:=os hb
 refine Wc.ret (hKR _ _ ?_)
 refine ⟨_,res1 results46 (tV (.bool false) rfl),_,rfl,rfl,hC.sE []⟩
 replace hb:=tf hq39 hb
 refine Wc.skip (hK20 _ _ ?_)
 refine rg ?_
 obtain ⟨z41,h42,hb⟩:=bd hb
 refine lp (iv z41) (qak (a:=c) (b:=1) e13 rfl h42)<|lp (iv z41) (qaa rfl)<|ln ?_
 obtain rfl:=os hb
 exact hK12 m13' _ _ (Nat.lt_succ_self _) ⟨z41,e0,e1,e4,e12,rfl,(qai h42),hC.sE [0,1],lN hl0⟩
 replace hb:=tf hq19 hb
 refine Wc.exit rfl ?_
 obtain rfl:=os hb
 obtain rfl:=(lX hl0).symm
 exact hK11 _ _ ⟨c,e4,o,hC.sE [],hbK0⟩
 clear hb hC hl0
 rintro E44 w43 ⟨c,e4,o,hC,hb⟩
 refine hK8 _ _<|Wc.seq fun _ hK45=>rg<|lp (.bool true) (qab rfl)<|ln (hK45 _ _ ?_)
 obtain rfl:=os hb
 refine Wc.ret (hKR _ _ ?_)
 refine ⟨_,res1 results46 (tV (.bool true) rfl),_,rfl,rfl,hC.sE []⟩

theorem homs_find_c1_ok (n:Nat): ∀{w:World} {O0:List Nat} (hO: ∀k∈O0,k<w.heap.size) {u:Int} (f4:I64 u) {a8:Nat} {a9:Int} (d5:I64 a9) {U:Option Addr} {c4 V:Nat} {J:List Int} (c5:Rep O0 w (.sl si) [.slice U c4 V] J) {X:Option Addr} {c6 Y:Nat} {K:List (List Int)} (c7:Rep O0 w (.sl (.sl si)) [.slice X c6 Y] K) {b0:Nat} {l:Nat} {a7:Int} (b9:I64 a7) {a0:Nat} {C:Option Addr} {c0 c:Nat} {d:List (List Int)} {b1:Nat} {b2:Option Addr} {c8 G:Nat} {o:List (List Int)} (c9:Rep O0 w (.sl (.sl si)) [.slice b2 c8 G] o) {R:Nat} {b8:Int} (d0:I64 b8) {a1:Nat} {L:Option Addr} {c1 f:Nat} {p:List (List Int)} {a2:Nat} {b5:Option Addr} {d1 S:Nat} {D:List (List (List Int))} (d2:Rep O0 w (.sl (.sl (.sl si))) [.slice b5 d1 S] D) {a3:Nat} {x:Option Addr} {c2 y:Nat} {B:List Int} {a4:Nat} {M:Option Addr} {d3 N:Nat} {z:List Int} (d4:Rep O0 w (.sl si) [.slice M d3 N] z) {Q:Nat} (d9:RBox O0 w a8 48 [iv a9,.slice U c4 V,.slice X c6 Y]) (e1:RBox O0 w b0 98 [.func (.func 55) #[] #[pg l]]) (e2:RBox O0 w a0 77 [.slice C c0 c]) (e4:RBox O0 w b1 77 [.slice b2 c8 G]) (f0:RBox O0 w a1 77 [.slice L c1 f]) (f1:RBox O0 w a2 118 [.slice b5 d1 S]) (f2:RBox O0 w a3 52 [.slice x c2 y]) (f3:RBox O0 w a4 52 [.slice M d3 N]) (d6:RBox O0 w Q 113 [.func (.func 79) #[] #[pg a8,pg b0,pg a0,pg b1,pg R,pg a1,pg a2,pg a3,pg a4,pg Q]]) (hio:Tk O0 w [.own 52 (.sl si) (.slice C c0 c) d,.own 52 (.sl si) (.slice L c1 f) p,.own 3 si (.slice x c2 y) B,.box l 3 [iv a7],.box R 3 [iv b8]]) {r:Bool×(List (List Int))×(List (List Int))×(List Int)×Int×Int} (hb:F.qbr n u a9 J K a7 d o b8 p D B z=some r),
    Calls prog 79 #[iv u,pg a8,pg b0,pg a0,pg b1,pg R,pg a1,pg a2,pg a3,pg a4,pg Q] w fun e w'=> ∃v,e=.returned v∧v=.bool r.1∧I64 r.2.2.2.2.1∧I64 r.2.2.2.2.2∧Cx (fun k=>k∈blocks [.own 52 (.sl si) (.slice C c0 c) d,.own 52 (.sl si) (.slice L c1 f) p,.own 3 si (.slice x c2 y) B,.box l 3 [iv a7],.box R 3 [iv b8]]) O0 w w' [.own 52 (.sl si) (.slice C c0 c) r.2.1,.own 52 (.sl si) (.slice L c1 f) r.2.2.1,.own 3 si (.slice x c2 y) r.2.2.2.1,.box l 3 [iv r.2.2.2.2.1],.box R 3 [iv r.2.2.2.2.2]]:=by
  induction n with
  | zero=>
    intro w O0 hO u f4 a8 a9 d5 U c4 V J c5 X c6 Y K c7 b0 l a7 b9 a0 C c0 c d b1 b2 c8 G o c9 R b8 d0 a1 L c1 f p a2 b5 d1 S D d2 a3 x c2 y B a4 M d3 N z d4 Q d9 e1 e2 e4 f0 f1 f2 f3 d6 hio r hb
    rw [F.qbr] at hb
    cases hb
  | succ n ih=>
    intro w O0 hO u f4 a8 a9 d5 U c4 V J c5 X c6 Y K c7 b0 l a7 b9 a0 C c0 c d b1 b2 c8 G o c9 R b8 d0 a1 L c1 f p a2 b5 d1 S D d2 a3 x c2 y B a4 M d3 N z d4 Q d9 e1 e2 e4 f0 f1 f2 f3 d6 hio r hb
    rw [F.qbr] at hb
    have hC:=Cx.startTk hO hio
    have hsub:=hio.2.2
    replace hC:=hC.argTk (by first | exact hsub | exact fun k hk=>hsub k (by simpa [blocks,Fact.blk] using hk)) c5
    replace hC:=hC.argTk (by first | exact hsub | exact fun k hk=>hsub k (by simpa [blocks,Fact.blk] using hk)) c7
    replace hC:=hC.argTk (by first | exact hsub | exact fun k hk=>hsub k (by simpa [blocks,Fact.blk] using hk)) c9
    replace hC:=hC.argTk (by first | exact hsub | exact fun k hk=>hsub k (by simpa [blocks,Fact.blk] using hk)) d2
    replace hC:=hC.argTk (by first | exact hsub | exact fun k hk=>hsub k (by simpa [blocks,Fact.blk] using hk)) d4
    replace hC:=hC.argB (by first | exact hsub | exact fun k hk=>hsub k (by simpa [blocks,Fact.blk] using hk) | exact fun k hk=>absurd hk (by simp [blocks,Fact.blk])) d9
    replace hC:=hC.argB (by first | exact hsub | exact fun k hk=>hsub k (by simpa [blocks,Fact.blk] using hk) | exact fun k hk=>absurd hk (by simp [blocks,Fact.blk])) e1
    replace hC:=hC.argB (by first | exact hsub | exact fun k hk=>hsub k (by simpa [blocks,Fact.blk] using hk) | exact fun k hk=>absurd hk (by simp [blocks,Fact.blk])) e2
    replace hC:=hC.argB (by first | exact hsub | exact fun k hk=>hsub k (by simpa [blocks,Fact.blk] using hk) | exact fun k hk=>absurd hk (by simp [blocks,Fact.blk])) e4
    replace hC:=hC.argB (by first | exact hsub | exact fun k hk=>hsub k (by simpa [blocks,Fact.blk] using hk) | exact fun k hk=>absurd hk (by simp [blocks,Fact.blk])) f0
    replace hC:=hC.argB (by first | exact hsub | exact fun k hk=>hsub k (by simpa [blocks,Fact.blk] using hk) | exact fun k hk=>absurd hk (by simp [blocks,Fact.blk])) f1
    replace hC:=hC.argB (by first | exact hsub | exact fun k hk=>hsub k (by simpa [blocks,Fact.blk] using hk) | exact fun k hk=>absurd hk (by simp [blocks,Fact.blk])) f2
    replace hC:=hC.argB (by first | exact hsub | exact fun k hk=>hsub k (by simpa [blocks,Fact.blk] using hk) | exact fun k hk=>absurd hk (by simp [blocks,Fact.blk])) f3
    replace hC:=hC.argB (by first | exact hsub | exact fun k hk=>hsub k (by simpa [blocks,Fact.blk] using hk) | exact fun k hk=>absurd hk (by simp [blocks,Fact.blk])) d6
    clear hO
    obtain ⟨rfl,f5,f6⟩:=c5.qaf
    obtain ⟨rfl,f7,f8⟩:=c7.qaf
    obtain ⟨rfl,f9,g0⟩:=c9.qaf
    obtain ⟨rfl,g1,g2⟩:=d2.qaf
    obtain ⟨rfl,g3,g4⟩:=d4.qaf
    obtain ⟨rfl,g5,g6⟩:=(hC.ow (i:=14) rfl).qaf
    obtain ⟨rfl,g7,g8⟩:=(hC.ow (i:=15) rfl).qaf
    obtain ⟨rfl,g9,h0⟩:=(hC.ow (i:=16) rfl).qaf
    clear hio hsub
    obtain ⟨I,hI,hC⟩: ∃I:Nat→Prop,I=(fun k=>k∈blocks [.own 52 (.sl si) (.slice C d.length c) d,.own 52 (.sl si) (.slice L p.length f) p,.own 3 si (.slice x B.length y) B,.box l 3 [iv a7],.box R 3 [iv b8]])∧Cx I O0 w w ([.rbox Q 113 [.func (.func 79) #[] #[pg a8,pg b0,pg a0,pg b1,pg R,pg a1,pg a2,pg a3,pg a4,pg Q]],.rbox a4 52 [.slice M z.length N],.rbox a3 52 [.slice x B.length y],.rbox a2 118 [.slice b5 D.length S],.rbox a1 77 [.slice L p.length f],.rbox b1 77 [.slice b2 o.length G],.rbox a0 77 [.slice C d.length c],.rbox b0 98 [.func (.func 55) #[] #[pg l]],.rbox a8 48 [iv a9,.slice U J.length V,.slice X K.length Y],.ro (.sl si) [.slice M z.length N] z,.ro (.sl (.sl (.sl si))) [.slice b5 D.length S] D,.ro (.sl (.sl si)) [.slice b2 o.length G] o,.ro (.sl (.sl si)) [.slice X K.length Y] K,.ro (.sl si) [.slice U J.length V] J,.own 52 (.sl si) (.slice C d.length c) d,.own 52 (.sl si) (.slice L p.length f) p,.own 3 si (.slice x B.length y) B,.box l 3 [iv a7],.box R 3 [iv b8]]):=⟨_,rfl,hC⟩
    refine qao func79 rfl (by rw [ntmps79]; exact nb rfl) fun KR hKR=>?_
    refine Wc.seq fun _ hK20=>?_
    refine rg ?_
    refine lp (.bool false) (qab rfl) ?_
    refine ln ?_
    refine hK20 _ _ ?_
    refine Wc.scope ?_
    refine Wc.seq fun _ hK21=>?_
    refine Wc.seq fun _ hK22=>?_
    refine rg ?_
    refine lp (iv u) (qaa rfl) ?_
    refine lp (.pointer (some ((⟨a8,0,none⟩:Addr).add 0))) (qal (sz:=1) underlying48 rfl sizeOf3 (by decide) rfl rfl) ?_
    refine lv (iv a9) (qar (hC.rbx (i:=8) rfl) isAgg3 rfl rfl) ?_
    refine lp (.bool (decide (u=a9))) (qcu (k:=.i64) (a:=u) (b:=a9) rfl rfl) ?_
    refine ln ?_
    refine hK22 _ _ ?_
    refine Wc.cond (t:=(decide (u=a9))) (rfl) (fun hq23=>?_) (fun hq23=>?_)
    · replace hb:=tt hq23 hb
      refine Wc.seq fun _ hK24=>?_
      refine rg ?_
      refine lv (.func (.func 55) #[] #[pg l]) (qah isAgg98 rfl ((hC.rbx (i:=7) rfl).cell (j:=0) rfl)) ?_
      refine lv (.slice C d.length c) (qah isAgg77 rfl ((hC.rbx (i:=6) rfl).cell (j:=0) rfl)) ?_
      replace hC:Cx I O0 w w ([.box l 3 [iv a7]]++[.rbox Q 113 [.func (.func 79) #[] #[pg a8,pg b0,pg a0,pg b1,pg R,pg a1,pg a2,pg a3,pg a4,pg Q]],.rbox a4 52 [.slice M z.length N],.rbox a3 52 [.slice x B.length y],.rbox a2 118 [.slice b5 D.length S],.rbox a1 77 [.slice L p.length f],.rbox b1 77 [.slice b2 o.length G],.rbox a0 77 [.slice C d.length c],.rbox b0 98 [.func (.func 55) #[] #[pg l]],.rbox a8 48 [iv a9,.slice U J.length V,.slice X K.length Y],.ro (.sl si) [.slice M z.length N] z,.ro (.sl (.sl (.sl si))) [.slice b5 D.length S] D,.ro (.sl (.sl si)) [.slice b2 o.length G] o,.ro (.sl (.sl si)) [.slice X K.length Y] K,.ro (.sl si) [.slice U J.length V] J,.own 52 (.sl si) (.slice C d.length c) d,.own 52 (.sl si) (.slice L p.length f) p,.own 3 si (.slice x B.length y) B,.box R 3 [iv b8]]):=hC.sE [17,0,1,2,3,4,5,6,7,8,9,10,11,12,13,14,15,16,18]
      obtain ⟨y25,h26,hb⟩:=bd hb
      refine lex.cl (⟨_,_,qcf (vs:=[.slice C d.length c,pg l]) (ca:=#[pg l]) call55 rfl rfl rfl,homs_Count_c1_ok n (hC.lentLt [.slice C d.length c]) ((hC.ow (i:=15) rfl).lend (vs:=[.slice C d.length c]) (by simp)) b9 (hC.give.lent [.slice C d.length c] (hC.apart (List.forall_mem_cons.2 ⟨blk_in (i:=14) rfl,fun _ h=>absurd h List.not_mem_nil⟩))) h26⟩) ?_
      rintro _ w28 ⟨rfl,hr27,hK⟩
      replace hC:=hC.back (hK.flatTk rfl hC.lt)
      clear hK
      refine lp (.bool y25.1) (qab rfl) ?_
      refine ln ?_
      refine hK24 _ _ ?_
      obtain rfl:=os hb
      subst hI
      refine Wc.ret ?_
      refine hKR _ _ ?_
      refine ⟨_,res1 results79 (tV (.bool y25.1) rfl),_,rfl,rfl,hr27,d0,hC.sE [15,16,17,0,18]⟩
    · replace hb:=tf hq23 hb
      refine Wc.skip ?_
      refine hK21 _ _ ?_
      refine Wc.seq fun _ hK29=>?_
      refine Wc.label ?_
      refine hK29 _ _ ?_
      refine Wc.seq fun _ hK30=>?_
      refine Wc.seq fun _ hK31=>?_
      refine rg ?_
      refine lv (.slice b2 o.length G) (qah isAgg77 rfl ((hC.rbx (i:=5) rfl).cell (j:=0) rfl)) ?_
      refine lp (iv (o.length:Int)) (qan (A:=b2) (n:=o.length) (m:=G) underlying77 rfl) ?_
      refine lp (iv 0) (qaa rfl) ?_
      refine ln ?_
      refine hK31 _ _ ?_
      obtain ⟨o32,hl0,hb⟩:=bd hb
      refine Wc.cut (fun E wv=> ∃(a6:Int) (T:Int) (Z:List (List Int)) (a5:Int) (P:List (List Int)) (b7:List Int),E 12=.bool false∧I64 a6∧I64 T∧I64 a5∧Cx I O0 w wv [.own 52 (.sl si) (.slice C d.length c) Z,.own 52 (.sl si) (.slice L p.length f) P,.own 3 si (.slice x B.length y) b7,.box l 3 [iv T],.box R 3 [iv a5]]∧(some (true,Z,P,b7,T,a5):Option (Bool×(List (List Int))×(List (List Int))×(List Int)×Int×Int))=some r) (fun _ hK33=>?_) ?_
      · refine Wc.block ?_
        refine Wc.loop (fun m E wv=> ∃(a6:Int) (T:Int) (Z:List (List Int)) (a5:Int) (P:List (List Int)) (b7:List Int),E 0=iv u∧E 3=pg a0∧E 5=pg R∧E 6=pg a1∧E 7=pg a2∧E 8=pg a3∧E 9=pg a4∧E 10=pg Q∧E 12=.bool false∧E 24=.slice b2 o.length G∧E 25=iv (o.length:Int)∧E 26=iv a6∧I64 a6∧I64 T∧I64 a5∧Cx I O0 w wv [.rbox a0 77 [.slice C d.length c],.own 52 (.sl si) (.slice C d.length c) Z,.box R 3 [iv a5],.rbox a1 77 [.slice L p.length f],.own 52 (.sl si) (.slice L p.length f) P,.rbox a2 118 [.slice b5 D.length S],.ro (.sl (.sl (.sl si))) [.slice b5 D.length S] D,.rbox a3 52 [.slice x B.length y],.own 3 si (.slice x B.length y) b7,.rbox a4 52 [.slice M z.length N],.ro (.sl si) [.slice M z.length N] z,.rbox Q 113 [.func (.func 79) #[] #[pg a8,pg b0,pg a0,pg b1,pg R,pg a1,pg a2,pg a3,pg a4,pg Q]],.rbox a8 48 [iv a9,.slice U J.length V,.slice X K.length Y],.ro (.sl si) [.slice U J.length V] J,.ro (.sl (.sl si)) [.slice X K.length Y] K,.rbox b0 98 [.func (.func 55) #[] #[pg l]],.box l 3 [iv T],.rbox b1 77 [.slice b2 o.length G],.ro (.sl (.sl si)) [.slice b2 o.length G] o]∧loopN m (F.qft (F.qbr n) n u a9 J K o D z) (a6,T,Z,a5,P,b7)=some o32) n ⟨0,a7,d,b8,p,B,rfl,rfl,rfl,rfl,rfl,rfl,rfl,rfl,rfl,rfl,rfl,rfl,(show I64 0 from by unfold I64; omega),b9,d0,hC.sE [6,14,18,4,15,3,10,2,16,1,9,0,8,13,12,7,17,5,11],hl0⟩ ?_
        have hbK0:=hb
        clear hb hC hl0
        rintro m35 E37 w36 ⟨a6,T,Z,a5,P,b7,e0,e3,e5,e6,e7,e8,e9,e10,e12,e24,e25,e26,d7,b6,c3,hC,hl0⟩ K34 hK34
        obtain ⟨m35',o38,rfl,hb,hl0⟩:=qam hl0
        unfold F.qft at hb
        refine Wc.seq fun _ hK39=>?_
        refine rg ?_
        refine lp _ (qau e26 e25) ?_
        refine ln ?_
        refine hK39 _ _ ?_
        refine Wc.seq fun _ hK40=>?_
        refine Wc.cond (t:=(decide (a6<(o.length:Int)))) (rfl) (fun hq41=>?_) (fun hq41=>?_)
        · replace hb:=tt hq41 hb
          refine Wc.skip ?_
          refine hK40 _ _ ?_
          refine Wc.seq fun _ hK42=>?_
          refine Wc.block ?_
          refine Wc.seq fun _ hK43=>?_
          refine rg ?_
          obtain ⟨x44,h45,hb⟩:=bd hb
          obtain ⟨ad46,cs47,hA,hc48,hr49⟩:=hC.elr (i:=18) rfl (qac h45).2
          subst hA
          refine lp (.pointer (some (ad46.add (a6.toNat*1)))) (qag (a:=a6) underlying77 sizeOf52 e24 e26 (qac h45).1) ?_
          have hR:=hr49
          obtain ⟨A50,c51,rfl,hl52,hc53,_⟩:=hr49
          replace hC:=hC.ro hR
          clear hR
          refine lv (.slice A50 x44.length c51) (qah isAgg52 rfl (hc48 0 _ rfl)) ?_
          refine lp (.slice A50 x44.length c51) (qab rfl) ?_
          refine ln ?_
          refine hK43 _ _ ?_
          refine Wc.seq fun _ hK55=>?_
          refine rg ?_
          refine lv (iv a5) (qah isAgg3 e5 ((hC.bx (i:=3) rfl).cell (j:=0) rfl)) ?_
          obtain ⟨z56,h57,hb⟩:=bd hb
          refine lp (iv z56) (qak (a:=a5) (b:=1) rfl rfl h57) ?_
          refine lex.sk (hC.setf (i:=3) (k:=0) (v:=iv z56) rfl sizeOf3 rfl (by rw [Addr.add_zero']; exact e5) rfl rfl) ?_
          rintro w58 ⟨hC,hF⟩
          refine ln ?_
          refine hK55 _ _ ?_
          refine Wc.seq fun _ hK59=>?_
          refine Wc.seq fun _ hK60=>?_
          refine rg ?_
          refine lv (iv z56) (qah isAgg3 e5 ((hC.bx (i:=3) rfl).cell (j:=0) rfl)) ?_
          refine lp (.bool (decide (200000<z56))) (qbi (k:=.i64) (a:=z56) (b:=200000) rfl rfl) ?_
          refine ln ?_
          refine hK60 _ _ ?_
          refine Wc.cond (t:=(decide (200000<z56))) (rfl) (fun hq61=>?_) (fun hq61=>?_)
          · replace hb:=tt hq61 hb
            refine Wc.seq fun _ hK62=>?_
            refine rg ?_
            refine lp (.bool false) (qab rfl) ?_
            refine ln ?_
            refine hK62 _ _ ?_
            obtain rfl:=os hb
            obtain rfl:=(lX hl0).symm
            replace hb:=hbK0
            obtain rfl:=os hb
            subst hI
            refine Wc.ret ?_
            refine hKR _ _ ?_
            refine ⟨_,res1 results79 (tV (.bool false) rfl),_,rfl,rfl,b6,(qai h57),hC.sE [2,5,9,17,3]⟩
          · replace hb:=tf hq61 hb
            refine Wc.skip ?_
            refine hK59 _ _ ?_
            refine Wc.seq fun _ hK63=>?_
            refine Wc.regionMix [34,36] (frm [34,36] ([]:List Fact) [.own 52 (.sl si) (.slice C d.length c) Z,.own 52 (.sl si) (.slice L p.length f) P]) (fun _=>rfl) mixed (by decide+kernel) (by decide+kernel) fun w65 hw64=>?_
            replace hC:=hC.step (Fr.qbh hw64)
            have hM:=Fr.refl (fun k=>k∈blocks ([]:List Fact)) w65
            clear hw64
            have hS:=hC
            have hD:Fr (fun k=>k∈blocks (([]:List Fact)++[.own 52 (.sl si) (.slice C d.length c) Z,.own 52 (.sl si) (.slice L p.length f) P])) w65 w65:=hM.wide
            have hUf7:Beside (([]:List Fact)++[.own 52 (.sl si) (.slice C d.length c) Z,.own 52 (.sl si) (.slice L p.length f) P]) w65 (.slice C d.length c):=Beside.of (i:=0) rfl
            have hUf12:Beside (([]:List Fact)++[.own 52 (.sl si) (.slice C d.length c) Z,.own 52 (.sl si) (.slice L p.length f) P]) w65 (.slice L p.length f):=Beside.of (i:=1) rfl
            refine mixE.steady hD (v:=.slice C d.length c) (fun _ hF=>qah isAgg77 e3 ((hS.rbx2 (i:=1) rfl [2,5] hF).cell (j:=0) rfl)) ?_
            refine mp (iv u) (qaa e0) ?_
            refine mixE.steady hD (v:=.slice L p.length f) (fun _ hF=>qah isAgg77 e6 ((hS.rbx2 (i:=4) rfl [2,5] hF).cell (j:=0) rfl)) ?_
            refine mp (iv u) (qaa e0) ?_
            refine mp (.slice A50 x44.length c51) (qaa rfl) ?_
            refine mp (.slice A50 x44.length c51) (qaa rfl) ?_
            obtain ⟨y66,h67,hb⟩:=bd hb
            refine mixE.cl hM (⟨_,_,qas (vs:=[.slice A50 x44.length c51]) call80 rfl rfl rfl,perm_Inverse_ok n hC.lt (hC.rd (i:=0) rfl) h67⟩) ?_
            rintro _ w72 ⟨A68,m69,c70,rfl,hK⟩
            have hBf71:=Beside.cl (i:=0) hM hK rfl
            have hUf71:=hBf71.wide (H:=[.own 52 (.sl si) (.slice C d.length c) Z,.own 52 (.sl si) (.slice L p.length f) P])
            replace hM:=hM.none hK.fr
            replace hD:=hM.wide (H:=[.own 52 (.sl si) (.slice C d.length c) Z,.own 52 (.sl si) (.slice L p.length f) P])
            refine ⟨hM,?_⟩
            replace hC:=hC.merge hK
            clear hK
            obtain ⟨rfl,hl73,hc74⟩:=(hC.ow (i:=0) rfl).qaf
            obtain ⟨x75,h76,hb⟩:=bd hb
            obtain ⟨ad77,cs78,hA,ho81,hc79,hr80⟩:=hS.elo2 (i:=2) rfl (qac h76).2 [] (by decide)
            subst hA
            refine mp (.pointer (some (ad77.add (u.toNat*1)))) (qag (a:=u) underlying77 sizeOf52 rfl rfl (by rw [(hC.ow (i:=3) rfl).qaf.1]; exact (qac h76).1)) ?_
            refine mixE.sk hD (hC.put (i:=3) rfl rfl sizeOf52 (k:=u.toNat) (a:=x44) (by have:=(qac h76).1; simp at this⊢; omega) (hC.rd (i:=1) rfl) rfl rfl rfl) ?_
            rintro w82 ⟨hC,hF⟩
            replace hD:=hD.beside hUf7 hF
            clear hF
            refine ⟨hD,?_⟩
            obtain ⟨x83,h84,hb⟩:=bd hb
            obtain ⟨ad85,cs86,hA,ho89,hc87,hr88⟩:=hS.elo2 (i:=5) rfl (qac h84).2 [] (by decide)
            subst hA
            refine mp (.pointer (some (ad85.add (u.toNat*1)))) (qag (a:=u) underlying77 sizeOf52 rfl rfl (by rw [(hC.ow (i:=6) rfl).qaf.1]; exact (qac h84).1)) ?_
            replace hC:=hC.freeze (i:=0) rfl (hC.own_newI hI (i:=0) rfl (List.forall_mem_cons.2 ⟨fun g hg=>⟨3,_,rfl,by decide,blk_own hg⟩,List.forall_mem_cons.2 ⟨fun g hg=>⟨6,_,rfl,by decide,blk_own hg⟩,List.forall_mem_cons.2 ⟨fun g hg=>⟨10,_,rfl,by decide,blk_own hg⟩,List.forall_mem_cons.2 ⟨fun g hg=>⟨18,_,rfl,by decide,hg⟩,List.forall_mem_cons.2 ⟨fun g hg=>⟨4,_,rfl,by decide,hg⟩,fun _ h=>absurd h List.not_mem_nil⟩⟩⟩⟩⟩))
            refine mixE.sk hD (hC.put (i:=6) rfl rfl sizeOf52 (k:=u.toNat) (a:=y66) (by have:=(qac h84).1; simp at this⊢; omega) (hC.rd (i:=0) rfl) rfl rfl rfl) ?_
            rintro w90 ⟨hC,hF⟩
            replace hD:=hD.beside hUf12 hF
            clear hF
            refine ⟨hD,?_⟩
            refine mixE.nil ?_
            clear hS hM
            clear hD
            refine hK63 _ _ ?_
            refine Wc.fresh fun E91 hE=>?_
            have e0:=cg hE 0 e0
            have e3:=cg hE 3 e3
            have e5:=cg hE 5 e5
            have e6:=cg hE 6 e6
            have e7:=cg hE 7 e7
            have e8:=cg hE 8 e8
            have e9:=cg hE 9 e9
            have e10:=cg hE 10 e10
            have e12:=cg hE 12 e12
            have e14:E91 14=.slice A50 x44.length c51:=cg hE 14 rfl
            have e24:=cg hE 24 e24
            have e25:=cg hE 25 e25
            have e26:=cg hE 26 e26
            have e27:E91 27=.bool (decide (a6<(o.length:Int))):=cg hE 27 rfl
            have e33:E91 33=.bool (decide (200000<z56)):=cg hE 33 rfl
            clear hE
            refine Wc.seq fun _ hK92=>?_
            refine Wc.seq fun _ hK93=>?_
            refine rg ?_
            refine lv (.slice b5 D.length S) (qah isAgg118 e7 ((hC.rbx (i:=7) rfl).cell (j:=0) rfl)) ?_
            refine lp _ (qaa e0) ?_
            obtain ⟨x94,h95,hb⟩:=bd hb
            obtain ⟨ad96,cs97,hA,hc98,hr99⟩:=hC.elr (i:=8) rfl (qac h95).2
            subst hA
            refine lp (.pointer (some (ad96.add (u.toNat*1)))) (qag (a:=u) underlying118 sizeOf37 rfl rfl (qac h95).1) ?_
            have hR:=hr99
            obtain ⟨A100,c101,rfl,hl102,hc103,_⟩:=hr99
            replace hC:=hC.ro hR
            clear hR
            refine lv (.slice A100 x94.length c101) (qah isAgg37 rfl (hc98 0 _ rfl)) ?_
            refine lp (iv (x94.length:Int)) (qan (A:=A100) (n:=x94.length) (m:=c101) underlying37 rfl) ?_
            refine lp (iv 0) (qaa rfl) ?_
            refine ln ?_
            refine hK93 _ _ ?_
            obtain ⟨o105,hl1,hb⟩:=bd hb
            refine Wc.cut (fun E wv=> ∃(b4:Int) (b3:List Int),E 0=iv u∧E 3=pg a0∧E 5=pg R∧E 6=pg a1∧E 7=pg a2∧E 8=pg a3∧E 9=pg a4∧E 10=pg Q∧E 12=.bool false∧E 14=.slice A50 x44.length c51∧E 24=.slice (some ad46) o.length G∧E 25=iv (o.length:Int)∧E 26=iv a6∧E 27=.bool (decide (a6<(o.length:Int)))∧E 33=.bool (decide (200000<z56))∧E 46=.slice A100 x94.length c101∧E 47=iv (x94.length:Int)∧E 48=iv b4∧I64 b4∧Cx I O0 w wv [.rbox a0 77 [.slice (some ad77) d.length c],.own 52 (.sl si) (.slice (some ad77) d.length c) (Z.set u.toNat x44),.box R 3 [iv z56],.rbox a1 77 [.slice (some ad85) p.length f],.own 52 (.sl si) (.slice (some ad85) p.length f) (P.set u.toNat y66),.rbox a2 118 [.slice (some ad96) D.length S],.ro (.sl (.sl (.sl si))) [.slice (some ad96) D.length S] D,.rbox a3 52 [.slice x B.length y],.own 3 si (.slice x B.length y) b3,.rbox a4 52 [.slice M z.length N],.ro (.sl si) [.slice M z.length N] z,.rbox Q 113 [.func (.func 79) #[] #[pg a8,pg b0,pg a0,pg b1,pg R,pg a1,pg a2,pg a3,pg a4,pg Q]],.rbox a8 48 [iv a9,.slice U J.length V,.slice X K.length Y],.ro (.sl si) [.slice U J.length V] J,.ro (.sl (.sl si)) [.slice X K.length Y] K,.rbox b0 98 [.func (.func 55) #[] #[pg l]],.box l 3 [iv T],.rbox b1 77 [.slice (some ad46) o.length G],.ro (.sl (.sl si)) [.slice (some ad46) o.length G] o,.ro (.sl si) [.slice A50 x44.length c51] x44,.ro (.sl (.sl si)) [.slice A100 x94.length c101] x94]∧((chk (u+1)).bind fun z147=>((F.qbr n) z147 a9 J K T (Z.set u.toNat x44) o z56 (P.set u.toNat y66) D b3 z).bind fun y149=>cond (!y149.1) (some (.inr (.inr (false,y149.2.1,y149.2.2.1,y149.2.2.2.1,y149.2.2.2.2.1,y149.2.2.2.2.2)))) ((chk (a6+1)).bind fun z156=>some (.inl (z156,y149.2.2.2.2.1,y149.2.1,y149.2.2.2.2.2,y149.2.2.1,y149.2.2.2.1))):Option ((Int×Int×(List (List Int))×Int×(List (List Int))×(List Int))⊕((Int×Int×(List (List Int))×Int×(List (List Int))×(List Int))⊕(Bool×(List (List Int))×(List (List Int))×(List Int)×Int×Int))))=some o38) (fun _ hK106=>?_) ?_
            · refine Wc.block ?_
              refine Wc.loop (fun m E wv=> ∃(b4:Int) (b3:List Int),E 0=iv u∧E 3=pg a0∧E 5=pg R∧E 6=pg a1∧E 7=pg a2∧E 8=pg a3∧E 9=pg a4∧E 10=pg Q∧E 12=.bool false∧E 14=.slice A50 x44.length c51∧E 24=.slice (some ad46) o.length G∧E 25=iv (o.length:Int)∧E 26=iv a6∧E 27=.bool (decide (a6<(o.length:Int)))∧E 33=.bool (decide (200000<z56))∧E 46=.slice A100 x94.length c101∧E 47=iv (x94.length:Int)∧E 48=iv b4∧I64 b4∧Cx I O0 w wv [.rbox a0 77 [.slice (some ad77) d.length c],.own 52 (.sl si) (.slice (some ad77) d.length c) (Z.set u.toNat x44),.box R 3 [iv z56],.rbox a1 77 [.slice (some ad85) p.length f],.own 52 (.sl si) (.slice (some ad85) p.length f) (P.set u.toNat y66),.rbox a2 118 [.slice (some ad96) D.length S],.ro (.sl (.sl (.sl si))) [.slice (some ad96) D.length S] D,.rbox a3 52 [.slice x B.length y],.own 3 si (.slice x B.length y) b3,.rbox a4 52 [.slice M z.length N],.ro (.sl si) [.slice M z.length N] z,.rbox Q 113 [.func (.func 79) #[] #[pg a8,pg b0,pg a0,pg b1,pg R,pg a1,pg a2,pg a3,pg a4,pg Q]],.rbox a8 48 [iv a9,.slice U J.length V,.slice X K.length Y],.ro (.sl si) [.slice U J.length V] J,.ro (.sl (.sl si)) [.slice X K.length Y] K,.rbox b0 98 [.func (.func 55) #[] #[pg l]],.box l 3 [iv T],.rbox b1 77 [.slice (some ad46) o.length G],.ro (.sl (.sl si)) [.slice (some ad46) o.length G] o,.ro (.sl si) [.slice A50 x44.length c51] x44,.ro (.sl (.sl si)) [.slice A100 x94.length c101] x94]∧loopN m (F.qfw (F.qbr n) n u z Z P x44 y66 x94) (b4,b3)=some o105) n ⟨0,b7,e0,e3,e5,e6,e7,e8,e9,e10,e12,e14,e24,e25,e26,e27,e33,rfl,rfl,rfl,(show I64 0 from by unfold I64; omega),hC.sE [3,4,5,6,7,8,9,10,11,12,13,14,15,16,17,18,19,20,21,2,0],hl1⟩ ?_
              have hbK1:=hb
              clear hb hC hl1
              rintro m108 E110 w109 ⟨b4,b3,e0,e3,e5,e6,e7,e8,e9,e10,e12,e14,e24,e25,e26,e27,e33,e46,e47,e48,d8,hC,hl1⟩ K107 hK107
              obtain ⟨m108',o111,rfl,hb,hl1⟩:=qam hl1
              unfold F.qfw at hb
              refine Wc.seq fun _ hK112=>?_
              refine rg ?_
              refine lp _ (qau e48 e47) ?_
              refine ln ?_
              refine hK112 _ _ ?_
              refine Wc.seq fun _ hK113=>?_
              refine Wc.cond (t:=(decide (b4<(x94.length:Int)))) (rfl) (fun hq114=>?_) (fun hq114=>?_)
              · replace hb:=tt hq114 hb
                refine Wc.skip ?_
                refine hK113 _ _ ?_
                refine Wc.seq fun _ hK115=>?_
                refine Wc.block ?_
                refine Wc.seq fun _ hK116=>?_
                refine rg ?_
                obtain ⟨x117,h118,hb⟩:=bd hb
                obtain ⟨ad119,cs120,hA,hc121,hr122⟩:=hC.elr (i:=20) rfl (qac h118).2
                subst hA
                refine lp (.pointer (some (ad119.add (b4.toNat*1)))) (qag (a:=b4) underlying37 sizeOf27 e46 e48 (qac h118).1) ?_
                have hR:=hr122
                obtain ⟨A123,c124,rfl,hl125,hc126,_⟩:=hr122
                replace hC:=hC.ro hR
                clear hR
                refine lv (.slice A123 x117.length c124) (qah isAgg27 rfl (hc121 0 _ rfl)) ?_
                refine lp (.slice A123 x117.length c124) (qab rfl) ?_
                refine ln ?_
                refine hK116 _ _ ?_
                refine Wc.seq fun _ hK128=>?_
                refine rg ?_
                refine lv (.slice x B.length y) (qah isAgg52 e8 ((hC.rbx (i:=8) rfl).cell (j:=0) rfl)) ?_
                refine lv (.slice M z.length N) (qah isAgg52 e9 ((hC.rbx (i:=10) rfl).cell (j:=0) rfl)) ?_
                refine lex.op (hC.copy (i:=9) (s:=si) (xs:=b3) (ys:=z) (m:=z.length) rfl rfl underlying52 (congrArg (Option.map (·.size)) type3) (hC.srcr (i:=11) rfl) rfl rfl) ?_
                rintro _ w129 ⟨rfl,hC,hF⟩
                clear hF
                refine ln ?_
                refine hK128 _ _ ?_
                refine Wc.seq fun _ hK130=>?_
                refine rg ?_
                refine lv (.slice x B.length y) (qah isAgg52 e8 ((hC.rbx (i:=8) rfl).cell (j:=0) rfl)) ?_
                refine lp (.slice A123 x117.length c124) (qaa rfl) ?_
                refine lv (.slice (some ad77) d.length c) (qah isAgg77 e3 ((hC.rbx (i:=1) rfl).cell (j:=0) rfl)) ?_
                refine lv (.slice (some ad85) p.length f) (qah isAgg77 e6 ((hC.rbx (i:=4) rfl).cell (j:=0) rfl)) ?_
                replace hC:Cx I O0 w w129 ([.own 3 si (.slice x B.length y) (z.take (min z.length b3.length)++b3.drop (min z.length b3.length))]++[.ro (.sl si) [.slice A123 x117.length c124] x117,.rbox a0 77 [.slice (some ad77) d.length c],.own 52 (.sl si) (.slice (some ad77) d.length c) (Z.set u.toNat x44),.box R 3 [iv z56],.rbox a1 77 [.slice (some ad85) p.length f],.own 52 (.sl si) (.slice (some ad85) p.length f) (P.set u.toNat y66),.rbox a2 118 [.slice (some ad96) D.length S],.ro (.sl (.sl (.sl si))) [.slice (some ad96) D.length S] D,.rbox a3 52 [.slice x B.length y],.rbox a4 52 [.slice M z.length N],.ro (.sl si) [.slice M z.length N] z,.rbox Q 113 [.func (.func 79) #[] #[pg a8,pg b0,pg a0,pg b1,pg R,pg a1,pg a2,pg a3,pg a4,pg Q]],.rbox a8 48 [iv a9,.slice U J.length V,.slice X K.length Y],.ro (.sl si) [.slice U J.length V] J,.ro (.sl (.sl si)) [.slice X K.length Y] K,.rbox b0 98 [.func (.func 55) #[] #[pg l]],.box l 3 [iv T],.rbox b1 77 [.slice (some ad46) o.length G],.ro (.sl (.sl si)) [.slice (some ad46) o.length G] o,.ro (.sl si) [.slice A50 x44.length c51] x44,.ro (.sl (.sl si)) [.slice (some ad119) x94.length c101] x94]):=hC.sE [9,0,1,2,3,4,5,6,7,8,10,11,12,13,14,15,16,17,18,19,20,21]
                obtain ⟨y131,h132,hb⟩:=bd hb
                refine lex.cl (⟨_,_,qas (vs:=[.slice x B.length y,.slice A123 x117.length c124,.slice (some ad77) d.length c,.slice (some ad85) p.length f]) call81 rfl rfl rfl,homs_multiply_ok n (hC.lentLt [.slice (some ad85) p.length f,.slice (some ad77) d.length c]) ((hC.rd (i:=1) rfl).lent [.slice (some ad85) p.length f,.slice (some ad77) d.length c]) ((hC.ow (i:=3) rfl).lend (vs:=[.slice (some ad85) p.length f,.slice (some ad77) d.length c]) (by simp)) ((hC.ow (i:=6) rfl).lend (vs:=[.slice (some ad85) p.length f,.slice (some ad77) d.length c]) (by simp)) (hC.give.lent [.slice (some ad85) p.length f,.slice (some ad77) d.length c] (hC.apart (List.forall_mem_cons.2 ⟨blk_in (i:=5) rfl,List.forall_mem_cons.2 ⟨blk_in (i:=2) rfl,fun _ h=>absurd h List.not_mem_nil⟩⟩))) h132⟩) ?_
                rintro _ w133 ⟨rfl,hK⟩
                replace hC:=hC.back (hK.flatTk rfl hC.lt)
                clear hK
                refine ln ?_
                refine hK130 _ _ ?_
                refine Wc.fresh fun E134 hE=>?_
                have e0:=cg hE 0 e0
                have e3:=cg hE 3 e3
                have e5:=cg hE 5 e5
                have e6:=cg hE 6 e6
                have e7:=cg hE 7 e7
                have e8:=cg hE 8 e8
                have e9:=cg hE 9 e9
                have e10:=cg hE 10 e10
                have e12:=cg hE 12 e12
                have e14:=cg hE 14 e14
                have e16:E134 16=.slice A123 x117.length c124:=cg hE 16 rfl
                have e24:=cg hE 24 e24
                have e25:=cg hE 25 e25
                have e26:=cg hE 26 e26
                have e27:=cg hE 27 e27
                have e33:=cg hE 33 e33
                have e46:=cg hE 46 e46
                have e47:=cg hE 47 e47
                have e48:=cg hE 48 e48
                have e49:E134 49=.bool (decide (b4<(x94.length:Int))):=cg hE 49 rfl
                clear hE
                refine Wc.seq fun _ hK135=>?_
                refine rg ?_
                refine lv (.slice x B.length y) (qah isAgg52 e8 ((hC.rbx (i:=9) rfl).cell (j:=0) rfl)) ?_
                refine lv (.slice M z.length N) (qah isAgg52 e9 ((hC.rbx (i:=10) rfl).cell (j:=0) rfl)) ?_
                obtain ⟨y136,h137,hb⟩:=bd hb
                refine lex.cl (⟨_,_,qas (vs:=[.slice x B.length y,.slice M z.length N]) call46 rfl rfl rfl,slices_Equal_Perm_int_ok n (hC.lentLt [.slice x B.length y]) ((hC.ow (i:=0) rfl).lend (vs:=[.slice x B.length y]) (by simp)) ((hC.rd (i:=11) rfl).lent [.slice x B.length y]) h137⟩) ?_
                rintro _ w138 ⟨rfl,hK⟩
                replace hC:=hC.mergeF hK rfl
                clear hK
                refine lp (.bool (!y136)) (qcd (q:=y136) rfl) ?_
                refine ln ?_
                refine hK135 _ _ ?_
                refine Wc.cond (t:=(!y136)) (rfl) (fun hq139=>?_) (fun hq139=>?_)
                · replace hb:=tt hq139 hb
                  refine Wc.exit rfl ?_
                  obtain rfl:=os hb
                  obtain rfl:=(lX hl1).symm
                  replace hb:=hbK1
                  refine hK42 _ _ ?_
                  refine rg ?_
                  obtain ⟨z140,h141,hb⟩:=bd hb
                  refine lp (iv z140) (qak (a:=a6) (b:=1) e26 rfl h141) ?_
                  refine lp (iv z140) (qaa rfl) ?_
                  refine ln ?_
                  obtain rfl:=os hb
                  exact hK34 m35' _ _ (Nat.lt_succ_self _) ⟨z140,T,(Z.set u.toNat x44),z56,(P.set u.toNat y66),y131,e0,e3,e5,e6,e7,e8,e9,e10,e12,e24,e25,rfl,(qai h141),b6,(qai h57),hC.sE [2,3,4,5,6,7,8,9,0,10,11,12,13,14,15,16,17,18,19],lN hl0⟩
                · replace hb:=tf hq139 hb
                  refine Wc.skip ?_
                  refine hK115 _ _ ?_
                  refine rg ?_
                  obtain ⟨z142,h143,hb⟩:=bd hb
                  refine lp (iv z142) (qak (a:=b4) (b:=1) e48 rfl h143) ?_
                  refine lp (iv z142) (qaa rfl) ?_
                  refine ln ?_
                  obtain rfl:=os hb
                  exact hK107 m108' _ _ (Nat.lt_succ_self _) ⟨z142,y131,e0,e3,e5,e6,e7,e8,e9,e10,e12,e14,e24,e25,e26,e27,e33,e46,e47,rfl,(qai h143),hC.sE [2,3,4,5,6,7,8,9,0,10,11,12,13,14,15,16,17,18,19,20,21],lN hl1⟩
              · replace hb:=tf hq114 hb
                refine Wc.exit rfl ?_
                obtain rfl:=os hb
                obtain rfl:=(lX hl1).symm
                exact hK106 _ _ ⟨b4,b3,e0,e3,e5,e6,e7,e8,e9,e10,e12,e14,e24,e25,e26,e27,e33,e46,e47,e48,d8,hC.sE [0,1,2,3,4,5,6,7,8,9,10,11,12,13,14,15,16,17,18,19,20],hbK1⟩
            · clear hb hC hl1
              rintro E145 w144 ⟨b4,b3,e0,e3,e5,e6,e7,e8,e9,e10,e12,e14,e24,e25,e26,e27,e33,e46,e47,e48,d8,hC,hb⟩
              refine hK92 _ _ ?_
              refine Wc.seq fun _ hK146=>?_
              refine rg ?_
              refine lv (.func (.func 79) #[] #[pg a8,pg b0,pg a0,pg b1,pg R,pg a1,pg a2,pg a3,pg a4,pg Q]) (qah isAgg113 e10 ((hC.rbx (i:=11) rfl).cell (j:=0) rfl)) ?_
              refine lp _ (qaa e0) ?_
              obtain ⟨z147,h148,hb⟩:=bd hb
              refine lp (iv z147) (qak (a:=u) (b:=1) rfl rfl h148) ?_
              replace hC:Cx I O0 w w144 ([.own 52 (.sl si) (.slice (some ad77) d.length c) (Z.set u.toNat x44),.own 52 (.sl si) (.slice (some ad85) p.length f) (P.set u.toNat y66),.own 3 si (.slice x B.length y) b3,.box l 3 [iv T],.box R 3 [iv z56]]++[.rbox a0 77 [.slice (some ad77) d.length c],.rbox a1 77 [.slice (some ad85) p.length f],.rbox a2 118 [.slice (some ad96) D.length S],.ro (.sl (.sl (.sl si))) [.slice (some ad96) D.length S] D,.rbox a3 52 [.slice x B.length y],.rbox a4 52 [.slice M z.length N],.ro (.sl si) [.slice M z.length N] z,.rbox Q 113 [.func (.func 79) #[] #[pg a8,pg b0,pg a0,pg b1,pg R,pg a1,pg a2,pg a3,pg a4,pg Q]],.rbox a8 48 [iv a9,.slice U J.length V,.slice X K.length Y],.ro (.sl si) [.slice U J.length V] J,.ro (.sl (.sl si)) [.slice X K.length Y] K,.rbox b0 98 [.func (.func 55) #[] #[pg l]],.rbox b1 77 [.slice (some ad46) o.length G],.ro (.sl (.sl si)) [.slice (some ad46) o.length G] o,.ro (.sl si) [.slice A50 x44.length c51] x44,.ro (.sl (.sl si)) [.slice A100 x94.length c101] x94]):=hC.sE [1,4,8,16,2,0,3,5,6,7,9,10,11,12,13,14,15,17,18,19,20]
              obtain ⟨y149,h150,hb⟩:=bd hb
              refine lex.cl (⟨_,_,qcf (vs:=[iv z147,pg a8,pg b0,pg a0,pg b1,pg R,pg a1,pg a2,pg a3,pg a4,pg Q]) (ca:=#[pg a8,pg b0,pg a0,pg b1,pg R,pg a1,pg a2,pg a3,pg a4,pg Q]) call79 rfl rfl rfl,ih hC.lt (qai h148) d5 (hC.rd (i:=14) rfl) (hC.rd (i:=15) rfl) b6 (hC.rd (i:=18) rfl) (qai h57) (hC.rd (i:=8) rfl) (hC.rd (i:=11) rfl) (hC.rb (i:=13) rfl) (hC.rb (i:=16) rfl) (hC.rb (i:=5) rfl) (hC.rb (i:=17) rfl) (hC.rb (i:=6) rfl) (hC.rb (i:=7) rfl) (hC.rb (i:=9) rfl) (hC.rb (i:=10) rfl) (hC.rb (i:=12) rfl) hC.give h150⟩) ?_
              rintro _ w153 ⟨rfl,hr151,hr152,hK⟩
              replace hC:=hC.back hK
              clear hK
              refine lp (.bool (!y149.1)) (qcd (q:=y149.1) rfl) ?_
              refine ln ?_
              refine hK146 _ _ ?_
              refine Wc.cond (t:=(!y149.1)) (rfl) (fun hq154=>?_) (fun hq154=>?_)
              · replace hb:=tt hq154 hb
                refine Wc.seq fun _ hK155=>?_
                refine rg ?_
                refine lp (.bool false) (qab rfl) ?_
                refine ln ?_
                refine hK155 _ _ ?_
                obtain rfl:=os hb
                obtain rfl:=(lX hl0).symm
                replace hb:=hbK0
                obtain rfl:=os hb
                subst hI
                refine Wc.ret ?_
                refine hKR _ _ ?_
                refine ⟨_,res1 results79 (tV (.bool false) rfl),_,rfl,rfl,hr151,hr152,hC.sE [0,1,2,3,4]⟩
              · replace hb:=tf hq154 hb
                refine Wc.skip ?_
                refine hK42 _ _ ?_
                refine rg ?_
                obtain ⟨z156,h157,hb⟩:=bd hb
                refine lp (iv z156) (qak (a:=a6) (b:=1) e26 rfl h157) ?_
                refine lp (iv z156) (qaa rfl) ?_
                refine ln ?_
                obtain rfl:=os hb
                exact hK34 m35' _ _ (Nat.lt_succ_self _) ⟨z156,y149.2.2.2.2.1,y149.2.1,y149.2.2.2.2.2,y149.2.2.1,y149.2.2.2.1,e0,e3,e5,e6,e7,e8,e9,e10,e12,e24,e25,rfl,(qai h157),hr151,hr152,hC.sE [5,0,4,6,1,7,8,9,2,10,11,12,13,14,15,16,3,17,18],lN hl0⟩
        · replace hb:=tf hq41 hb
          refine Wc.exit rfl ?_
          obtain rfl:=os hb
          obtain rfl:=(lX hl0).symm
          exact hK33 _ _ ⟨a6,T,Z,a5,P,b7,e12,d7,b6,c3,hC.sE [1,4,8,16,2],hbK0⟩
      · clear hb hC hl0
        rintro E159 w158 ⟨a6,T,Z,a5,P,b7,e12,d7,b6,c3,hC,hb⟩
        refine hK30 _ _ ?_
        refine Wc.seq fun _ hK160=>?_
        refine rg ?_
        refine lp (.bool true) (qab rfl) ?_
        refine ln ?_
        refine hK160 _ _ ?_
        obtain rfl:=os hb
        subst hI
        refine Wc.ret ?_
        refine hKR _ _ ?_
        refine ⟨_,res1 results79 (tV (.bool true) rfl),_,rfl,rfl,b6,c3,hC.sE [0,1,2,3,4]⟩
