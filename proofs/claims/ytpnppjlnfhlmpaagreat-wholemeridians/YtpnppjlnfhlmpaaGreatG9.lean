import Derived.Test.YtpnppjlnfhlmpaaGreatS
import Derived.Test.YtpnppjlnfhlmpaaGreatG5
set_option linter.all false
namespace Go.Proofs.YtpnppjlnfhlmpaaGreat
open Ev Tryz
set_option maxRecDepth 100000
set_option maxHeartbeats 4000000
theorem homs_identity_ok (n:Nat) {w:World} {O0:List Nat} (D: ∀k∈O0,k<w.heap.size) {c:Int} (h:I64 c) {r:(List Int)} (j:F.qgg n c=some r):
    Calls prog 48 #[iv c] w fun e w'=> ∃v,e=.returned v∧∃(A0:Option Addr) (m0 c0:Nat),v=.slice A0 m0 c0∧Cx (fun _=>False) O0 w w' [.own 3 si (.slice A0 m0 c0) r]:=by
 unfold F.qgg at j;have l:=Cx.start D;refine qao func48 r0 (by rw [ntmps48]; exact nb r0) fun KR G=>?_;refine ws1 fun _ H=>rg<|lp (.slice none 0 0) (qab r0)<|ln (H _ _ ?_);refine ws1 fun _ J=>rg<|lp (iv c) (qaa r0) ?_;obtain ⟨Y,z,j⟩:=bd j;refine lo2 (l.make (s:=si) (n:=c) u51q type3 r0 r0 r0 r0 r0 (qai z).1 (qai z).2 (by decide)) ?_;rintro _ Z ⟨A5,c6,rfl,hl7,hc8,l,-,-⟩;refine lp (.slice A5 (((rZ c)).length) c6) (qab r0)<|ln (J _ _ ?_);refine ws1 fun _ K=>?_;refine ws1 fun _ L=>rg<|lp (.slice A5 (((rZ c)).length) c6) (qaa r0)<|lp (iv (((rZ c)).length:Int)) (qan (A:=A5) (n:=((rZ c)).length) (m:=c6) u51q r0)<|lp (iv 0) (qaa r0)<|ln (L _ _ ?_);obtain ⟨o13,hl0,f13,hf13,j⟩:=bn j;refine wc1 (fun E wv=> ∃(d:Int) (f:List Int),E 2=.slice none 0 0∧E 3=.slice A5 (((rZ c)).length) c6∧I64 d∧Cx (fun _=>False) O0 w wv [.own 3 si (.slice A5 (((rZ c)).length) c6) f]∧f13 (d,f)=some r) (fun _ M=>?_) ?_;refine wb ?_;refine wl1 (fun m E wv=> ∃(d:Int) (f:List Int),E 2=.slice none 0 0∧E 3=.slice A5 (((rZ c)).length) c6∧E 8=iv (((rZ c)).length:Int)∧E 9=iv d∧I64 d∧Cx (fun _=>False) O0 w wv [.own 3 si (.slice A5 (((rZ c)).length) c6) f]∧loopN m (F.qdy n c) (d,f)=some o13) n ⟨0,(rZ c),r0,r0,r0,r0,i0,l.sE [0],hl0⟩ ?_;have hbK0:=j;clear j l hl0;rintro m16 a0 a1 ⟨d,f,p,o,B,q,g,l,hl0⟩ K15 N;obtain ⟨m16',o19,rfl,j,hl0⟩:=qak hl0;unfold F.qdy at j;refine ws1 fun _ P=>rg<|lp _ (qaq q B)<|ln (P _ _ ?_);refine ws1 fun _ Q=>?_;refine wc (t:=(decide (d<(((rZ c)).length:Int)))) (r0) (fun u=>?_) (fun u=>?_);replace j:=tt u j;refine ws2 (Q _ _ ?_);refine ws1 fun _ R=>?_;refine wb<|ws1 fun _ T=>rg<|lp _ (qaa q)<|lp (iv d) (qab r0)<|ln (T _ _ ?_);refine rg<|lp _ (qaa o)<|lp (iv d) (qaa r0)<|lp (iv d) (qaa r0) ?_;obtain ⟨a2,x,j⟩:=bd j;obtain ⟨ad27,cs28,V,hc29,hr30⟩:=l.elo (i:=0) r0 (qac x).2;subst V;refine lp (.pointer (some (ad27.add (d.toNat*1)))) (qae (a:=d) u51q s3q r0 r0 (by rw [(l.ow (i:=0) r0).qad.1]; exact (qac x).1))<|ls (l.put (i:=0) r0 r0 s3q (k:=d.toNat) (a:=d) (by have:=(qac x).1; simp at this⊢; omega) (⟨r0,I64.wr g⟩) r0 r0 r0) ?_;rintro a3 ⟨l,hF⟩;refine ln (R _ _ ?_);refine rg ?_;obtain ⟨y,C,j⟩:=bd j;refine lp (iv y) (qaj (a:=d) (b:=1) q r0 C)<|lp (iv y) (qaa r0)<|ln ?_;obtain rfl:=os j;exact N m16' _ _ (Qa _) ⟨y,(f.set d.toNat d),p,o,B,r0,(qah C),l.sE [0],lN hl0⟩;replace j:=tf u j;refine we r0 ?_;obtain rfl:=os j;obtain rfl:=(lX hl0).symm;exact M _ _ ⟨d,f,p,o,g,l.sE [0],hbK0⟩;clear j l hl0;rintro a4 a5 ⟨d,f,p,o,g,l,j⟩;subst hf13;refine K _ _<|ws1 fun _ X=>rg<|lp _ (qaa o)<|lp (.slice A5 (((rZ c)).length) c6) (qab r0)<|ln (X _ _ ?_);obtain rfl:=os j;refine wr1 (G _ _ ?_);refine ⟨_,res1 results48 (tV (.slice A5 (((rZ c)).length) c6) r0),_,r0,A5,((rZ c)).length,c6,r0,l.sE [0]⟩

theorem homs_Count_c1_ok (n:Nat) {w:World} {O0:List Nat} (y: ∀k∈O0,k<w.heap.size) {f:Option Addr} {l g:Nat} {h:List (List Int)} (m:Rep O0 w (.sl (.sl si)) [.slice f l g] h) {d:Nat} {c:Int} (o:I64 c) (hio:Tk O0 w [.box d 3 [iv c]]) {r:Bool×Int} (t:F.qhu n h c=some r):
    Calls prog 25 #[.slice f l g,pg d] w fun e w'=> ∃v,e=.returned v∧v=.bool r.1∧I64 r.2∧Cx (fun k=>k∈blocks [.box d 3 [iv c]]) O0 w w' [.box d 3 [iv r.2]]:=by
 unfold F.qhu at t;have s:=Cx.startTk y hio;have hsub:=hio.2.2;replace s:=s.argTk (by first | exact hsub | exact fun k hk=>hsub k (by simpa [blocks,Fact.blk] using hk)) m;obtain ⟨rfl,p,q⟩:=m.qad;clear hio hsub;obtain ⟨I,z,s⟩: ∃I:Nat→Prop,I=(fun k=>k∈blocks [.box d 3 [iv c]])∧Cx I O0 w w ([.ro (.sl (.sl si)) [.slice f h.length g] h,.box d 3 [iv c]]):=⟨_,r0,s⟩;refine qao func25 r0 (by rw [ntmps25]; exact nb r0) fun KR A=>?_;refine ws1 fun _ B=>rg<|lp (.bool false) (qab r0)<|ln (B _ _ ?_);refine ws1 fun _ C=>rg<|lv (iv c) (qaf i3q r0 ((s.bx (i:=1) r0).cell (j:=0) r0)) ?_;obtain ⟨u,x,t⟩:=bd t;refine lp (iv u) (qaj (a:=c) (b:=1) r0 r0 x)<|ls (s.setf (i:=1) (k:=0) (v:=iv u) r0 s3q r0 (by rw [Addr.add_zero']; exact r0) r0 r0) ?_;rintro G ⟨s,H⟩;refine ln (C _ _ ?_);refine ws1 fun _ D=>rg<|lp (.bool true) (qab r0)<|ln (D _ _ ?_);obtain rfl:=os t;subst z;refine wr1 (A _ _ ?_);refine ⟨_,res1 results25 (tV (.bool true) r0),_,r0,r0,(qah x),s.sE [1]⟩

theorem homs_multiply_ok (n:Nat) {w:World} {O0:List Nat} (hO: ∀k∈O0,k<w.heap.size) {f:Option Addr} {G g:Nat} {c:List Int} {H:Option Addr} {Q q:Nat} {l:List Int} (R:Rep O0 w (.sl si) [.slice H Q q] l) {z:Option Addr} {S B:Nat} {y:List (List Int)} (T:Rep O0 w (.sl (.sl si)) [.slice z S B] y) {h:Option Addr} {J j:Nat} {d:List (List Int)} (K:Rep O0 w (.sl (.sl si)) [.slice h J j] d) (hio:Tk O0 w [.own 3 si (.slice f G g) c]) {r:(List Int)} (hb:F.qgh n c l y d=some r):
    Calls prog 50 #[.slice f G g,.slice H Q q,.slice z S B,.slice h J j] w fun e w'=> ∃v,e=.returned v∧v=.tuple #[]∧Cx (fun k=>k∈blocks [.own 3 si (.slice f G g) c]) O0 w w' [.own 3 si (.slice f G g) r]:=by
 unfold F.qgh at hb;have hC:=Cx.startTk hO hio;have hsub:=hio.2.2;replace hC:=hC.argTk (by first | exact hsub | exact fun k hk=>hsub k (by simpa [blocks,Fact.blk] using hk)) R;replace hC:=hC.argTk (by first | exact hsub | exact fun k hk=>hsub k (by simpa [blocks,Fact.blk] using hk)) T;replace hC:=hC.argTk (by first | exact hsub | exact fun k hk=>hsub k (by simpa [blocks,Fact.blk] using hk)) K;obtain ⟨rfl,a1,a2⟩:=R.qad;obtain ⟨rfl,a3,a4⟩:=T.qad;obtain ⟨rfl,U,V⟩:=K.qad;obtain ⟨rfl,X,Y⟩:=(hC.ow (i:=3) r0).qad;clear hio hsub;obtain ⟨I,hI,hC⟩: ∃I:Nat→Prop,I=(fun k=>k∈blocks [.own 3 si (.slice f c.length g) c])∧Cx I O0 w w ([.ro (.sl (.sl si)) [.slice h d.length j] d,.ro (.sl (.sl si)) [.slice z y.length B] y,.ro (.sl si) [.slice H l.length q] l,.own 3 si (.slice f c.length g) c]):=⟨_,r0,hC⟩;refine qao func50 r0 (by rw [ntmps50]; exact nb r0) fun KR d7=>?_;refine ws1 fun _ d8=>rg<|lp (.slice H l.length q) (qaa r0)<|lp (iv (l.length:Int)) (qan (A:=H) (n:=l.length) (m:=q) u61q r0)<|lp (iv 0) (qaa r0)<|ln (d8 _ _ ?_);obtain ⟨o6,hl0,f6,hf6,hb⟩:=bn hb;refine wc1 (fun E wv=> ∃(o:Int) (s:List Int),I64 o∧Cx I O0 w wv [.own 3 si (.slice f c.length g) s]∧f6 (o,s)=some r) (fun _ d9=>?_) ?_;refine wb ?_;refine wl1 (fun m E wv=> ∃(o:Int) (s:List Int),E 0=.slice f c.length g∧E 2=.slice z y.length B∧E 3=.slice h d.length j∧E 13=.slice H l.length q∧E 14=iv (l.length:Int)∧E 15=iv o∧I64 o∧Cx I O0 w wv [.own 3 si (.slice f c.length g) s,.ro (.sl (.sl si)) [.slice z y.length B] y,.ro (.sl (.sl si)) [.slice h d.length j] d,.ro (.sl si) [.slice H l.length q] l]∧loopN m (F.qea n c l y d) (o,s)=some o6) n ⟨0,c,r0,r0,r0,r0,r0,r0,i0,hC.sE [3,1,0,2],hl0⟩ ?_;have hbK0:=hb;clear hb hC hl0;rintro m9 g2 g3 ⟨o,s,e0,e2,e3,a7,a8,a6,N,hC,hl0⟩ K8 e1;obtain ⟨m9',o12,rfl,hb,hl0⟩:=qak hl0;unfold F.qea at hb;refine ws1 fun _ e4=>rg<|lp _ (qaq a6 a8)<|ln (e4 _ _ ?_);refine ws1 fun _ e5=>?_;refine wc (t:=(decide (o<(l.length:Int)))) (r0) (fun c0=>?_) (fun c0=>?_);replace hb:=tt c0 hb;refine ws2 (e5 _ _ ?_);refine ws1 fun _ e6=>?_;refine wb<|ws1 fun _ e7=>rg ?_;obtain ⟨a5,c8,hb⟩:=bd hb;obtain ⟨ad20,cs21,hA,hc22,hr23⟩:=hC.elr (i:=3) r0 (qac c8).2;subst hA;refine lp (.pointer (some (ad20.add (o.toNat*1)))) (qae (a:=o) u61q s3q a7 a6 (qac c8).1) ?_;obtain ⟨rfl,hr23'⟩:=hr23;refine lv (iv a5) (qaf i3q r0 (hc22 0 _ r0))<|lp (iv a5) (qab r0)<|ln (e7 _ _ ?_);refine ws1 fun _ e8=>rg<|lp (.slice none 0 0) (qab r0)<|ln (e8 _ _ ?_);refine Wc.seqJ (fun E wv=> ∃(u:List Int) (L:Bool) (C:Option Addr) (M D:Nat),E 0=.slice f c.length g∧E 2=.slice z y.length B∧E 3=.slice h d.length j∧E 9=iv a5∧E 10=.slice C M D∧E 13=.slice (some ad20) l.length q∧E 14=iv (l.length:Int)∧E 15=iv o∧E 16=.bool (decide (o<(l.length:Int)))∧E 20=.bool L∧Cx I O0 w wv [.own 3 si (.slice f c.length g) s,.ro (.sl (.sl si)) [.slice z y.length B] y,.ro (.sl (.sl si)) [.slice h d.length j] d,.ro (.sl si) [.slice C M D] u,.ro (.sl si) [.slice (some ad20) l.length q] l]∧F.qfb n c o s u L=some o12) (fun _ c9=>?_) ?_;refine ws1 fun _ f0=>rg<|lp (iv a5) (qaa r0)<|lp (.bool (decide (0<a5))) (qcn (k:=.i64) (a:=a5) (b:=0) r0 r0)<|ln (f0 _ _ ?_);refine wc (t:=(decide (0<a5))) (r0) (fun c1=>?_) (fun c1=>?_);replace hb:=tt c1 hb;refine rg<|lp _ (qaa e2)<|lp (iv a5) (qaa r0) ?_;obtain ⟨c2,f1,hb⟩:=bd hb;refine lp (iv c2) (qfi (a:=a5) (b:=1) r0 r0 f1) ?_;obtain ⟨b5,d0,hb⟩:=bd hb;obtain ⟨ad32,cs33,hA,hc34,hr35⟩:=hC.elr (i:=1) r0 (qac d0).2;subst hA;refine lp (.pointer (some (ad32.add (c2.toNat*1)))) (qae (a:=c2) u27 s51 r0 r0 (qac d0).1) ?_;have hR:=hr35;obtain ⟨A36,c37,rfl,hl38,hc39,_⟩:=hr35;replace hC:=hC.ro hR;clear hR;refine lv (.slice A36 b5.length c37) (qaf i51 r0 (hc34 0 _ r0))<|lp (.slice A36 b5.length c37) (qab r0)<|ln ?_;exact c9 _ _ ⟨b5,(decide (0<a5)),A36,b5.length,c37,e0,e2,e3,r0,r0,a7,a8,a6,r0,r0,hC.sE [1,2,3,0,4],hb⟩;replace hb:=tf c1 hb;refine rg<|lp _ (qaa e3)<|lp (iv a5) (qaa r0) ?_;obtain ⟨d1,f2,hb⟩:=bd hb;refine lp (iv d1) (qgj (a:=a5) r0 f2) ?_;obtain ⟨c3,f3,hb⟩:=bd hb;refine lp (iv c3) (qfi (a:=d1) (b:=1) r0 r0 f3) ?_;obtain ⟨b6,d2,hb⟩:=bd hb;obtain ⟨ad47,cs48,hA,hc49,hr50⟩:=hC.elr (i:=2) r0 (qac d2).2;subst hA;refine lp (.pointer (some (ad47.add (c3.toNat*1)))) (qae (a:=c3) u27 s51 r0 r0 (qac d2).1) ?_;have hR:=hr50;obtain ⟨A51,c52,rfl,hl53,hc54,_⟩:=hr50;replace hC:=hC.ro hR;clear hR;refine lv (.slice A51 b6.length c52) (qaf i51 r0 (hc49 0 _ r0))<|lp (.slice A51 b6.length c52) (qab r0)<|ln ?_;exact c9 _ _ ⟨b6,(decide (0<a5)),A51,b6.length,c52,e0,e2,e3,r0,r0,a7,a8,a6,r0,r0,hC.sE [1,2,3,0,4],hb⟩;clear hb hC;rintro g4 g5 ⟨u,L,C,M,D,e0,e2,e3,e9,a9,a7,a8,a6,b1,b2,hC,hb⟩;unfold F.qfb at hb;obtain ⟨rfl,Z,a0⟩:=(hC.rd (i:=3) r0).qad;refine ws1 fun _ f4=>rg<|lp _ (qaa e0)<|lp (iv (c.length:Int)) (qan (A:=f) (n:=c.length) (m:=g) u51q r0)<|lp (iv 0) (qaa r0)<|ln (f4 _ _ ?_);obtain ⟨o59,hl2,hb⟩:=bd hb;refine wc1 (fun E wv=> ∃(p:Int) (x:List Int),E 0=.slice f c.length g∧E 2=.slice z y.length B∧E 3=.slice h d.length j∧E 9=iv a5∧E 10=.slice C u.length D∧E 13=.slice (some ad20) l.length q∧E 14=iv (l.length:Int)∧E 15=iv o∧E 16=.bool (decide (o<(l.length:Int)))∧E 20=.bool L∧E 32=.slice f c.length g∧E 33=iv (c.length:Int)∧E 34=iv p∧I64 p∧Cx I O0 w wv [.own 3 si (.slice f c.length g) x,.ro (.sl (.sl si)) [.slice z y.length B] y,.ro (.sl (.sl si)) [.slice h d.length j] d,.ro (.sl si) [.slice C u.length D] u,.ro (.sl si) [.slice (some ad20) l.length q] l]∧((chk (o+1)).bind fun b3=>some (.inl (b3,x)):Option ((Int×(List Int))⊕((Int×(List Int)))))=some o12) (fun _ f5=>?_) ?_;refine wb ?_;refine wl1 (fun m E wv=> ∃(p:Int) (x:List Int),E 0=.slice f c.length g∧E 2=.slice z y.length B∧E 3=.slice h d.length j∧E 9=iv a5∧E 10=.slice C u.length D∧E 13=.slice (some ad20) l.length q∧E 14=iv (l.length:Int)∧E 15=iv o∧E 16=.bool (decide (o<(l.length:Int)))∧E 20=.bool L∧E 32=.slice f c.length g∧E 33=iv (c.length:Int)∧E 34=iv p∧I64 p∧Cx I O0 w wv [.own 3 si (.slice f c.length g) x,.ro (.sl (.sl si)) [.slice z y.length B] y,.ro (.sl (.sl si)) [.slice h d.length j] d,.ro (.sl si) [.slice C u.length D] u,.ro (.sl si) [.slice (some ad20) l.length q] l]∧loopN m (F.qbs n c u) (p,x)=some o59) n ⟨0,s,e0,e2,e3,e9,a9,a7,a8,a6,b1,b2,r0,r0,r0,i0,hC.sE [0,1,2,3,4],hl2⟩ ?_;have hbK2:=hb;clear hb hC hl2;rintro m62 g6 g7 ⟨p,x,e0,e2,e3,e9,a9,a7,a8,a6,b1,b2,b7,b9,b0,P,hC,hl2⟩ K61 f7;obtain ⟨m62',o65,rfl,hb,hl2⟩:=qak hl2;unfold F.qbs at hb;refine ws1 fun _ f8=>rg<|lp _ (qaq b0 b9)<|ln (f8 _ _ ?_);refine ws1 fun _ f9=>?_;refine wc (t:=(decide (p<(c.length:Int)))) (r0) (fun c4=>?_) (fun c4=>?_);replace hb:=tt c4 hb;refine ws2 (f9 _ _ ?_);refine ws1 fun _ g0=>?_;refine wb<|ws1 fun _ g1=>rg<|lp _ (qaa b0) ?_;obtain ⟨b4,d3,hb⟩:=bd hb;obtain ⟨ad73,cs74,hA,hc75,hr76⟩:=hC.elo (i:=0) r0 (qac d3).2;subst hA;refine lp (.pointer (some (ad73.add (p.toNat*1)))) (qae (a:=p) u51q s3q b7 b0 (by rw [(hC.ow (i:=0) r0).qad.1]; exact (qac d3).1)) ?_;obtain ⟨rfl,hr76'⟩:=hr76;refine lv (iv b4) (qaf i3q r0 (hc75 0 _ r0))<|lp (iv p) (qab r0)<|lp (iv b4) (qab r0)<|ln (g1 _ _ ?_);refine rg<|lp _ (qaa e0)<|lp (iv p) (qaa r0)<|lp _ (qaa a9)<|lp (iv b4) (qaa r0) ?_;obtain ⟨c5,d4,hb⟩:=bd hb;obtain ⟨ad79,cs80,hA,hc81,hr82⟩:=hC.elr (i:=3) r0 (qac d4).2;subst hA;refine lp (.pointer (some (ad79.add (b4.toNat*1)))) (qae (a:=b4) u51q s3q r0 r0 (qac d4).1) ?_;obtain ⟨rfl,hr82'⟩:=hr82;refine lv (iv c5) (qaf i3q r0 (hc81 0 _ r0)) ?_;obtain ⟨g8,c6,hb⟩:=bd hb;obtain ⟨ad85,cs86,hA,hc87,hr88⟩:=hC.elo (i:=0) r0 (qac c6).2;obtain rfl:=Option.some.inj hA;refine lp (.pointer (some (ad73.add (p.toNat*1)))) (qae (a:=p) u51q s3q r0 r0 (by rw [(hC.ow (i:=0) r0).qad.1]; exact (qac c6).1))<|ls (hC.put (i:=0) r0 r0 s3q (k:=p.toNat) (a:=c5) (by have:=(qac c6).1; simp at this⊢; omega) (⟨r0,I64.wr (qaz hr82')⟩) r0 r0 r0) ?_;rintro g9 ⟨hC,hF⟩;refine ln (g0 _ _ ?_);refine rg ?_;obtain ⟨c7,d5,hb⟩:=bd hb;refine lp (iv c7) (qaj (a:=p) (b:=1) b0 r0 d5)<|lp (iv c7) (qaa r0)<|ln ?_;obtain rfl:=os hb;exact f7 m62' _ _ (Qa _) ⟨c7,(x.set p.toNat c5),e0,e2,e3,e9,a9,a7,a8,a6,b1,b2,b7,b9,r0,(qah d5),hC.sE [0,1,2,3,4],lN hl2⟩;replace hb:=tf c4 hb;refine we r0 ?_;obtain rfl:=os hb;obtain rfl:=(lX hl2).symm;exact f5 _ _ ⟨p,x,e0,e2,e3,e9,a9,a7,a8,a6,b1,b2,b7,b9,b0,P,hC.sE [0,1,2,3,4],hbK2⟩;clear hb hC hl2;rintro h0 h1 ⟨p,x,e0,e2,e3,e9,a9,a7,a8,a6,b1,b2,b7,b9,b0,P,hC,hb⟩;refine e6 _ _<|rg ?_;obtain ⟨b3,d6,hb⟩:=bd hb;refine lp (iv b3) (qaj (a:=o) (b:=1) a6 r0 d6)<|lp (iv b3) (qaa r0)<|ln ?_;obtain rfl:=os hb;exact e1 m9' _ _ (Qa _) ⟨b3,x,e0,e2,e3,a7,a8,r0,(qah d6),hC.sE [0,1,2,4],lN hl0⟩;replace hb:=tf c0 hb;refine we r0 ?_;obtain rfl:=os hb;obtain rfl:=(lX hl0).symm;exact d9 _ _ ⟨o,s,N,hC.sE [0],hbK0⟩;clear hb hC hl0;rintro h2 h3 ⟨o,s,N,hC,hb⟩;subst hf6;obtain rfl:=os hb;subst hI;refine d7 _ _ ?_;refine ⟨_,res0 results50,_,r0,r0,hC.sE [0]⟩

theorem slices_Equal_Perm_int_ok (n:Nat) {w:World} {O0:List Nat} (hO: ∀k∈O0,k<w.heap.size) {g:Option Addr} {p h:Nat} {d:List Int} (q:Rep O0 w (.sl si) [.slice g p h] d) {j:Option Addr} {s l:Nat} {f:List Int} (u:Rep O0 w (.sl si) [.slice j s l] f) {r:Bool} (C:F.qdc n d f=some r):
    Calls prog 51 #[.slice g p h,.slice j s l] w fun e w'=> ∃v,e=.returned v∧v=.bool r∧Cx (fun _=>False) O0 w w' []:=by
 unfold F.qdc at C;have D:=Cx.start hO;replace D:=D.arg r0 q;replace D:=D.arg r0 u;obtain ⟨rfl,x,y⟩:=q.qad;obtain ⟨rfl,z,B⟩:=u.qad;refine qao func51 r0 (by rw [ntmps51]; exact nb r0) fun KR J=>?_;refine ws1 fun _ a4=>rg<|lp (.bool false) (qab r0)<|ln (a4 _ _ ?_);refine ws1 fun _ a5=>?_;refine ws1 fun _ a6=>rg<|lp (.slice g d.length h) (qaa r0)<|lp (iv (d.length:Int)) (qan (A:=g) (n:=d.length) (m:=h) u51q r0)<|lp (.slice j f.length l) (qaa r0)<|lp (iv (f.length:Int)) (qan (A:=j) (n:=f.length) (m:=l) u51q r0)<|lp (.bool (!(decide ((d.length:Int)=(f.length:Int))))) (qck (k:=.i64) (a:=(d.length:Int)) (b:=(f.length:Int)) r0 r0)<|ln (a6 _ _ ?_);refine wc (t:=(!(decide ((d.length:Int)=(f.length:Int))))) (r0) (fun K=>?_) (fun K=>?_);replace C:=tt K C;refine ws1 fun _ a7=>rg<|lp (.bool false) (qab r0)<|ln (a7 _ _ ?_);obtain rfl:=os C;refine wr1 (J _ _ ?_);refine ⟨_,res1 results51 (tV (.bool false) r0),_,r0,r0,D.sE []⟩;replace C:=tf K C;refine ws2 (a5 _ _ ?_);refine ws1 fun _ a8=>?_;refine ws1 fun _ a9=>rg<|lp (.slice g d.length h) (qaa r0)<|lp (iv (d.length:Int)) (qan (A:=g) (n:=d.length) (m:=h) u51q r0)<|lp (iv 0) (qaa r0)<|ln (a9 _ _ ?_);obtain ⟨o10,hl0,C⟩:=bd C;refine wc1 (fun E wv=> ∃(c:Int),E 4=.bool false∧I64 c∧Cx (fun _=>False) O0 w wv []∧(some true:Option (Bool))=some r) (fun _ b0=>?_) ?_;refine wb ?_;refine wl1 (fun m E wv=> ∃(c:Int),E 0=.slice g d.length h∧E 1=.slice j f.length l∧E 4=.bool false∧E 12=iv (d.length:Int)∧E 13=iv c∧I64 c∧Cx (fun _=>False) O0 w wv [.ro (.sl si) [.slice g d.length h] d,.ro (.sl si) [.slice j f.length l] f]∧loopN m (F.qde n d f) c=some o10) n ⟨0,r0,r0,r0,r0,r0,i0,D.sE [1,0],hl0⟩ ?_;have hbK0:=C;clear C D hl0;rintro m13 c1 c2 ⟨c,Y,Z,L,a0,M,o,D,hl0⟩ K12 b1;obtain ⟨m13',o16,rfl,C,hl0⟩:=qak hl0;unfold F.qde at C;refine ws1 fun _ b2=>rg<|lp _ (qaq M a0)<|ln (b2 _ _ ?_);refine ws1 fun _ b3=>?_;refine wc (t:=(decide (c<(d.length:Int)))) (r0) (fun N=>?_) (fun N=>?_);replace C:=tt N C;refine ws2 (b3 _ _ ?_);refine ws1 fun _ b4=>?_;refine wb<|ws1 fun _ b5=>rg<|lp _ (qaa M)<|lp (iv c) (qab r0)<|ln (b5 _ _ ?_);refine ws1 fun _ b6=>?_;refine wr2 [] (frm [] ([]:List Fact) ([]:List Fact)) (fun _=>rfl) mixed (by decide+kernel) (by decide+kernel) fun b7 hw23=>?_;replace D:=D.step (Fr.qbo hw23);have P:=Fr.refl (fun k=>k∈blocks ([]:List Fact)) b7;clear hw23;have Q:=D;refine mp (.slice g d.length h) (qaa Y)<|mp (iv c) (qaa r0) ?_;obtain ⟨G,a1,C⟩:=bd C;obtain ⟨ad27,cs28,R,ho31,hc29,hr30⟩:=Q.elr2 (i:=0) r0 (qac a1).2 [];subst R;refine mp (.pointer (some (ad27.add (c.toNat*1)))) (qae (a:=c) u51q s3q r0 r0 (qac a1).1) ?_;obtain ⟨rfl,hr30'⟩:=hr30;refine ml P (v:=iv G) (fun _ T=>qaf i3q r0 (T.cell (hc29 0 _ r0) (off1 ho31)))<|mp (.slice j f.length l) (qaa Z)<|mp (iv c) (qaa r0) ?_;obtain ⟨H,a2,C⟩:=bd C;obtain ⟨ad34,cs35,R,ho38,hc36,hr37⟩:=Q.elr2 (i:=1) r0 (qac a2).2 [];subst R;refine mp (.pointer (some (ad34.add (c.toNat*1)))) (qae (a:=c) u51q s3q r0 r0 (qac a2).1) ?_;obtain ⟨rfl,hr37'⟩:=hr37;refine ml P (v:=iv H) (fun _ T=>qaf i3q r0 (T.cell (hc36 0 _ r0) (off1 ho38)))<|mp (.bool (!(decide (G=H)))) (qck (k:=.i64) (a:=G) (b:=H) r0 r0)<|mn ?_;clear Q P;refine b6 _ _<|wc (t:=(!(decide (G=H)))) (r0) (fun V=>?_) (fun V=>?_);replace C:=tt V C;refine ws1 fun _ b9=>rg<|lp (.bool false) (qab r0)<|ln (b9 _ _ ?_);obtain rfl:=os C;obtain rfl:=(lX hl0).symm;replace C:=hbK0;obtain rfl:=os C;refine wr1 (J _ _ ?_);refine ⟨_,res1 results51 (tV (.bool false) r0),_,r0,r0,D.sE []⟩;replace C:=tf V C;refine ws2 (b4 _ _ ?_);refine rg ?_;obtain ⟨X,a3,C⟩:=bd C;refine lp (iv X) (qaj (a:=c) (b:=1) M r0 a3)<|lp (iv X) (qaa r0)<|ln ?_;obtain rfl:=os C;exact b1 m13' _ _ (Qa _) ⟨X,Y,Z,L,a0,r0,(qah a3),D.sE [0,1],lN hl0⟩;replace C:=tf N C;refine we r0 ?_;obtain rfl:=os C;obtain rfl:=(lX hl0).symm;exact b0 _ _ ⟨c,L,o,D.sE [],hbK0⟩;clear C D hl0;rintro c3 c4 ⟨c,L,o,D,C⟩;refine a8 _ _<|ws1 fun _ c0=>rg<|lp (.bool true) (qab r0)<|ln (c0 _ _ ?_);obtain rfl:=os C;refine wr1 (J _ _ ?_);refine ⟨_,res1 results51 (tV (.bool true) r0),_,r0,r0,D.sE []⟩

theorem homs_find_c1_ok (n:Nat): ∀{w:World} {O0:List Nat} (hO: ∀k∈O0,k<w.heap.size) {u:Int} (f4:I64 u) {a8:Nat} {a9:Int} (d5:I64 a9) {U:Option Addr} {c4 V:Nat} {J:List Int} (c5:Rep O0 w (.sl si) [.slice U c4 V] J) {X:Option Addr} {c6 Y:Nat} {K:List (List Int)} (c7:Rep O0 w (.sl (.sl si)) [.slice X c6 Y] K) {b0:Nat} {l:Nat} {a7:Int} (b9:I64 a7) {a0:Nat} {C:Option Addr} {c0 c:Nat} {d:List (List Int)} {b1:Nat} {b2:Option Addr} {c8 G:Nat} {o:List (List Int)} (c9:Rep O0 w (.sl (.sl si)) [.slice b2 c8 G] o) {R:Nat} {b8:Int} (d0:I64 b8) {a1:Nat} {L:Option Addr} {c1 f:Nat} {p:List (List Int)} {a2:Nat} {b5:Option Addr} {d1 S:Nat} {D:List (List (List Int))} (d2:Rep O0 w (.sl (.sl (.sl si))) [.slice b5 d1 S] D) {a3:Nat} {x:Option Addr} {c2 y:Nat} {B:List Int} {a4:Nat} {M:Option Addr} {d3 N:Nat} {z:List Int} (d4:Rep O0 w (.sl si) [.slice M d3 N] z) {Q:Nat} (d9:RBox O0 w a8 38 [iv a9,.slice U c4 V,.slice X c6 Y]) (e1:RBox O0 w b0 64 [.func (.func 25) #[] #[pg l]]) (e2:RBox O0 w a0 27 [.slice C c0 c]) (e4:RBox O0 w b1 27 [.slice b2 c8 G]) (f0:RBox O0 w a1 27 [.slice L c1 f]) (f1:RBox O0 w a2 84 [.slice b5 d1 S]) (f2:RBox O0 w a3 51 [.slice x c2 y]) (f3:RBox O0 w a4 51 [.slice M d3 N]) (d6:RBox O0 w Q 72 [.func (.func 49) #[] #[pg a8,pg b0,pg a0,pg b1,pg R,pg a1,pg a2,pg a3,pg a4,pg Q]]) (hio:Tk O0 w [.own 51 (.sl si) (.slice C c0 c) d,.own 51 (.sl si) (.slice L c1 f) p,.own 3 si (.slice x c2 y) B,.box l 3 [iv a7],.box R 3 [iv b8]]) {r:Bool×(List (List Int))×(List (List Int))×(List Int)×Int×Int} (hb:F.qcj n u a9 J K a7 d o b8 p D B z=some r),
    Calls prog 49 #[iv u,pg a8,pg b0,pg a0,pg b1,pg R,pg a1,pg a2,pg a3,pg a4,pg Q] w fun e w'=> ∃v,e=.returned v∧v=.bool r.1∧I64 r.2.2.2.2.1∧I64 r.2.2.2.2.2∧Cx (fun k=>k∈blocks [.own 51 (.sl si) (.slice C c0 c) d,.own 51 (.sl si) (.slice L c1 f) p,.own 3 si (.slice x c2 y) B,.box l 3 [iv a7],.box R 3 [iv b8]]) O0 w w' [.own 51 (.sl si) (.slice C c0 c) r.2.1,.own 51 (.sl si) (.slice L c1 f) r.2.2.1,.own 3 si (.slice x c2 y) r.2.2.2.1,.box l 3 [iv r.2.2.2.2.1],.box R 3 [iv r.2.2.2.2.2]]:=by
  induction n with
  | zero=>
    intro w O0 hO u f4 a8 a9 d5 U c4 V J c5 X c6 Y K c7 b0 l a7 b9 a0 C c0 c d b1 b2 c8 G o c9 R b8 d0 a1 L c1 f p a2 b5 d1 S D d2 a3 x c2 y B a4 M d3 N z d4 Q d9 e1 e2 e4 f0 f1 f2 f3 d6 hio r hb
    rw [F.qcj] at hb
    cases hb
  | succ n ih=>
    intro w O0 hO u f4 a8 a9 d5 U c4 V J c5 X c6 Y K c7 b0 l a7 b9 a0 C c0 c d b1 b2 c8 G o c9 R b8 d0 a1 L c1 f p a2 b5 d1 S D d2 a3 x c2 y B a4 M d3 N z d4 Q d9 e1 e2 e4 f0 f1 f2 f3 d6 hio r hb
    rw [F.qcj] at hb
    have hC:=Cx.startTk hO hio
    have hsub:=hio.2.2
    replace hC:=hC.argTk (by first | exact hsub | exact fun k hk=>hsub k (by simpa [blocks,Fact.blk] using hk)) c5
    replace hC:=hC.argTk (by first | exact hsub | exact fun k hk=>hsub k (by simpa [blocks,Fact.blk] using hk)) c7
    replace hC:=hC.argTk (by first | exact hsub | exact fun k hk=>hsub k (by simpa [blocks,Fact.blk] using hk)) c9
    replace hC:=hC.argTk (by first | exact hsub | exact fun k hk=>hsub k (by simpa [blocks,Fact.blk] using hk)) d2
    replace hC:=hC.argTk (by first | exact hsub | exact fun k hk=>hsub k (by simpa [blocks,Fact.blk] using hk)) d4
    replace hC:=hC.argB (by first | exact hsub | exact fun k hk=>hsub k (by simpa [blocks,Fact.blk] using hk) | exact fun k hk=>absurd hk (by simp [blocks,Fact.blk])) d9
    replace hC:=hC.argB (by first | exact hsub | exact fun k hk=>hsub k (by simpa [blocks,Fact.blk] using hk) | exact fun k hk=>absurd hk (by simp [blocks,Fact.blk])) e1
    replace hC:=hC.argB (by first | exact hsub | exact fun k hk=>hsub k (by simpa [blocks,Fact.blk] using hk) | exact fun k hk=>absurd hk (by simp [blocks,Fact.blk])) e2
    replace hC:=hC.argB (by first | exact hsub | exact fun k hk=>hsub k (by simpa [blocks,Fact.blk] using hk) | exact fun k hk=>absurd hk (by simp [blocks,Fact.blk])) e4
    replace hC:=hC.argB (by first | exact hsub | exact fun k hk=>hsub k (by simpa [blocks,Fact.blk] using hk) | exact fun k hk=>absurd hk (by simp [blocks,Fact.blk])) f0
    replace hC:=hC.argB (by first | exact hsub | exact fun k hk=>hsub k (by simpa [blocks,Fact.blk] using hk) | exact fun k hk=>absurd hk (by simp [blocks,Fact.blk])) f1
    replace hC:=hC.argB (by first | exact hsub | exact fun k hk=>hsub k (by simpa [blocks,Fact.blk] using hk) | exact fun k hk=>absurd hk (by simp [blocks,Fact.blk])) f2
    replace hC:=hC.argB (by first | exact hsub | exact fun k hk=>hsub k (by simpa [blocks,Fact.blk] using hk) | exact fun k hk=>absurd hk (by simp [blocks,Fact.blk])) f3
    replace hC:=hC.argB (by first | exact hsub | exact fun k hk=>hsub k (by simpa [blocks,Fact.blk] using hk) | exact fun k hk=>absurd hk (by simp [blocks,Fact.blk])) d6
    obtain ⟨rfl,f5,f6⟩:=c5.qad
    obtain ⟨rfl,f7,f8⟩:=c7.qad
    obtain ⟨rfl,f9,g0⟩:=c9.qad
    obtain ⟨rfl,g1,g2⟩:=d2.qad
    obtain ⟨rfl,g3,g4⟩:=d4.qad
    obtain ⟨rfl,g5,g6⟩:=(hC.ow (i:=14) r0).qad
    obtain ⟨rfl,g7,g8⟩:=(hC.ow (i:=15) r0).qad
    obtain ⟨rfl,g9,h0⟩:=(hC.ow (i:=16) r0).qad
    clear hio hsub
    obtain ⟨I,hI,hC⟩: ∃I:Nat→Prop,I=(fun k=>k∈blocks [.own 51 (.sl si) (.slice C d.length c) d,.own 51 (.sl si) (.slice L p.length f) p,.own 3 si (.slice x B.length y) B,.box l 3 [iv a7],.box R 3 [iv b8]])∧Cx I O0 w w ([.rbox Q 72 [.func (.func 49) #[] #[pg a8,pg b0,pg a0,pg b1,pg R,pg a1,pg a2,pg a3,pg a4,pg Q]],.rbox a4 51 [.slice M z.length N],.rbox a3 51 [.slice x B.length y],.rbox a2 84 [.slice b5 D.length S],.rbox a1 27 [.slice L p.length f],.rbox b1 27 [.slice b2 o.length G],.rbox a0 27 [.slice C d.length c],.rbox b0 64 [.func (.func 25) #[] #[pg l]],.rbox a8 38 [iv a9,.slice U J.length V,.slice X K.length Y],.ro (.sl si) [.slice M z.length N] z,.ro (.sl (.sl (.sl si))) [.slice b5 D.length S] D,.ro (.sl (.sl si)) [.slice b2 o.length G] o,.ro (.sl (.sl si)) [.slice X K.length Y] K,.ro (.sl si) [.slice U J.length V] J,.own 51 (.sl si) (.slice C d.length c) d,.own 51 (.sl si) (.slice L p.length f) p,.own 3 si (.slice x B.length y) B,.box l 3 [iv a7],.box R 3 [iv b8]]):=⟨_,r0,hC⟩
    refine qao func49 r0 (by rw [ntmps49]; exact nb r0) fun KR j1=>?_
    refine ws1 fun _ l8=>?_
    refine rg ?_
    refine lp (.bool false) (qab r0) ?_
    refine ln ?_
    refine l8 _ _ ?_
    refine Wc.scope ?_
    refine ws1 fun _ l9=>?_
    refine ws1 fun _ m0=>?_
    refine rg ?_
    refine lp (iv u) (qaa r0) ?_
    refine lp (.pointer (some ((⟨a8,0,none⟩:Addr).add 0))) (qam (sz:=1) u38 r0 s3q (by decide) r0 r0) ?_
    refine lv (iv a9) (qar (hC.rbx (i:=8) r0) i3q r0 r0) ?_
    refine lp (.bool (decide (u=a9))) (qcz (k:=.i64) (a:=u) (b:=a9) r0 r0) ?_
    refine ln ?_
    refine m0 _ _ ?_
    refine wc (t:=(decide (u=a9))) (r0) (fun j4=>?_) (fun j4=>?_)
    · replace hb:=tt j4 hb
      refine ws1 fun _ m1=>?_
      refine rg ?_
      refine lv (.func (.func 25) #[] #[pg l]) (qaf isAgg64 r0 ((hC.rbx (i:=7) r0).cell (j:=0) r0)) ?_
      refine lv (.slice C d.length c) (qaf i27 r0 ((hC.rbx (i:=6) r0).cell (j:=0) r0)) ?_
      replace hC:Cx I O0 w w ([.box l 3 [iv a7]]++[.rbox Q 72 [.func (.func 49) #[] #[pg a8,pg b0,pg a0,pg b1,pg R,pg a1,pg a2,pg a3,pg a4,pg Q]],.rbox a4 51 [.slice M z.length N],.rbox a3 51 [.slice x B.length y],.rbox a2 84 [.slice b5 D.length S],.rbox a1 27 [.slice L p.length f],.rbox b1 27 [.slice b2 o.length G],.rbox a0 27 [.slice C d.length c],.rbox b0 64 [.func (.func 25) #[] #[pg l]],.rbox a8 38 [iv a9,.slice U J.length V,.slice X K.length Y],.ro (.sl si) [.slice M z.length N] z,.ro (.sl (.sl (.sl si))) [.slice b5 D.length S] D,.ro (.sl (.sl si)) [.slice b2 o.length G] o,.ro (.sl (.sl si)) [.slice X K.length Y] K,.ro (.sl si) [.slice U J.length V] J,.own 51 (.sl si) (.slice C d.length c) d,.own 51 (.sl si) (.slice L p.length f) p,.own 3 si (.slice x B.length y) B,.box R 3 [iv b8]]):=hC.sE [17,0,1,2,3,4,5,6,7,8,9,10,11,12,13,14,15,16,18]
      obtain ⟨k6,m2,hb⟩:=bd hb
      refine lc (⟨_,_,qcu (vs:=[.slice C d.length c,pg l]) (ca:=#[pg l]) call25 r0 r0 r0,homs_Count_c1_ok n (hC.lentLt [.slice C d.length c]) ((hC.ow (i:=15) r0).lend (vs:=[.slice C d.length c]) (by simp)) b9 (hC.give.lent [.slice C d.length c] (hC.apart (Qe.2 ⟨blk_in (i:=14) r0,fun _ h=>absurd h Qh⟩))) m2⟩) ?_
      rintro _ p8 ⟨rfl,hr27,hK⟩
      replace hC:=hC.back (hK.flatTk r0 hC.lt)
      refine lp (.bool k6.1) (qab r0) ?_
      refine ln ?_
      refine m1 _ _ ?_
      obtain rfl:=os hb
      subst hI
      refine wr1 ?_
      refine j1 _ _ ?_
      refine ⟨_,res1 r49 (tV (.bool k6.1) r0),_,r0,r0,hr27,d0,hC.sE [15,16,17,0,18]⟩
    · replace hb:=tf j4 hb
      refine ws2 ?_
      refine l9 _ _ ?_
      refine ws1 fun _ m3=>?_
      refine Wc.label ?_
      refine m3 _ _ ?_
      refine ws1 fun _ m4=>?_
      refine ws1 fun _ m5=>?_
      refine rg ?_
      refine lv (.slice b2 o.length G) (qaf i27 r0 ((hC.rbx (i:=5) r0).cell (j:=0) r0)) ?_
      refine lp (iv (o.length:Int)) (qan (A:=b2) (n:=o.length) (m:=G) u27 r0) ?_
      refine lp (iv 0) (qaa r0) ?_
      refine ln ?_
      refine m5 _ _ ?_
      obtain ⟨o32,hl0,hb⟩:=bd hb
      refine wc1 (fun E wv=> ∃(a6:Int) (T:Int) (Z:List (List Int)) (a5:Int) (P:List (List Int)) (b7:List Int),E 12=.bool false∧I64 a6∧I64 T∧I64 a5∧Cx I O0 w wv [.own 51 (.sl si) (.slice C d.length c) Z,.own 51 (.sl si) (.slice L p.length f) P,.own 3 si (.slice x B.length y) b7,.box l 3 [iv T],.box R 3 [iv a5]]∧(some (true,Z,P,b7,T,a5):Option (Bool×(List (List Int))×(List (List Int))×(List Int)×Int×Int))=some r) (fun _ m6=>?_) ?_
      · refine wb ?_
        refine wl1 (fun m E wv=> ∃(a6:Int) (T:Int) (Z:List (List Int)) (a5:Int) (P:List (List Int)) (b7:List Int),E 0=iv u∧E 3=pg a0∧E 5=pg R∧E 6=pg a1∧E 7=pg a2∧E 8=pg a3∧E 9=pg a4∧E 10=pg Q∧E 12=.bool false∧E 24=.slice b2 o.length G∧E 25=iv (o.length:Int)∧E 26=iv a6∧I64 a6∧I64 T∧I64 a5∧Cx I O0 w wv [.rbox a0 27 [.slice C d.length c],.own 51 (.sl si) (.slice C d.length c) Z,.box R 3 [iv a5],.rbox a1 27 [.slice L p.length f],.own 51 (.sl si) (.slice L p.length f) P,.rbox a2 84 [.slice b5 D.length S],.ro (.sl (.sl (.sl si))) [.slice b5 D.length S] D,.rbox a3 51 [.slice x B.length y],.own 3 si (.slice x B.length y) b7,.rbox a4 51 [.slice M z.length N],.ro (.sl si) [.slice M z.length N] z,.rbox Q 72 [.func (.func 49) #[] #[pg a8,pg b0,pg a0,pg b1,pg R,pg a1,pg a2,pg a3,pg a4,pg Q]],.rbox a8 38 [iv a9,.slice U J.length V,.slice X K.length Y],.ro (.sl si) [.slice U J.length V] J,.ro (.sl (.sl si)) [.slice X K.length Y] K,.rbox b0 64 [.func (.func 25) #[] #[pg l]],.box l 3 [iv T],.rbox b1 27 [.slice b2 o.length G],.ro (.sl (.sl si)) [.slice b2 o.length G] o]∧loopN m (F.qgq (F.qcj n) n u a9 J K o D z) (a6,T,Z,a5,P,b7)=some o32) n ⟨0,a7,d,b8,p,B,r0,r0,r0,r0,r0,r0,r0,r0,r0,r0,r0,r0,i0,b9,d0,hC.sE [6,14,18,4,15,3,10,2,16,1,9,0,8,13,12,7,17,5,11],hl0⟩ ?_
        have hbK0:=hb
        clear hb hC hl0
        rintro m35 p9 q0 ⟨a6,T,Z,a5,P,b7,e0,e3,e5,e6,e7,e8,e9,h7,h5,h8,h9,h6,d7,b6,c3,hC,hl0⟩ K34 k7
        obtain ⟨m35',o38,rfl,hb,hl0⟩:=qak hl0
        unfold F.qgq at hb
        refine ws1 fun _ m7=>?_
        refine rg ?_
        refine lp _ (qaq h6 h9) ?_
        refine ln ?_
        refine m7 _ _ ?_
        refine ws1 fun _ m8=>?_
        refine wc (t:=(decide (a6<(o.length:Int)))) (r0) (fun j5=>?_) (fun j5=>?_)
        · replace hb:=tt j5 hb
          refine ws2 ?_
          refine m8 _ _ ?_
          refine ws1 fun _ k8=>?_
          refine wb ?_
          refine ws1 fun _ m9=>?_
          refine rg ?_
          obtain ⟨h1,k9,hb⟩:=bd hb
          obtain ⟨ad46,cs47,hA,hc48,hr49⟩:=hC.elr (i:=18) r0 (qac k9).2
          subst hA
          refine lp (.pointer (some (ad46.add (a6.toNat*1)))) (qae (a:=a6) u27 s51 h8 h6 (qac k9).1) ?_
          have hR:=hr49
          obtain ⟨A50,c51,rfl,hl52,hc53,_⟩:=hr49
          replace hC:=hC.ro hR
          clear hR
          refine lv (.slice A50 h1.length c51) (qaf i51 r0 (hc48 0 _ r0)) ?_
          refine lp (.slice A50 h1.length c51) (qab r0) ?_
          refine ln ?_
          refine m9 _ _ ?_
          refine ws1 fun _ n0=>?_
          refine rg ?_
          refine lv (iv a5) (qaf i3q e5 ((hC.bx (i:=3) r0).cell (j:=0) r0)) ?_
          obtain ⟨h4,j2,hb⟩:=bd hb
          refine lp (iv h4) (qaj (a:=a5) (b:=1) r0 r0 j2) ?_
          refine ls (hC.setf (i:=3) (k:=0) (v:=iv h4) r0 s3q r0 (by rw [Addr.add_zero']; exact e5) r0 r0) ?_
          rintro q1 ⟨hC,hF⟩
          refine ln ?_
          refine n0 _ _ ?_
          refine ws1 fun _ n1=>?_
          refine ws1 fun _ n2=>?_
          refine rg ?_
          refine lv (iv h4) (qaf i3q e5 ((hC.bx (i:=3) r0).cell (j:=0) r0)) ?_
          refine lp (.bool (decide (200000<h4))) (qcn (k:=.i64) (a:=h4) (b:=200000) r0 r0) ?_
          refine ln ?_
          refine n2 _ _ ?_
          refine wc (t:=(decide (200000<h4))) (r0) (fun j6=>?_) (fun j6=>?_)
          · replace hb:=tt j6 hb
            refine ws1 fun _ n3=>?_
            refine rg ?_
            refine lp (.bool false) (qab r0) ?_
            refine ln ?_
            refine n3 _ _ ?_
            obtain rfl:=os hb
            obtain rfl:=(lX hl0).symm
            replace hb:=hbK0
            obtain rfl:=os hb
            subst hI
            refine wr1 ?_
            refine j1 _ _ ?_
            refine ⟨_,res1 r49 (tV (.bool false) r0),_,r0,r0,b6,(qah j2),hC.sE [2,5,9,17,3]⟩
          · replace hb:=tf j6 hb
            refine ws2 ?_
            refine n1 _ _ ?_
            refine ws1 fun _ n4=>?_
            refine wr2 [34,36] (frm [34,36] ([]:List Fact) [.own 51 (.sl si) (.slice C d.length c) Z,.own 51 (.sl si) (.slice L p.length f) P]) (fun _=>rfl) mixed (by decide+kernel) (by decide+kernel) fun i9 hw64=>?_
            replace hC:=hC.step (Fr.qbo hw64)
            have hM:=Fr.refl (fun k=>k∈blocks ([]:List Fact)) i9
            clear hw64
            have hS:=hC
            have hD:Fr (fun k=>k∈blocks (([]:List Fact)++[.own 51 (.sl si) (.slice C d.length c) Z,.own 51 (.sl si) (.slice L p.length f) P])) i9 i9:=hM.wide
            have n5:Beside (([]:List Fact)++[.own 51 (.sl si) (.slice C d.length c) Z,.own 51 (.sl si) (.slice L p.length f) P]) i9 (.slice C d.length c):=Beside.of (i:=0) r0
            have n6:Beside (([]:List Fact)++[.own 51 (.sl si) (.slice C d.length c) Z,.own 51 (.sl si) (.slice L p.length f) P]) i9 (.slice L p.length f):=Beside.of (i:=1) r0
            refine ms2 hD (v:=.slice C d.length c) (fun _ hF=>qaf i27 e3 ((hS.rbx2 (i:=1) r0 [2,5] hF).cell (j:=0) r0)) ?_
            refine mp (iv u) (qaa e0) ?_
            refine ms2 hD (v:=.slice L p.length f) (fun _ hF=>qaf i27 e6 ((hS.rbx2 (i:=4) r0 [2,5] hF).cell (j:=0) r0)) ?_
            refine mp (iv u) (qaa e0) ?_
            refine mp (.slice A50 h1.length c51) (qaa r0) ?_
            refine mp (.slice A50 h1.length c51) (qaa r0) ?_
            obtain ⟨i1,n7,hb⟩:=bd hb
            refine mc hM (⟨_,_,qap (vs:=[.slice A50 h1.length c51]) call20 r0 r0 r0,perm_Inverse_ok n hC.lt (hC.rd (i:=0) r0) n7⟩) ?_
            rintro _ q2 ⟨A68,m69,c70,rfl,hK⟩
            have n8:=Beside.cl (i:=0) hM hK r0
            have q3:=n8.wide (H:=[.own 51 (.sl si) (.slice C d.length c) Z,.own 51 (.sl si) (.slice L p.length f) P])
            replace hM:=hM.none hK.fr
            replace hD:=hM.wide (H:=[.own 51 (.sl si) (.slice C d.length c) Z,.own 51 (.sl si) (.slice L p.length f) P])
            refine ⟨hM,?_⟩
            replace hC:=hC.merge hK
            obtain ⟨rfl,hl73,hc74⟩:=(hC.ow (i:=0) r0).qad
            obtain ⟨q4,j7,hb⟩:=bd hb
            obtain ⟨ad77,cs78,hA,ho81,hc79,hr80⟩:=hS.elo2 (i:=2) r0 (qac j7).2 [] (by decide)
            subst hA
            refine mp (.pointer (some (ad77.add (u.toNat*1)))) (qae (a:=u) u27 s51 r0 r0 (by rw [(hC.ow (i:=3) r0).qad.1]; exact (qac j7).1)) ?_
            refine ms1 hD (hC.put (i:=3) r0 r0 s51 (k:=u.toNat) (a:=h1) (by have:=(qac j7).1; simp at this⊢; omega) (hC.rd (i:=1) r0) r0 r0 r0) ?_
            rintro q5 ⟨hC,hF⟩
            replace hD:=hD.beside n5 hF
            refine ⟨hD,?_⟩
            obtain ⟨q6,j8,hb⟩:=bd hb
            obtain ⟨ad85,cs86,hA,ho89,hc87,hr88⟩:=hS.elo2 (i:=5) r0 (qac j8).2 [] (by decide)
            subst hA
            refine mp (.pointer (some (ad85.add (u.toNat*1)))) (qae (a:=u) u27 s51 r0 r0 (by rw [(hC.ow (i:=6) r0).qad.1]; exact (qac j8).1)) ?_
            replace hC:=hC.freeze (i:=0) r0 (hC.own_newI hI (i:=0) r0 (Qe.2 ⟨fun g hg=>⟨3,_,r0,by decide,blk_own hg⟩,Qe.2 ⟨fun g hg=>⟨6,_,r0,by decide,blk_own hg⟩,Qe.2 ⟨fun g hg=>⟨10,_,r0,by decide,blk_own hg⟩,Qe.2 ⟨fun g hg=>⟨18,_,r0,by decide,hg⟩,Qe.2 ⟨fun g hg=>⟨4,_,r0,by decide,hg⟩,fun _ h=>absurd h Qh⟩⟩⟩⟩⟩))
            refine ms1 hD (hC.put (i:=6) r0 r0 s51 (k:=u.toNat) (a:=i1) (by have:=(qac j8).1; simp at this⊢; omega) (hC.rd (i:=0) r0) r0 r0 r0) ?_
            rintro q7 ⟨hC,hF⟩
            replace hD:=hD.beside n6 hF
            refine ⟨hD,?_⟩
            refine mn ?_
            clear hS hM
            clear hD
            refine n4 _ _ ?_
            refine wf1 fun j9 hE=>?_
            have e0:=cg hE 0 e0
            have e3:=cg hE 3 e3
            have e5:=cg hE 5 e5
            have e6:=cg hE 6 e6
            have e7:=cg hE 7 e7
            have e8:=cg hE 8 e8
            have e9:=cg hE 9 e9
            have h7:=cg hE 10 h7
            have h5:=cg hE 12 h5
            have i2:j9 14=.slice A50 h1.length c51:=cg hE 14 r0
            have h8:=cg hE 24 h8
            have h9:=cg hE 25 h9
            have h6:=cg hE 26 h6
            have i3:j9 27=.bool (decide (a6<(o.length:Int))):=cg hE 27 r0
            have i4:j9 33=.bool (decide (200000<h4)):=cg hE 33 r0
            refine ws1 fun _ n9=>?_
            refine ws1 fun _ o0=>?_
            refine rg ?_
            refine lv (.slice b5 D.length S) (qaf isAgg84 e7 ((hC.rbx (i:=7) r0).cell (j:=0) r0)) ?_
            refine lp _ (qaa e0) ?_
            obtain ⟨h3,l0,hb⟩:=bd hb
            obtain ⟨ad96,cs97,hA,hc98,hr99⟩:=hC.elr (i:=8) r0 (qac l0).2
            subst hA
            refine lp (.pointer (some (ad96.add (u.toNat*1)))) (qae (a:=u) u84 s36 r0 r0 (qac l0).1) ?_
            have hR:=hr99
            obtain ⟨A100,c101,rfl,hl102,hc103,_⟩:=hr99
            replace hC:=hC.ro hR
            clear hR
            refine lv (.slice A100 h3.length c101) (qaf i36 r0 (hc98 0 _ r0)) ?_
            refine lp (iv (h3.length:Int)) (qan (A:=A100) (n:=h3.length) (m:=c101) u36 r0) ?_
            refine lp (iv 0) (qaa r0) ?_
            refine ln ?_
            refine o0 _ _ ?_
            obtain ⟨o105,hl1,hb⟩:=bd hb
            refine wc1 (fun E wv=> ∃(b4:Int) (b3:List Int),E 0=iv u∧E 3=pg a0∧E 5=pg R∧E 6=pg a1∧E 7=pg a2∧E 8=pg a3∧E 9=pg a4∧E 10=pg Q∧E 12=.bool false∧E 14=.slice A50 h1.length c51∧E 24=.slice (some ad46) o.length G∧E 25=iv (o.length:Int)∧E 26=iv a6∧E 27=.bool (decide (a6<(o.length:Int)))∧E 33=.bool (decide (200000<h4))∧E 46=.slice A100 h3.length c101∧E 47=iv (h3.length:Int)∧E 48=iv b4∧I64 b4∧Cx I O0 w wv [.rbox a0 27 [.slice (some ad77) d.length c],.own 51 (.sl si) (.slice (some ad77) d.length c) (Z.set u.toNat h1),.box R 3 [iv h4],.rbox a1 27 [.slice (some ad85) p.length f],.own 51 (.sl si) (.slice (some ad85) p.length f) (P.set u.toNat i1),.rbox a2 84 [.slice (some ad96) D.length S],.ro (.sl (.sl (.sl si))) [.slice (some ad96) D.length S] D,.rbox a3 51 [.slice x B.length y],.own 3 si (.slice x B.length y) b3,.rbox a4 51 [.slice M z.length N],.ro (.sl si) [.slice M z.length N] z,.rbox Q 72 [.func (.func 49) #[] #[pg a8,pg b0,pg a0,pg b1,pg R,pg a1,pg a2,pg a3,pg a4,pg Q]],.rbox a8 38 [iv a9,.slice U J.length V,.slice X K.length Y],.ro (.sl si) [.slice U J.length V] J,.ro (.sl (.sl si)) [.slice X K.length Y] K,.rbox b0 64 [.func (.func 25) #[] #[pg l]],.box l 3 [iv T],.rbox b1 27 [.slice (some ad46) o.length G],.ro (.sl (.sl si)) [.slice (some ad46) o.length G] o,.ro (.sl si) [.slice A50 h1.length c51] h1,.ro (.sl (.sl si)) [.slice A100 h3.length c101] h3]∧((chk (u+1)).bind fun j3=>((F.qcj n) j3 a9 J K T (Z.set u.toNat h1) o h4 (P.set u.toNat i1) D b3 z).bind fun h2=>cond (!h2.1) (some (.inr (.inr (false,h2.2.1,h2.2.2.1,h2.2.2.2.1,h2.2.2.2.2.1,h2.2.2.2.2.2)))) ((chk (a6+1)).bind fun j0=>some (.inl (j0,h2.2.2.2.2.1,h2.2.1,h2.2.2.2.2.2,h2.2.2.1,h2.2.2.2.1))):Option ((Int×Int×(List (List Int))×Int×(List (List Int))×(List Int))⊕((Int×Int×(List (List Int))×Int×(List (List Int))×(List Int))⊕(Bool×(List (List Int))×(List (List Int))×(List Int)×Int×Int))))=some o38) (fun _ o1=>?_) ?_
            · refine wb ?_
              refine wl1 (fun m E wv=> ∃(b4:Int) (b3:List Int),E 0=iv u∧E 3=pg a0∧E 5=pg R∧E 6=pg a1∧E 7=pg a2∧E 8=pg a3∧E 9=pg a4∧E 10=pg Q∧E 12=.bool false∧E 14=.slice A50 h1.length c51∧E 24=.slice (some ad46) o.length G∧E 25=iv (o.length:Int)∧E 26=iv a6∧E 27=.bool (decide (a6<(o.length:Int)))∧E 33=.bool (decide (200000<h4))∧E 46=.slice A100 h3.length c101∧E 47=iv (h3.length:Int)∧E 48=iv b4∧I64 b4∧Cx I O0 w wv [.rbox a0 27 [.slice (some ad77) d.length c],.own 51 (.sl si) (.slice (some ad77) d.length c) (Z.set u.toNat h1),.box R 3 [iv h4],.rbox a1 27 [.slice (some ad85) p.length f],.own 51 (.sl si) (.slice (some ad85) p.length f) (P.set u.toNat i1),.rbox a2 84 [.slice (some ad96) D.length S],.ro (.sl (.sl (.sl si))) [.slice (some ad96) D.length S] D,.rbox a3 51 [.slice x B.length y],.own 3 si (.slice x B.length y) b3,.rbox a4 51 [.slice M z.length N],.ro (.sl si) [.slice M z.length N] z,.rbox Q 72 [.func (.func 49) #[] #[pg a8,pg b0,pg a0,pg b1,pg R,pg a1,pg a2,pg a3,pg a4,pg Q]],.rbox a8 38 [iv a9,.slice U J.length V,.slice X K.length Y],.ro (.sl si) [.slice U J.length V] J,.ro (.sl (.sl si)) [.slice X K.length Y] K,.rbox b0 64 [.func (.func 25) #[] #[pg l]],.box l 3 [iv T],.rbox b1 27 [.slice (some ad46) o.length G],.ro (.sl (.sl si)) [.slice (some ad46) o.length G] o,.ro (.sl si) [.slice A50 h1.length c51] h1,.ro (.sl (.sl si)) [.slice A100 h3.length c101] h3]∧loopN m (F.qgr (F.qcj n) n u z Z P h1 i1 h3) (b4,b3)=some o105) n ⟨0,b7,e0,e3,e5,e6,e7,e8,e9,h7,h5,i2,h8,h9,h6,i3,i4,r0,r0,r0,i0,hC.sE [3,4,5,6,7,8,9,10,11,12,13,14,15,16,17,18,19,20,21,2,0],hl1⟩ ?_
              have hbK1:=hb
              clear hb hC hl1
              rintro m108 q8 q9 ⟨b4,b3,e0,e3,e5,e6,e7,e8,e9,h7,h5,i2,h8,h9,h6,i3,i4,i7,i8,i5,d8,hC,hl1⟩ K107 o2
              obtain ⟨m108',o111,rfl,hb,hl1⟩:=qak hl1
              unfold F.qgr at hb
              refine ws1 fun _ o3=>?_
              refine rg ?_
              refine lp _ (qaq i5 i8) ?_
              refine ln ?_
              refine o3 _ _ ?_
              refine ws1 fun _ o4=>?_
              refine wc (t:=(decide (b4<(h3.length:Int)))) (r0) (fun k0=>?_) (fun k0=>?_)
              · replace hb:=tt k0 hb
                refine ws2 ?_
                refine o4 _ _ ?_
                refine ws1 fun _ o5=>?_
                refine wb ?_
                refine ws1 fun _ o6=>?_
                refine rg ?_
                obtain ⟨i6,l1,hb⟩:=bd hb
                obtain ⟨ad119,cs120,hA,hc121,hr122⟩:=hC.elr (i:=20) r0 (qac l1).2
                subst hA
                refine lp (.pointer (some (ad119.add (b4.toNat*1)))) (qae (a:=b4) u36 sizeOf61 i7 i5 (qac l1).1) ?_
                have hR:=hr122
                obtain ⟨A123,c124,rfl,hl125,hc126,_⟩:=hr122
                replace hC:=hC.ro hR
                clear hR
                refine lv (.slice A123 i6.length c124) (qaf isAgg61 r0 (hc121 0 _ r0)) ?_
                refine lp (.slice A123 i6.length c124) (qab r0) ?_
                refine ln ?_
                refine o6 _ _ ?_
                refine ws1 fun _ o7=>?_
                refine rg ?_
                refine lv (.slice x B.length y) (qaf i51 e8 ((hC.rbx (i:=8) r0).cell (j:=0) r0)) ?_
                refine lv (.slice M z.length N) (qaf i51 e9 ((hC.rbx (i:=10) r0).cell (j:=0) r0)) ?_
                refine lo2 (hC.copy (i:=9) (s:=si) (xs:=b3) (ys:=z) (m:=z.length) r0 r0 u51q (congrArg (Option.map (·.size)) type3) (hC.srcr (i:=11) r0) r0 r0) ?_
                rintro _ o8 ⟨rfl,hC,hF⟩
                refine ln ?_
                refine o7 _ _ ?_
                refine ws1 fun _ o9=>?_
                refine rg ?_
                refine lv (.slice x B.length y) (qaf i51 e8 ((hC.rbx (i:=8) r0).cell (j:=0) r0)) ?_
                refine lp (.slice A123 i6.length c124) (qaa r0) ?_
                refine lv (.slice (some ad77) d.length c) (qaf i27 e3 ((hC.rbx (i:=1) r0).cell (j:=0) r0)) ?_
                refine lv (.slice (some ad85) p.length f) (qaf i27 e6 ((hC.rbx (i:=4) r0).cell (j:=0) r0)) ?_
                replace hC:Cx I O0 w o8 ([.own 3 si (.slice x B.length y) (z.take (min z.length b3.length)++b3.drop (min z.length b3.length))]++[.ro (.sl si) [.slice A123 i6.length c124] i6,.rbox a0 27 [.slice (some ad77) d.length c],.own 51 (.sl si) (.slice (some ad77) d.length c) (Z.set u.toNat h1),.box R 3 [iv h4],.rbox a1 27 [.slice (some ad85) p.length f],.own 51 (.sl si) (.slice (some ad85) p.length f) (P.set u.toNat i1),.rbox a2 84 [.slice (some ad96) D.length S],.ro (.sl (.sl (.sl si))) [.slice (some ad96) D.length S] D,.rbox a3 51 [.slice x B.length y],.rbox a4 51 [.slice M z.length N],.ro (.sl si) [.slice M z.length N] z,.rbox Q 72 [.func (.func 49) #[] #[pg a8,pg b0,pg a0,pg b1,pg R,pg a1,pg a2,pg a3,pg a4,pg Q]],.rbox a8 38 [iv a9,.slice U J.length V,.slice X K.length Y],.ro (.sl si) [.slice U J.length V] J,.ro (.sl (.sl si)) [.slice X K.length Y] K,.rbox b0 64 [.func (.func 25) #[] #[pg l]],.box l 3 [iv T],.rbox b1 27 [.slice (some ad46) o.length G],.ro (.sl (.sl si)) [.slice (some ad46) o.length G] o,.ro (.sl si) [.slice A50 h1.length c51] h1,.ro (.sl (.sl si)) [.slice (some ad119) h3.length c101] h3]):=hC.sE [9,0,1,2,3,4,5,6,7,8,10,11,12,13,14,15,16,17,18,19,20,21]
                obtain ⟨l2,p0,hb⟩:=bd hb
                refine lc (⟨_,_,qap (vs:=[.slice x B.length y,.slice A123 i6.length c124,.slice (some ad77) d.length c,.slice (some ad85) p.length f]) call50 r0 r0 r0,homs_multiply_ok n (hC.lentLt [.slice (some ad85) p.length f,.slice (some ad77) d.length c]) ((hC.rd (i:=1) r0).lent [.slice (some ad85) p.length f,.slice (some ad77) d.length c]) ((hC.ow (i:=3) r0).lend (vs:=[.slice (some ad85) p.length f,.slice (some ad77) d.length c]) (by simp)) ((hC.ow (i:=6) r0).lend (vs:=[.slice (some ad85) p.length f,.slice (some ad77) d.length c]) (by simp)) (hC.give.lent [.slice (some ad85) p.length f,.slice (some ad77) d.length c] (hC.apart (Qe.2 ⟨blk_in (i:=5) r0,Qe.2 ⟨blk_in (i:=2) r0,fun _ h=>absurd h Qh⟩⟩))) p0⟩) ?_
                rintro _ r1 ⟨rfl,hK⟩
                replace hC:=hC.back (hK.flatTk r0 hC.lt)
                refine ln ?_
                refine o9 _ _ ?_
                refine wf1 fun l3 hE=>?_
                have e0:=cg hE 0 e0
                have e3:=cg hE 3 e3
                have e5:=cg hE 5 e5
                have e6:=cg hE 6 e6
                have e7:=cg hE 7 e7
                have e8:=cg hE 8 e8
                have e9:=cg hE 9 e9
                have h7:=cg hE 10 h7
                have h5:=cg hE 12 h5
                have i2:=cg hE 14 i2
                have r2:l3 16=.slice A123 i6.length c124:=cg hE 16 r0
                have h8:=cg hE 24 h8
                have h9:=cg hE 25 h9
                have h6:=cg hE 26 h6
                have i3:=cg hE 27 i3
                have i4:=cg hE 33 i4
                have i7:=cg hE 46 i7
                have i8:=cg hE 47 i8
                have i5:=cg hE 48 i5
                have r3:l3 49=.bool (decide (b4<(h3.length:Int))):=cg hE 49 r0
                refine ws1 fun _ p1=>?_
                refine rg ?_
                refine lv (.slice x B.length y) (qaf i51 e8 ((hC.rbx (i:=9) r0).cell (j:=0) r0)) ?_
                refine lv (.slice M z.length N) (qaf i51 e9 ((hC.rbx (i:=10) r0).cell (j:=0) r0)) ?_
                obtain ⟨k1,p2,hb⟩:=bd hb
                refine lc (⟨_,_,qap (vs:=[.slice x B.length y,.slice M z.length N]) call51 r0 r0 r0,slices_Equal_Perm_int_ok n (hC.lentLt [.slice x B.length y]) ((hC.ow (i:=0) r0).lend (vs:=[.slice x B.length y]) (by simp)) ((hC.rd (i:=11) r0).lent [.slice x B.length y]) p2⟩) ?_
                rintro _ r4 ⟨rfl,hK⟩
                replace hC:=hC.mergeF hK r0
                refine lp (.bool (!k1)) (qcr (q:=k1) r0) ?_
                refine ln ?_
                refine p1 _ _ ?_
                refine wc (t:=(!k1)) (r0) (fun k2=>?_) (fun k2=>?_)
                · replace hb:=tt k2 hb
                  refine we r0 ?_
                  obtain rfl:=os hb
                  obtain rfl:=(lX hl1).symm
                  replace hb:=hbK1
                  refine k8 _ _ ?_
                  refine rg ?_
                  obtain ⟨k3,l4,hb⟩:=bd hb
                  refine lp (iv k3) (qaj (a:=a6) (b:=1) h6 r0 l4) ?_
                  refine lp (iv k3) (qaa r0) ?_
                  refine ln ?_
                  obtain rfl:=os hb
                  exact k7 m35' _ _ (Qa _) ⟨k3,T,(Z.set u.toNat h1),h4,(P.set u.toNat i1),l2,e0,e3,e5,e6,e7,e8,e9,h7,h5,h8,h9,r0,(qah l4),b6,(qah j2),hC.sE [2,3,4,5,6,7,8,9,0,10,11,12,13,14,15,16,17,18,19],lN hl0⟩
                · replace hb:=tf k2 hb
                  refine ws2 ?_
                  refine o5 _ _ ?_
                  refine rg ?_
                  obtain ⟨k4,l5,hb⟩:=bd hb
                  refine lp (iv k4) (qaj (a:=b4) (b:=1) i5 r0 l5) ?_
                  refine lp (iv k4) (qaa r0) ?_
                  refine ln ?_
                  obtain rfl:=os hb
                  exact o2 m108' _ _ (Qa _) ⟨k4,l2,e0,e3,e5,e6,e7,e8,e9,h7,h5,i2,h8,h9,h6,i3,i4,i7,i8,r0,(qah l5),hC.sE [2,3,4,5,6,7,8,9,0,10,11,12,13,14,15,16,17,18,19,20,21],lN hl1⟩
              · replace hb:=tf k0 hb
                refine we r0 ?_
                obtain rfl:=os hb
                obtain rfl:=(lX hl1).symm
                exact o1 _ _ ⟨b4,b3,e0,e3,e5,e6,e7,e8,e9,h7,h5,i2,h8,h9,h6,i3,i4,i7,i8,i5,d8,hC.sE [0,1,2,3,4,5,6,7,8,9,10,11,12,13,14,15,16,17,18,19,20],hbK1⟩
            · clear hb hC hl1
              rintro r8 p3 ⟨b4,b3,e0,e3,e5,e6,e7,e8,e9,h7,h5,i2,h8,h9,h6,i3,i4,i7,i8,i5,d8,hC,hb⟩
              refine n9 _ _ ?_
              refine ws1 fun _ p4=>?_
              refine rg ?_
              refine lv (.func (.func 49) #[] #[pg a8,pg b0,pg a0,pg b1,pg R,pg a1,pg a2,pg a3,pg a4,pg Q]) (qaf isAgg72 h7 ((hC.rbx (i:=11) r0).cell (j:=0) r0)) ?_
              refine lp _ (qaa e0) ?_
              obtain ⟨j3,l6,hb⟩:=bd hb
              refine lp (iv j3) (qaj (a:=u) (b:=1) r0 r0 l6) ?_
              replace hC:Cx I O0 w p3 ([.own 51 (.sl si) (.slice (some ad77) d.length c) (Z.set u.toNat h1),.own 51 (.sl si) (.slice (some ad85) p.length f) (P.set u.toNat i1),.own 3 si (.slice x B.length y) b3,.box l 3 [iv T],.box R 3 [iv h4]]++[.rbox a0 27 [.slice (some ad77) d.length c],.rbox a1 27 [.slice (some ad85) p.length f],.rbox a2 84 [.slice (some ad96) D.length S],.ro (.sl (.sl (.sl si))) [.slice (some ad96) D.length S] D,.rbox a3 51 [.slice x B.length y],.rbox a4 51 [.slice M z.length N],.ro (.sl si) [.slice M z.length N] z,.rbox Q 72 [.func (.func 49) #[] #[pg a8,pg b0,pg a0,pg b1,pg R,pg a1,pg a2,pg a3,pg a4,pg Q]],.rbox a8 38 [iv a9,.slice U J.length V,.slice X K.length Y],.ro (.sl si) [.slice U J.length V] J,.ro (.sl (.sl si)) [.slice X K.length Y] K,.rbox b0 64 [.func (.func 25) #[] #[pg l]],.rbox b1 27 [.slice (some ad46) o.length G],.ro (.sl (.sl si)) [.slice (some ad46) o.length G] o,.ro (.sl si) [.slice A50 h1.length c51] h1,.ro (.sl (.sl si)) [.slice A100 h3.length c101] h3]):=hC.sE [1,4,8,16,2,0,3,5,6,7,9,10,11,12,13,14,15,17,18,19,20]
              obtain ⟨h2,p5,hb⟩:=bd hb
              refine lc (⟨_,_,qcu (vs:=[iv j3,pg a8,pg b0,pg a0,pg b1,pg R,pg a1,pg a2,pg a3,pg a4,pg Q]) (ca:=#[pg a8,pg b0,pg a0,pg b1,pg R,pg a1,pg a2,pg a3,pg a4,pg Q]) call49 r0 r0 r0,ih hC.lt (qah l6) d5 (hC.rd (i:=14) r0) (hC.rd (i:=15) r0) b6 (hC.rd (i:=18) r0) (qah j2) (hC.rd (i:=8) r0) (hC.rd (i:=11) r0) (hC.rb (i:=13) r0) (hC.rb (i:=16) r0) (hC.rb (i:=5) r0) (hC.rb (i:=17) r0) (hC.rb (i:=6) r0) (hC.rb (i:=7) r0) (hC.rb (i:=9) r0) (hC.rb (i:=10) r0) (hC.rb (i:=12) r0) hC.give p5⟩) ?_
              rintro _ r9 ⟨rfl,hr151,hr152,hK⟩
              replace hC:=hC.back hK
              refine lp (.bool (!h2.1)) (qcr (q:=h2.1) r0) ?_
              refine ln ?_
              refine p4 _ _ ?_
              refine wc (t:=(!h2.1)) (r0) (fun k5=>?_) (fun k5=>?_)
              · replace hb:=tt k5 hb
                refine ws1 fun _ p6=>?_
                refine rg ?_
                refine lp (.bool false) (qab r0) ?_
                refine ln ?_
                refine p6 _ _ ?_
                obtain rfl:=os hb
                obtain rfl:=(lX hl0).symm
                replace hb:=hbK0
                obtain rfl:=os hb
                subst hI
                refine wr1 ?_
                refine j1 _ _ ?_
                refine ⟨_,res1 r49 (tV (.bool false) r0),_,r0,r0,hr151,hr152,hC.sE [0,1,2,3,4]⟩
              · replace hb:=tf k5 hb
                refine ws2 ?_
                refine k8 _ _ ?_
                refine rg ?_
                obtain ⟨j0,l7,hb⟩:=bd hb
                refine lp (iv j0) (qaj (a:=a6) (b:=1) h6 r0 l7) ?_
                refine lp (iv j0) (qaa r0) ?_
                refine ln ?_
                obtain rfl:=os hb
                exact k7 m35' _ _ (Qa _) ⟨j0,h2.2.2.2.2.1,h2.2.1,h2.2.2.2.2.2,h2.2.2.1,h2.2.2.2.1,e0,e3,e5,e6,e7,e8,e9,h7,h5,h8,h9,r0,(qah l7),hr151,hr152,hC.sE [5,0,4,6,1,7,8,9,2,10,11,12,13,14,15,16,3,17,18],lN hl0⟩
        · replace hb:=tf j5 hb
          refine we r0 ?_
          obtain rfl:=os hb
          obtain rfl:=(lX hl0).symm
          exact m6 _ _ ⟨a6,T,Z,a5,P,b7,h5,d7,b6,c3,hC.sE [1,4,8,16,2],hbK0⟩
      · clear hb hC hl0
        rintro s0 s1 ⟨a6,T,Z,a5,P,b7,h5,d7,b6,c3,hC,hb⟩
        refine m4 _ _ ?_
        refine ws1 fun _ p7=>?_
        refine rg ?_
        refine lp (.bool true) (qab r0) ?_
        refine ln ?_
        refine p7 _ _ ?_
        obtain rfl:=os hb
        subst hI
        refine wr1 ?_
        refine j1 _ _ ?_
        refine ⟨_,res1 r49 (tV (.bool true) r0),_,r0,r0,b6,c3,hC.sE [0,1,2,3,4]⟩
