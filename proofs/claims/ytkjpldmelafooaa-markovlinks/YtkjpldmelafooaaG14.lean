import Derived.Test.YtkjpldmelafooaaS
import Derived.Test.YtkjpldmelafooaaG7
import Derived.Test.YtkjpldmelafooaaG8
import Derived.Test.YtkjpldmelafooaaG11
import Derived.Test.YtkjpldmelafooaaG12
import Derived.Test.YtkjpldmelafooaaG13
set_option linter.all false
namespace Go.Proofs.Ytkjpldmelafooaa
open Ev Try
set_option maxRecDepth 100000
set_option maxHeartbeats 4000000
theorem bivariate_Poly_Mul_ok (n:Nat) {w:World} {O0:List Nat} (hO: ∀k∈O0,k<w.heap.size) {s:Bool} {p:Option Addr} {C j:Nat} {c:List (Int×(Int×Int))} (D:Rep O0 w (.sl (.pr si (.pr si si))) [.slice p C j] c) {y:Bool} {f:Option Addr} {G h:Nat} {d:List (Int×(Int×Int))} (H:Rep O0 w (.sl (.pr si (.pr si si))) [.slice f G h] d) {r:Bool×(List (Int×(Int×Int)))} (P:F.qgb n s c y d=some r):
    Calls prog 75 #[.agg #[.bool s,.slice p C j],.agg #[.bool y,.slice f G h]] w fun e w'=> ∃v,e=.returned v∧∃(A1:Option Addr) (m1 c1:Nat),v=.agg #[.bool r.1,.slice A1 m1 c1]∧Cx (fun _=>False) O0 w w' [.own 101 (.pr si (.pr si si)) (.slice A1 m1 c1) r.2]:=by
 unfold F.qgb at P;have N:=Cx.start hO;replace N:=N.arg r0 D;replace N:=N.arg r0 H;obtain ⟨rfl,J,K⟩:=D.qah;obtain ⟨rfl,L,M⟩:=H.qah;refine qao func75 r0 (by rw [ntmps75]; exact nb r0) fun KR b1=>?_;refine ws fun _ f5=>rg<|lo2 (N.box (cs:=[.bool s,.slice p c.length j]) r0 r0) ?_;rintro _ w5 ⟨g4,rfl,N,R,-⟩;refine lo2 (N.box (cs:=[.bool y,.slice f d.length h]) r0 r0) ?_;rintro _ w8 ⟨g7,rfl,N,R,-⟩;refine lo2 (N.alloc (cs:=[.bool false,.slice none 0 0]) z64 r0) ?_;rintro _ k4 ⟨a2,rfl,N,R,-⟩;refine ln (f5 _ _ ?_);refine ws fun _ f6=>?_;refine ws fun _ d8=>rg<|lp (.pointer (some ((⟨g4,0,none⟩:Addr).add 0))) (qae (sz:=1) u64 r0 s4q (by decide) r0 r0)<|lv (.bool s) (qag (N.bx (i:=2) r0) i4q r0 r0)<|lp (.bool s) (qaa r0) ?_;rcases bS s with a5 | a5
 replace P:=tt a5 P;refine gs r0 r0 s r0 a5<|gs r0 r0 s r0 a5<|lp (.bool true) (qas (q:=s) r0 a5 r0)<|ln (d8 _ _ ?_);refine Wc.cond_true (r0) ?_;refine ws fun _ f7=>rg<|lp (.agg #[.bool true,.slice none 0 0]) (qam (places:=[(0,1),(1,1)]) (pv:=[(0,.bool true)]) type64 u64 r0 (qaf type4 (qaf type62 qax r0 r0) r0 r0) r0 (by simp [Instr.fill,Value.cells]))<|ls (N.seta (i:=0) (ds:=[.bool true,.slice none 0 0]) r0 type64 r0 r0 r0 r0 r0) ?_;rintro k5 ⟨N,R⟩;refine ln (f7 _ _ ?_);replace N:=N.nil 101 (.pr si (.pr si si));obtain rfl:=os P;refine wr1 (b1 _ _ ?_);refine ⟨_,res1 r75 ⟨_,r0,qaj (N.bx (i:=1) r0) i64q s64⟩,_,r0,none,0,0,r0,N.sE [0]⟩;replace P:=tf a5 P;refine gp r0 r0 s r0 a5 (.pointer (some ((⟨g7,0,none⟩:Addr).add 0))) (qae (sz:=1) u64 r0 s4q (by decide) r0 r0)<|gv r0 r0 s r0 a5 (.bool y) (qag (N.bx (i:=1) r0) i4q r0 r0)<|lp (.bool y) (qar (q:=s) r0 a5 r0)<|ln (d8 _ _ ?_);refine wc (t:=y) (r0) (fun c4=>?_) (fun c4=>?_);replace P:=tt c4 P;refine ws fun _ f8=>rg<|lp (.agg #[.bool true,.slice none 0 0]) (qam (places:=[(0,1),(1,1)]) (pv:=[(0,.bool true)]) type64 u64 r0 (qaf type4 (qaf type62 qax r0 r0) r0 r0) r0 (by simp [Instr.fill,Value.cells]))<|ls (N.seta (i:=0) (ds:=[.bool true,.slice none 0 0]) r0 type64 r0 r0 r0 r0 r0) ?_;rintro k6 ⟨N,R⟩;refine ln (f8 _ _ ?_);replace N:=N.nil 101 (.pr si (.pr si si));obtain rfl:=os P;refine wr1 (b1 _ _ ?_);refine ⟨_,res1 r75 ⟨_,r0,qaj (N.bx (i:=1) r0) i64q s64⟩,_,r0,none,0,0,r0,N.sE [0]⟩;replace P:=tf c4 P;refine ws1 (f6 _ _ ?_);refine ws fun _ f9=>?_;refine ws fun _ d9=>rg<|lp (.pointer (some ((⟨g4,0,none⟩:Addr).add 1))) (qae (sz:=1) u64 r0 s62 (by decide) r0 r0)<|lv (.slice p c.length j) (qag (N.bx (i:=2) r0) i62 r0 r0)<|lp (iv (c.length:Int)) (qaz (A:=p) (n:=c.length) (m:=j) u62 r0)<|lp (.bool (decide ((c.length:Int)=0))) (qbe (k:=.i64) (a:=(c.length:Int)) (b:=0) r0 r0)<|lp (.bool (decide ((c.length:Int)=0))) (qaa r0) ?_;rcases bS (decide ((c.length:Int)=0)) with Z | Z
 replace P:=tt Z P;refine gs r0 r0 (decide ((c.length:Int)=0)) r0 Z<|gs r0 r0 (decide ((c.length:Int)=0)) r0 Z<|gs r0 r0 (decide ((c.length:Int)=0)) r0 Z<|gs r0 r0 (decide ((c.length:Int)=0)) r0 Z<|lp (.bool true) (qas (q:=(decide ((c.length:Int)=0))) r0 Z r0)<|ln (d9 _ _ ?_);refine wf1 fun b6 Q=>?_;have e2:b6 2=pg g4:=cg Q 2 r0;have X:b6 3=pg g7:=cg Q 3 r0;have T:b6 4=pg a2:=cg Q 4 r0;have c5:b6 27=.bool true:=cg Q 27 r0;refine Wc.cond_true (c5) ?_;refine ws fun _ g3=>rg<|lp (.agg #[.bool false,.slice none 0 0]) (qam (places:=[(0,1),(1,1)]) (pv:=[]) type64 u64 r0 (qaf type4 (qaf type62 qax r0 r0) r0 r0) r0 (by simp [Instr.fill,Value.cells]))<|ls (N.seta (i:=0) (ds:=[.bool false,.slice none 0 0]) r0 type64 r0 r0 r0 T r0) ?_;rintro k7 ⟨N,R⟩;refine ln (g3 _ _ ?_);replace N:=N.nil 101 (.pr si (.pr si si));obtain rfl:=os P;refine wr1 (b1 _ _ ?_);refine ⟨_,res1 r75 ⟨_,T,qaj (N.bx (i:=1) r0) i64q s64⟩,_,r0,none,0,0,r0,N.sE [0]⟩;replace P:=tf Z P;refine gp r0 r0 (decide ((c.length:Int)=0)) r0 Z (.pointer (some ((⟨g7,0,none⟩:Addr).add 1))) (qae (sz:=1) u64 r0 s62 (by decide) r0 r0)<|gv r0 r0 (decide ((c.length:Int)=0)) r0 Z (.slice f d.length h) (qag (N.bx (i:=1) r0) i62 r0 r0)<|gp r0 r0 (decide ((c.length:Int)=0)) r0 Z (iv (d.length:Int)) (qaz (A:=f) (n:=d.length) (m:=h) u62 r0)<|gp r0 r0 (decide ((c.length:Int)=0)) r0 Z (.bool (decide ((d.length:Int)=0))) (qbe (k:=.i64) (a:=(d.length:Int)) (b:=0) r0 r0)<|lp (.bool (decide ((d.length:Int)=0))) (qar (q:=(decide ((c.length:Int)=0))) r0 Z r0)<|ln (d9 _ _ ?_);refine wf1 fun b7 Q=>?_;have e2:b7 2=pg g4:=cg Q 2 r0;have X:b7 3=pg g7:=cg Q 3 r0;have T:b7 4=pg a2:=cg Q 4 r0;have c5:b7 27=.bool (decide ((d.length:Int)=0)):=cg Q 27 r0;refine wc (t:=(decide ((d.length:Int)=0))) (c5) (fun c6=>?_) (fun c6=>?_);replace P:=tt c6 P;refine ws fun _ g5=>rg<|lp (.agg #[.bool false,.slice none 0 0]) (qam (places:=[(0,1),(1,1)]) (pv:=[]) type64 u64 r0 (qaf type4 (qaf type62 qax r0 r0) r0 r0) r0 (by simp [Instr.fill,Value.cells]))<|ls (N.seta (i:=0) (ds:=[.bool false,.slice none 0 0]) r0 type64 r0 r0 r0 T r0) ?_;rintro k8 ⟨N,R⟩;refine ln (g5 _ _ ?_);replace N:=N.nil 101 (.pr si (.pr si si));obtain rfl:=os P;refine wr1 (b1 _ _ ?_);refine ⟨_,res1 r75 ⟨_,T,qaj (N.bx (i:=1) r0) i64q s64⟩,_,r0,none,0,0,r0,N.sE [0]⟩;replace P:=tf c6 P;refine ws1 (f9 _ _ ?_);refine ws fun _ g6=>?_;refine ws fun _ g8=>?_;refine wr2 [] (frm [] ([]:List Fact) ([]:List Fact)) (fun _=>rfl) mixed (by decide+kernel) (by decide+kernel) fun g9 hw37=>?_;replace N:=N.step (Fr.qbw hw37);have S:=Fr.refl (fun k=>k∈blocks ([]:List Fact)) g9;clear hw37;have hS:=N;refine ml1 S (v:=.agg #[.bool s,.slice p c.length j]) (fun _ R=>qat (hS.bx2 (i:=2) r0 [] (by decide) R) i64q s64 e2) ?_;obtain ⟨c7,h0,P⟩:=bd P;refine mc S (⟨_,_,qap (vs:=[.agg #[.bool s,.slice p c.length j]]) call91 r0 r0 r0,qhx n N.lt (N.rd (i:=4) r0) h0⟩) ?_;rintro _ k9 ⟨rfl,hr41,hK⟩;replace S:=S.none hK.fr;refine ⟨S,?_⟩;replace N:=N.merge hK;refine ml1 S (v:=.agg #[.bool y,.slice f d.length h]) (fun _ R=>qat (hS.bx2 (i:=1) r0 [] (by decide) R) i64q s64 X) ?_;obtain ⟨h1,h2,P⟩:=bd P;refine mc S (⟨_,_,qap (vs:=[.agg #[.bool y,.slice f d.length h]]) call91 r0 r0 r0,qhx n N.lt (N.rd (i:=3) r0) h2⟩) ?_;rintro _ l0 ⟨rfl,hr45,hK⟩;replace S:=S.none hK.fr;refine ⟨S,?_⟩;replace N:=N.merge hK;obtain ⟨l1,h3,P⟩:=bd P;obtain ⟨b9,h4,P⟩:=bd P;refine mp (iv b9) (qgg (a:=1125899906842624) (b:=h1) r0 r0 h3 h4)<|mp (.bool (decide (b9<c7))) (qei (k:=.i64) (a:=c7) (b:=b9) r0 r0)<|mn ?_;clear hS S;refine g8 _ _<|wc (t:=(decide (b9<c7))) (r0) (fun c8=>?_) (fun c8=>?_);replace P:=tt c8 P;refine ws fun _ h5=>rg<|lp (.agg #[.bool true,.slice none 0 0]) (qam (places:=[(0,1),(1,1)]) (pv:=[(0,.bool true)]) type64 u64 r0 (qaf type4 (qaf type62 qax r0 r0) r0 r0) r0 (by simp [Instr.fill,Value.cells]))<|ls (N.seta (i:=0) (ds:=[.bool true,.slice none 0 0]) r0 type64 r0 r0 r0 T r0) ?_;rintro l2 ⟨N,R⟩;refine ln (h5 _ _ ?_);replace N:=N.nil 101 (.pr si (.pr si si));obtain rfl:=os P;refine wr1 (b1 _ _ ?_);refine ⟨_,res1 r75 ⟨_,T,qaj (N.bx (i:=1) r0) i64q s64⟩,_,r0,none,0,0,r0,N.sE [0]⟩;replace P:=tf c8 P;refine ws1 (g6 _ _ ?_);refine ws fun _ h6=>rg<|lo2 (N.mkmp .pair (.pr si si)) ?_;rintro _ l3 ⟨U,rfl,N,-,-⟩;refine lp (.map (some U)) (qab r0)<|ln (h6 _ _ ?_);refine ws fun _ h7=>?_;refine ws fun _ h8=>rg<|lp (.pointer (some ((⟨g4,0,none⟩:Addr).add 1))) (qae (sz:=1) u64 r0 s62 (by decide) r0 e2)<|lv (.slice p c.length j) (qag (N.bx (i:=3) r0) i62 r0 r0)<|lp (iv (c.length:Int)) (qaz (A:=p) (n:=c.length) (m:=j) u62 r0)<|lp (iv 0) (qaa r0)<|ln (h8 _ _ ?_);refine wf1 fun c0 Q=>?_;have X:=cg Q 3 X;have T:=cg Q 4 T;have Y:c0 5=.map (some U):=cg Q 5 r0;have a3:c0 38=.slice p c.length j:=cg Q 38 r0;have a4:c0 39=iv (c.length:Int):=cg Q 39 r0;have a0:c0 40=iv 0:=cg Q 40 r0;obtain ⟨o62,hl0,f62,hf62,P⟩:=bn P;refine wc1 (fun E wv=> ∃(l:Int) (x:List ((Int×Int)×(Int×Int))),E 4=pg a2∧E 5=.map (some U)∧I64 l∧Cx (fun _=>False) O0 w wv [.box a2 64 [.bool false,.slice none 0 0],.mp U .pair (.pr si si) x]∧f62 (l,x)=some r) (fun _ h9=>?_) ?_;refine wb ?_;refine wl (fun m E wv=> ∃(l:Int) (x:List ((Int×Int)×(Int×Int))),E 3=pg g7∧E 4=pg a2∧E 5=.map (some U)∧E 38=.slice p c.length j∧E 39=iv (c.length:Int)∧E 40=iv l∧I64 l∧Cx (fun _=>False) O0 w wv [.box g7 64 [.bool y,.slice f d.length h],.ro (.sl (.pr si (.pr si si))) [.slice f d.length h] d,.box a2 64 [.bool false,.slice none 0 0],.mp U .pair (.pr si si) x,.ro (.sl (.pr si (.pr si si))) [.slice p c.length j] c]∧loopN m (F.qdp n c d) (l,x)=some o62) n ⟨0,([]:List ((Int×Int)×(Int×Int))),X,T,Y,a3,a4,a0,i0,N.sE [2,4,1,0,5],hl0⟩ ?_;have hbK0:=P;clear P N hl0;rintro m65 l4 l5 ⟨l,x,X,T,Y,a3,a4,a0,z,N,hl0⟩ K64 i4;obtain ⟨m65',o68,rfl,P,hl0⟩:=qbb hl0;unfold F.qdp at P;refine ws fun _ i5=>rg<|lp _ (qbm a0 a4)<|ln (i5 _ _ ?_);refine ws fun _ i6=>?_;refine wc (t:=(decide (l<(c.length:Int)))) (r0) (fun c9=>?_) (fun c9=>?_);replace P:=tt c9 P;refine ws1 (i6 _ _ ?_);refine ws fun _ i7=>?_;refine wb<|ws fun _ i8=>rg ?_;obtain ⟨V,e0,P⟩:=bd P;obtain ⟨ad76,cs77,hA,hc78,hr79⟩:=N.elr (i:=4) r0 (qad e0).2;subst hA;refine lp (.pointer (some (ad76.add (l.toNat*3)))) (qan (a:=l) u62 s101 a3 a0 (qad e0).1) ?_;obtain ⟨k80,k81,rfl,hr82,hr83⟩:=hr79;obtain ⟨rfl,hr82⟩:=hr82;obtain ⟨k84,k85,rfl,hr86,hr87⟩:=hr83;obtain ⟨rfl,hr86⟩:=hr86;obtain ⟨rfl,hr87⟩:=hr87;refine lv (.agg #[iv V.1,iv V.2.1,iv V.2.2]) (ld_agg i101 s101 r0 r0 hc78)<|lo2 (N.alloc (cs:=[iv 0,iv 0,iv 0]) z101q r0) ?_;rintro _ l6 ⟨a9,rfl,N,R,-⟩;refine ls (N.seta (i:=0) (ds:=[iv V.1,iv V.2.1,iv V.2.2]) r0 type101 r0 r0 r0 r0 r0) ?_;rintro l7 ⟨N,R⟩;refine ln (i8 _ _ ?_);refine ws fun _ i9=>rg<|lp (.pointer (some ((⟨g7,0,none⟩:Addr).add 1))) (qae (sz:=1) u64 r0 s62 (by decide) r0 X)<|lv (.slice f d.length h) (qag (N.bx (i:=1) r0) i62 r0 r0)<|lp (iv (d.length:Int)) (qaz (A:=f) (n:=d.length) (m:=h) u62 r0)<|lp (iv 0) (qaa r0)<|ln (i9 _ _ ?_);obtain ⟨o93,hl1,P⟩:=bd P;refine wc1 (fun E wv=> ∃(u:Int) (o:List ((Int×Int)×(Int×Int))),E 3=pg g7∧E 4=pg a2∧E 5=.map (some U)∧E 7=pg a9∧E 38=.slice (some ad76) c.length j∧E 39=iv (c.length:Int)∧E 40=iv l∧E 41=.bool (decide (l<(c.length:Int)))∧E 45=.slice f d.length h∧E 46=iv (d.length:Int)∧E 47=iv u∧I64 u∧Cx (fun _=>False) O0 w wv [.box g7 64 [.bool y,.slice f d.length h],.ro (.sl (.pr si (.pr si si))) [.slice f d.length h] d,.box a2 64 [.bool false,.slice none 0 0],.mp U .pair (.pr si si) o,.box a9 101 [iv V.1,iv V.2.1,iv V.2.2],.ro (.sl (.pr si (.pr si si))) [.slice (some ad76) c.length j] c]∧((chk (l+1)).bind fun b4=>some (.inl (b4,o)):Option ((Int×(List ((Int×Int)×(Int×Int))))⊕((Int×(List ((Int×Int)×(Int×Int)))))))=some o68) (fun _ j0=>?_) ?_;refine wb ?_;refine wl (fun m E wv=> ∃(u:Int) (o:List ((Int×Int)×(Int×Int))),E 3=pg g7∧E 4=pg a2∧E 5=.map (some U)∧E 7=pg a9∧E 38=.slice (some ad76) c.length j∧E 39=iv (c.length:Int)∧E 40=iv l∧E 41=.bool (decide (l<(c.length:Int)))∧E 45=.slice f d.length h∧E 46=iv (d.length:Int)∧E 47=iv u∧I64 u∧Cx (fun _=>False) O0 w wv [.box g7 64 [.bool y,.slice f d.length h],.ro (.sl (.pr si (.pr si si))) [.slice f d.length h] d,.box a2 64 [.bool false,.slice none 0 0],.mp U .pair (.pr si si) o,.box a9 101 [iv V.1,iv V.2.1,iv V.2.2],.ro (.sl (.pr si (.pr si si))) [.slice (some ad76) c.length j] c]∧loopN m (F.qdc n d V) (u,o)=some o93) n ⟨0,x,X,T,Y,r0,a3,a4,a0,r0,r0,r0,r0,i0,N.sE [1,2,3,4,0,5],hl1⟩ ?_;have hbK1:=P;clear P N hl1;rintro m96 l8 l9 ⟨u,o,X,T,Y,e7,a3,a4,a0,b5,b2,b3,b0,B,N,hl1⟩ K95 j1;obtain ⟨m96',o99,rfl,P,hl1⟩:=qbb hl1;unfold F.qdc at P;refine ws fun _ j2=>rg<|lp _ (qbm b0 b3)<|ln (j2 _ _ ?_);refine ws fun _ j3=>?_;refine wc (t:=(decide (u<(d.length:Int)))) (r0) (fun d1=>?_) (fun d1=>?_);replace P:=tt d1 P;refine ws1 (j3 _ _ ?_);refine ws fun _ j4=>?_;refine wb<|ws fun _ j5=>rg ?_;obtain ⟨a1,e1,P⟩:=bd P;obtain ⟨ad107,cs108,hA,hc109,hr110⟩:=N.elr (i:=1) r0 (qad e1).2;subst hA;refine lp (.pointer (some (ad107.add (u.toNat*3)))) (qan (a:=u) u62 s101 b2 b0 (qad e1).1) ?_;obtain ⟨k111,k112,rfl,hr113,hr114⟩:=hr110;obtain ⟨rfl,hr113⟩:=hr113;obtain ⟨k115,k116,rfl,hr117,hr118⟩:=hr114;obtain ⟨rfl,hr117⟩:=hr117;obtain ⟨rfl,hr118⟩:=hr118;refine lv (.agg #[iv a1.1,iv a1.2.1,iv a1.2.2]) (ld_agg i101 s101 r0 r0 hc109)<|lo2 (N.alloc (cs:=[iv 0,iv 0,iv 0]) z101q r0) ?_;rintro _ m0 ⟨c2,rfl,N,R,-⟩;refine ls (N.seta (i:=0) (ds:=[iv a1.1,iv a1.2.1,iv a1.2.2]) r0 type101 r0 r0 r0 r0 r0) ?_;rintro m2 ⟨N,R⟩;refine ln (j5 _ _ ?_);refine ws fun _ j6=>rg<|lp (.pointer (some ((⟨a9,0,none⟩:Addr).add 0))) (qae (sz:=1) u101 r0 s3q (by decide) r0 e7)<|lv (iv V.1) (qag (N.bx (i:=5) r0) i3q r0 r0)<|lp (.pointer (some ((⟨c2,0,none⟩:Addr).add 0))) (qae (sz:=1) u101 r0 s3q (by decide) r0 r0)<|lv (iv a1.1) (qag (N.bx (i:=0) r0) i3q r0 r0) ?_;obtain ⟨a6,e6,P⟩:=bd P;refine lp (iv a6) (qaq (a:=V.1) (b:=a1.1) r0 r0 e6)<|lp (.pointer (some ((⟨a9,0,none⟩:Addr).add 1))) (qae (sz:=1) u101 r0 s3q (by decide) r0 e7)<|lv (iv V.2.1) (qag (N.bx (i:=5) r0) i3q r0 r0)<|lp (.pointer (some ((⟨c2,0,none⟩:Addr).add 1))) (qae (sz:=1) u101 r0 s3q (by decide) r0 r0)<|lv (iv a1.2.1) (qag (N.bx (i:=0) r0) i3q r0 r0) ?_;obtain ⟨a7,e8,P⟩:=bd P;refine lp (iv a7) (qaq (a:=V.2.1) (b:=a1.2.1) r0 r0 e8)<|lp (.agg #[iv a6,iv a7]) (pu_builda (pv:=[(0,iv a6),(1,iv a7)]) (sz:=1) type133 u133 r0 type3 r0 r0 (by simp [Instr.fill,Value.cells]))<|lo2 (N.alloc (cs:=[iv 0,iv 0]) zeroValue133 r0) ?_;rintro _ m3 ⟨j7,rfl,N,R,-⟩;refine ls (N.seta (i:=0) (ds:=[iv a6,iv a7]) r0 type133 r0 r0 r0 r0 r0) ?_;rintro m4 ⟨N,R⟩;refine ln (j6 _ _ ?_);refine wf1 fun d4 Q=>?_;have X:=cg Q 3 X;have T:=cg Q 4 T;have Y:=cg Q 5 Y;have e7:=cg Q 7 e7;have e9:d4 9=pg c2:=cg Q 9 r0;have f0:d4 10=pg j7:=cg Q 10 r0;have a3:=cg Q 38 a3;have a4:=cg Q 39 a4;have a0:=cg Q 40 a0;have b5:=cg Q 41 b5;have b2:=cg Q 45 b2;have b3:=cg Q 46 b3;have b0:=cg Q 47 b0;have m5:d4 48=.bool (decide (u<(d.length:Int))):=cg Q 48 r0;refine wr2 [] (frm [] [.mp U .pair (.pr si si) o] ([]:List Fact)) (fun _=>rfl) mixed (by decide+kernel) (by decide+kernel) fun d5 hw133=>?_;replace N:=N.step (Fr.qbw hw133);have S:=Fr.refl (fun k=>k∈blocks [.mp U .pair (.pr si si) o]) d5;clear hw133;have hS:=N;have m6: ∀g,g<d5.heap.size→some U=some g→g∈blocks [.mp U .pair (.pr si si) o]:=fun g _ hg=>Option.some.inj hg▸mp_in (i:=0) r0;have j8:U<d5.heap.size→U∈blocks [.mp U .pair (.pr si si) o]:=fun _=>mp_in (i:=0) r0;refine mp (.map (some U)) (qaa Y)<|ml1 S (v:=.agg #[iv a6,iv a7]) (fun _ R=>qat (hS.bx2 (i:=0) r0 [5] (by decide) R) isAgg133 sizeOf133 f0)<|mp (.map (some U)) (qaa Y)<|ml1 S (v:=.agg #[iv a6,iv a7]) (fun _ R=>qat (hS.bx2 (i:=0) r0 [5] (by decide) R) isAgg133 sizeOf133 f0) ?_;obtain ⟨c3,j9,P⟩:=bd P;obtain ⟨cs135,hY,hR⟩:=N.mplk (i:=5) (k:=(a6,a7)) r0 (KL.pair u133 type3 (by kernel_rfl) s3q u3q i3q) u132 (zc:=[iv 0,iv 0]) (zx:=((0:Int),(0:Int))) z135 (⟨[iv 0],[iv 0],r0,⟨r0,I64.wr i0⟩,⟨r0,I64.wr i0⟩⟩) false;rw [Option.some.inj j9] at hR;obtain ⟨k138,k139,rfl,hr140,hr141⟩:=hR;obtain ⟨rfl,hr140⟩:=hr140;obtain ⟨rfl,hr141⟩:=hr141;refine ms4 (v:=.agg #[iv c3.1,iv c3.2]) S (hY r0 r0) S ?_;clear hY;refine mp (.pointer (some ((⟨a9,0,none⟩:Addr).add 2))) (qae (sz:=1) u101 r0 s3q (by decide) r0 e7)<|ml1 S (v:=iv V.2.2) (fun _ R=>qag (hS.bx2 (i:=6) r0 [5] (by decide) R) i3q r0 r0)<|mp (.pointer (some ((⟨c2,0,none⟩:Addr).add 2))) (qae (sz:=1) u101 r0 s3q (by decide) r0 e9)<|ml1 S (v:=iv a1.2.2) (fun _ R=>qag (hS.bx2 (i:=1) r0 [5] (by decide) R) i3q r0 r0) ?_;obtain ⟨f1,f2,P⟩:=bd P;refine mp (iv f1) (qfm (a:=V.2.2) (b:=a1.2.2) r0 r0 f2) ?_;obtain ⟨a8,k0,P⟩:=bd P;refine mc S (⟨_,_,qap (vs:=[.agg #[iv c3.1,iv c3.2],iv f1]) call89 r0 r0 r0,qid n N.lt (qbi hr140) (qbi hr141) (qai f2) k0⟩) ?_;rintro _ m7 ⟨rfl,hr146,hr147,hK⟩;replace S:=S.none hK.fr;refine ⟨S,?_⟩;replace N:=N.merge hK;refine ms2 S (N.mpput (i:=5) (k:=(a6,a7)) (cs:=[iv a8.1,iv a8.2]) (v:=(a8.1,a8.2)) r0 (KL.pair u133 type3 (by kernel_rfl) s3q u3q i3q) (⟨(qai e6),(qai e8)⟩) u132 (⟨[iv a8.1],[iv a8.2],r0,⟨r0,I64.wr hr146⟩,⟨r0,I64.wr hr147⟩⟩) r0 r0 r0) ?_;rintro m8 ⟨N,R⟩;replace S:=S.besideG j8 R;refine ⟨S,?_⟩;refine mn ?_;clear hS S;refine j4 _ _<|rg ?_;obtain ⟨d6,f3,P⟩:=bd P;refine lp (iv d6) (qaq (a:=u) (b:=1) b0 r0 f3)<|lp (iv d6) (qaa r0)<|ln ?_;obtain rfl:=os P;exact j1 m96' _ _ (Nat.lt_succ_self _) ⟨d6,(gput o (a6,a7) (a8.1,a8.2)),X,T,Y,e7,a3,a4,a0,b5,b2,b3,r0,(qai f3),N.sE [2,3,4,5,6,7],lN hl1⟩;replace P:=tf d1 P;refine we r0 ?_;obtain rfl:=os P;obtain rfl:=(lX hl1).symm;exact j0 _ _ ⟨u,o,X,T,Y,e7,a3,a4,a0,b5,b2,b3,b0,B,N.sE [0,1,2,3,4,5],hbK1⟩;clear P N hl1;rintro m9 n0 ⟨u,o,X,T,Y,e7,a3,a4,a0,b5,b2,b3,b0,B,N,P⟩;refine i7 _ _<|rg ?_;obtain ⟨b4,f4,P⟩:=bd P;refine lp (iv b4) (qaq (a:=l) (b:=1) a0 r0 f4)<|lp (iv b4) (qaa r0)<|ln ?_;obtain rfl:=os P;exact i4 m65' _ _ (Nat.lt_succ_self _) ⟨b4,o,X,T,Y,a3,a4,r0,(qai f4),N.sE [0,1,2,3,5],lN hl0⟩;replace P:=tf c9 P;refine we r0 ?_;obtain rfl:=os P;obtain rfl:=(lX hl0).symm;exact h9 _ _ ⟨l,x,T,Y,z,N.sE [2,3],hbK0⟩;clear P N hl0;rintro n1 k1 ⟨l,x,T,Y,z,N,P⟩;subst hf62;refine h7 _ _<|ws fun _ k2=>rg<|lp _ (qaa Y) ?_;replace N:Cx (fun _=>False) O0 w k1 ([.mp U .pair (.pr si si) x]++[.box a2 64 [.bool false,.slice none 0 0]]):=N.sE [1,0];obtain ⟨d7,k3,P⟩:=bd P;refine lc (⟨_,_,qap (vs:=[.map (some U)]) call90 r0 r0 r0,bivariate_gather_ok n N.lt N.give k3⟩) ?_;rintro _ n2 ⟨A161,m162,c163,rfl,hK⟩;replace N:=N.back hK;obtain ⟨rfl,hl166,hc167⟩:=(N.ow (i:=0) r0).qah;refine ls (N.seta (i:=1) (ds:=[.bool d7.1,.slice A161 d7.2.length c163]) r0 type64 r0 r0 r0 T r0) ?_;rintro n3 ⟨N,R⟩;refine ln (k2 _ _ ?_);obtain rfl:=os P;refine wr1 (b1 _ _ ?_);refine ⟨_,res1 r75 ⟨_,T,qaj (N.bx (i:=1) r0) i64q s64⟩,_,r0,A161,d7.2.length,c163,r0,N.sE [0]⟩

theorem homfly_circles_ok (n:Nat) {w:World} {O0:List Nat} (X: ∀k∈O0,k<w.heap.size) {l:Int} (s:I64 l) {r:Bool×(List (Int×(Int×Int)))} (x:F.qhm n l=some r):
    Calls prog 53 #[iv l] w fun e w'=> ∃v,e=.returned v∧∃(A1:Option Addr) (m1 c1:Nat),v=.agg #[.bool r.1,.slice A1 m1 c1]∧Cx (fun _=>False) O0 w w' [.own 101 (.pr si (.pr si si)) (.slice A1 m1 c1) r.2]:=by
 unfold F.qhm at x;have u:=Cx.start X;refine qao func53 r0 (by rw [ntmps53]; exact nb r0) fun KR Y=>?_;refine ws fun _ Z=>rg<|lo2 (u.alloc (cs:=[.bool false,.slice none 0 0]) z64 r0) ?_;rintro _ w3 ⟨g2,rfl,u,C,-⟩;refine ln (Z _ _ ?_);refine ws fun _ a0=>rg ?_;obtain ⟨D,h7,x⟩:=bd x;refine lc (⟨_,_,qap (vs:=[iv 1,iv (-1),iv (-1)]) call74 r0 r0 r0,qib n u.lt i12 i11 i11 h7⟩) ?_;rintro _ b5 ⟨A8,m9,c10,rfl,z⟩;replace u:=u.merge z;obtain ⟨rfl,hl13,hc14⟩:=(u.ow (i:=0) r0).qah;obtain ⟨G,a1,x⟩:=bd x;refine lc (⟨_,_,qap (vs:=[iv 1,iv 1,iv (-1)]) call74 r0 r0 r0,qib n u.lt i12 i12 i11 a1⟩) ?_;rintro _ b6 ⟨A17,m18,c19,rfl,z⟩;replace u:=u.merge z;obtain ⟨rfl,hl22,hc23⟩:=(u.ow (i:=0) r0).qah;obtain ⟨y,a2,x⟩:=bd x;refine lc (⟨_,_,qap (vs:=[.agg #[.bool D.1,.slice A8 D.2.length c10],.agg #[.bool G.1,.slice A17 G.2.length c19]]) call51 r0 r0 r0,qie n (u.lentLt [.slice A8 D.2.length c10,.slice A17 G.2.length c19]) ((u.ow (i:=1) r0).lend (vs:=[.slice A8 D.2.length c10,.slice A17 G.2.length c19]) (by simp)) ((u.ow (i:=0) r0).lend (vs:=[.slice A8 D.2.length c10,.slice A17 G.2.length c19]) (by simp)) a2⟩) ?_;rintro _ b7 ⟨A26,m27,c28,rfl,z⟩;replace u:=u.mergeF z r0;obtain ⟨rfl,hl31,hc32⟩:=(u.ow (i:=0) r0).qah;refine lo2 (u.alloc (cs:=[.bool false,.slice none 0 0]) z64 r0) ?_;rintro _ b9 ⟨S,rfl,u,C,-⟩;refine ls (u.seta (i:=0) (ds:=[.bool y.1,.slice A26 y.2.length c28]) r0 type64 r0 r0 r0 r0 r0) ?_;rintro c0 ⟨u,C⟩;refine ln (a0 _ _ ?_);refine ws fun _ a3=>rg ?_;obtain ⟨H,a4,x⟩:=bd x;refine lc (⟨_,_,qap (vs:=[iv 1,iv 0,iv 0]) call74 r0 r0 r0,qib n u.lt i12 i0 i0 a4⟩) ?_;rintro _ c2 ⟨A40,m41,c42,rfl,z⟩;replace u:=u.merge z;obtain ⟨rfl,hl45,hc46⟩:=(u.ow (i:=0) r0).qah;refine lo2 (u.alloc (cs:=[.bool false,.slice none 0 0]) z64 r0) ?_;rintro _ c3 ⟨J,rfl,u,C,-⟩;refine ls (u.seta (i:=0) (ds:=[.bool H.1,.slice A40 H.2.length c42]) r0 type64 r0 r0 r0 r0 r0) ?_;rintro c4 ⟨u,C⟩;refine ln (a3 _ _ ?_);refine ws fun _ a5=>?_;refine ws fun _ a6=>rg<|lp (iv l) (qaa r0) ?_;obtain ⟨K,a7,x⟩:=bd x;refine lp (iv K) (qdq (a:=l) (b:=1) r0 r0 a7)<|lp (iv 0) (qaa r0)<|ln (a6 _ _ ?_);refine wf1 fun L M=>?_;have B:L 2=pg g2:=cg M 2 r0;have P:L 3=pg S:=cg M 3 r0;have A:L 4=pg J:=cg M 4 r0;have Q:L 10=iv K:=cg M 10 r0;have R:L 11=iv 0:=cg M 11 r0;obtain ⟨o56,hl0,f56,hf56,x⟩:=bn x;refine wc1 (fun E wv=> ∃(j:Int) (g:Bool) (f:List (Int×(Int×Int))) (c:Option Addr) (h d:Nat),E 2=pg g2∧E 4=pg J∧I64 j∧Cx (fun _=>False) O0 w wv [.box g2 64 [.bool false,.slice none 0 0],.box J 64 [.bool g,.slice c h d],.own 101 (.pr si (.pr si si)) (.slice c h d) f]∧f56 (j,g,f)=some r) (fun _ a8=>?_) ?_;refine wb ?_;refine wl (fun m E wv=> ∃(j:Int) (g:Bool) (f:List (Int×(Int×Int))) (c:Option Addr) (h d:Nat),E 2=pg g2∧E 3=pg S∧E 4=pg J∧E 10=iv K∧E 11=iv j∧I64 j∧Cx (fun _=>False) O0 w wv [.box g2 64 [.bool false,.slice none 0 0],.box S 64 [.bool y.1,.slice A26 y.2.length c28],.own 101 (.pr si (.pr si si)) (.slice A26 y.2.length c28) y.2,.box J 64 [.bool g,.slice c h d],.own 101 (.pr si (.pr si si)) (.slice c h d) f]∧loopN m (F.qfg n y K) (j,g,f)=some o56) n ⟨0,H.1,H.2,A40,H.2.length,c42,B,P,A,Q,R,i0,u.sE [6,2,3,0,1],hl0⟩ ?_;have hbK0:=x;clear x u hl0;rintro m59 c5 c6 ⟨j,g,f,c,h,d,B,P,A,Q,R,o,u,hl0⟩ K58 a9;obtain ⟨m59',o62,rfl,x,hl0⟩:=qbb hl0;unfold F.qfg at x;obtain ⟨rfl,p,q⟩:=(u.ow (i:=4) r0).qah;refine ws fun _ b0=>rg<|lp _ (qbm R Q)<|ln (b0 _ _ ?_);refine ws fun _ b1=>?_;refine wc (t:=(decide (j<K))) (r0) (fun T=>?_) (fun T=>?_);replace x:=tt T x;refine ws1 (b1 _ _ ?_);refine ws fun _ b2=>?_;refine wb<|rg<|lv (.agg #[.bool g,.slice c f.length d]) (qat (u.bx (i:=3) r0) i64q s64 A)<|lv (.agg #[.bool y.1,.slice A26 y.2.length c28]) (qat (u.bx (i:=1) r0) i64q s64 P) ?_;obtain ⟨N,b3,x⟩:=bd x;refine lc (⟨_,_,qap (vs:=[.agg #[.bool g,.slice c f.length d],.agg #[.bool y.1,.slice A26 y.2.length c28]]) call75 r0 r0 r0,bivariate_Poly_Mul_ok n (u.lentLt [.slice c f.length d,.slice A26 y.2.length c28]) ((u.ow (i:=4) r0).lend (vs:=[.slice c f.length d,.slice A26 y.2.length c28]) (by simp)) ((u.ow (i:=2) r0).lend (vs:=[.slice c f.length d,.slice A26 y.2.length c28]) (by simp)) b3⟩) ?_;rintro _ c7 ⟨A69,m70,c71,rfl,z⟩;replace u:=u.mergeF z r0;obtain ⟨rfl,hl74,hc75⟩:=(u.ow (i:=0) r0).qah;refine ls (u.seta (i:=4) (ds:=[.bool N.1,.slice A69 N.2.length c71]) r0 type64 r0 r0 r0 A r0) ?_;rintro c8 ⟨u,C⟩;refine ln (b2 _ _ ?_);refine rg ?_;obtain ⟨U,V,x⟩:=bd x;refine lp (iv U) (qaq (a:=j) (b:=1) R r0 V)<|lp (iv U) (qaa r0)<|ln ?_;obtain rfl:=os x;exact a9 m59' _ _ (Nat.lt_succ_self _) ⟨U,N.1,N.2,A69,N.2.length,c71,B,P,A,Q,r0,(qai V),u.sE [1,2,3,4,0],lN hl0⟩;replace x:=tf T x;refine we r0 ?_;obtain rfl:=os x;obtain rfl:=(lX hl0).symm;exact a8 _ _ ⟨j,g,f,c,f.length,d,B,A,o,u.sE [0,3,4],hbK0⟩;clear x u hl0;rintro c9 d1 ⟨j,g,f,c,h,d,B,A,o,u,x⟩;subst hf56;obtain ⟨rfl,p,q⟩:=(u.ow (i:=2) r0).qah;refine a5 _ _<|ws fun _ b4=>rg<|lv (.agg #[.bool g,.slice c f.length d]) (qat (u.bx (i:=1) r0) i64q s64 A)<|ls (u.seta (i:=0) (ds:=[.bool g,.slice c f.length d]) r0 type64 r0 r0 r0 B r0) ?_;rintro d4 ⟨u,C⟩;refine ln (b4 _ _ ?_);obtain rfl:=os x;refine wr1 (Y _ _ ?_);refine ⟨_,res1 results53 ⟨_,B,qaj (u.bx (i:=0) r0) i64q s64⟩,_,r0,c,f.length,d,r0,u.sE [2]⟩

theorem homfly_Poly_c1_ok (n:Nat): ∀{w:World} {O0:List Nat} (hO: ∀k∈O0,k<w.heap.size) {z:Option Addr} {B p:Nat} {s:List Int} (C:Rep O0 w (.sl si) [.slice z B p] s) {u:Option Addr} {D x:Nat} {y:List Int} (G:Rep O0 w (.sl si) [.slice u D x] y) {A:Int} (H:I64 A) {m:Nat} {l:Bool} {o:Nat} {c:Nat} {d:Nat} {f:List (Int×(Bool×(List (Int×(Int×Int)))))} (hio:Tk O0 w [.mp d .int (.pr .bool (.sl (.pr si (.pr si si)))) f,.box m 4 [.bool l],.box o 92 [.func (.func 47) #[] #[pg m,pg o,pg c]],.box c 91 [.map (some d)]]) {r:Bool×(List (Int×(Int×Int)))×(List (Int×(Bool×(List (Int×(Int×Int))))))×Bool} (Q:F.qdi n s y A l f=some r),
    Calls prog 47 #[.agg #[.slice z B p,.slice u D x,iv A],pg m,pg o,pg c] w fun e w'=> ∃v,e=.returned v∧∃(A1:Option Addr) (m1 c1:Nat),v=.agg #[.bool r.1,.slice A1 m1 c1]∧Cx (fun k=>k∈blocks [.mp d .int (.pr .bool (.sl (.pr si (.pr si si)))) f,.box m 4 [.bool l],.box o 92 [.func (.func 47) #[] #[pg m,pg o,pg c]],.box c 91 [.map (some d)]]) O0 w w' [.ro (.sl (.pr si (.pr si si))) [.slice A1 m1 c1] r.2.1,.mp d .int (.pr .bool (.sl (.pr si (.pr si si)))) r.2.2.1,.box m 4 [.bool r.2.2.2],.box o 92 [.func (.func 47) #[] #[pg m,pg o,pg c]],.box c 91 [.map (some d)]]:=by
  induction n with
  | zero=>
    intro w O0 hO z B p s C u D x y G A H m l o c d f hio r Q
    rw [F.qdi] at Q
    cases Q
  | succ n ih=>
    intro w O0 hO z B p s C u D x y G A H m l o c d f hio r Q
    rw [F.qdi] at Q
    have N:=Cx.startTk hO hio
    have hsub:=hio.2.2
    replace N:=N.argTk (by first | exact hsub | exact fun k hk=>hsub k (by simpa [blocks,Fact.blk] using hk)) C
    replace N:=N.argTk (by first | exact hsub | exact fun k hk=>hsub k (by simpa [blocks,Fact.blk] using hk)) G
    obtain ⟨rfl,J,K⟩:=C.qah
    obtain ⟨rfl,L,M⟩:=G.qah
    clear hio hsub
    obtain ⟨I,hI,N⟩: ∃I:Nat→Prop,I=(fun k=>k∈blocks [.mp d .int (.pr .bool (.sl (.pr si (.pr si si)))) f,.box m 4 [.bool l],.box o 92 [.func (.func 47) #[] #[pg m,pg o,pg c]],.box c 91 [.map (some d)]])∧Cx I O0 w w ([.ro (.sl si) [.slice u y.length x] y,.ro (.sl si) [.slice z s.length p] s,.mp d .int (.pr .bool (.sl (.pr si (.pr si si)))) f,.box m 4 [.bool l],.box o 92 [.func (.func 47) #[] #[pg m,pg o,pg c]],.box c 91 [.map (some d)]]):=⟨_,r0,N⟩
    refine qao func47 r0 (by rw [ntmps47]; exact nb r0) fun KR b0=>?_
    refine ws fun _ f3=>?_
    refine rg ?_
    refine lo2 (N.box (cs:=[.slice z s.length p,.slice u y.length x,iv A]) r0 r0) ?_
    rintro _ w9 ⟨g8,rfl,N,S,hG⟩
    refine lo2 (N.alloc (cs:=[.bool false,.slice none 0 0]) z64 r0) ?_
    rintro _ k8 ⟨b9,rfl,N,S,hG⟩
    refine ln ?_
    refine f3 _ _ ?_
    refine ws fun _ f4=>?_
    refine ws fun _ f5=>?_
    refine rg ?_
    refine lv (.bool l) (qau i4q r0 ((N.bx (i:=5) r0).cell (j:=0) r0)) ?_
    refine lp (.bool (!l)) (qcl (q:=l) r0) ?_
    refine ln ?_
    refine f5 _ _ ?_
    refine wc (t:=(!l)) (r0) (fun a4=>?_) (fun a4=>?_)
    · replace Q:=tt a4 Q
      refine ws fun _ f6=>?_
      refine rg ?_
      refine lp (.agg #[.bool false,.slice none 0 0]) (qam (places:=[(0,1),(1,1)]) (pv:=[]) type64 u64 r0 (qaf type4 (qaf type62 qax r0 r0) r0 r0) r0 (by simp [Instr.fill,Value.cells])) ?_
      refine ls (N.seta (i:=0) (ds:=[.bool false,.slice none 0 0]) r0 type64 r0 r0 r0 r0 r0) ?_
      rintro k9 ⟨N,S⟩
      refine ln ?_
      refine f6 _ _ ?_
      replace N:=N.ro (show Rep _ _ (.sl (.pr si (.pr si si))) [.slice none 0 0] [] from ⟨none,0,r0,Nat.le_refl _,by omega,fun h=>absurd h (by simp)⟩)
      obtain rfl:=os Q
      subst hI
      refine wr1 ?_
      refine b0 _ _ ?_
      refine ⟨_,res1 r47 ⟨_,r0,qaj (N.bx (i:=1) r0) i64q s64⟩,_,r0,none,0,0,r0,N.sE [0,5,6,7,8]⟩
    · replace Q:=tf a4 Q
      refine ws1 ?_
      refine f4 _ _ ?_
      refine ws fun _ f7=>?_
      refine rg ?_
      refine lv (.agg #[.slice z s.length p,.slice u y.length x,iv A]) (qat (N.bx (i:=1) r0) i58 s58 r0) ?_
      obtain ⟨P,f8,Q⟩:=bd Q
      refine lc (⟨_,_,qap (vs:=[.agg #[.slice z s.length p,.slice u y.length x,iv A]]) call48 r0 r0 r0,conway_Resolve_ok n N.lt (N.rd (i:=3) r0) (N.rd (i:=2) r0) H f8⟩) ?_
      rintro _ l0 ⟨A23,m24,c25,A27,m28,c29,A32,m33,c34,A36,m37,c38,rfl,hr31,hr40,hr41,hr42,T⟩
      replace N:=N.merge T
      obtain ⟨rfl,hl44,hc45⟩:=(N.ow (i:=0) r0).qah
      obtain ⟨rfl,hl46,hc47⟩:=(N.ow (i:=1) r0).qah
      obtain ⟨rfl,hl48,hc49⟩:=(N.ow (i:=2) r0).qah
      obtain ⟨rfl,hl50,hc51⟩:=(N.ow (i:=3) r0).qah
      refine lp (.tuple #[.agg #[.slice A23 P.1.length c25,.slice A27 P.2.1.length c29,iv P.2.2.1],.agg #[.slice A32 P.2.2.2.1.length c34,.slice A36 P.2.2.2.2.1.length c38,iv P.2.2.2.2.2.1],iv P.2.2.2.2.2.2.1,iv P.2.2.2.2.2.2.2]) (qaa r0) ?_
      refine lp (.agg #[.slice A23 P.1.length c25,.slice A27 P.2.1.length c29,iv P.2.2.1]) (qba r0 r0) ?_
      refine lp (.agg #[.slice A32 P.2.2.2.1.length c34,.slice A36 P.2.2.2.2.1.length c38,iv P.2.2.2.2.2.1]) (qba r0 r0) ?_
      refine lp (iv P.2.2.2.2.2.2.1) (qba r0 r0) ?_
      refine lp (iv P.2.2.2.2.2.2.2) (qba r0 r0) ?_
      refine lo2 (N.alloc (cs:=[.slice none 0 0,.slice none 0 0,iv 0]) z58q r0) ?_
      rintro _ l1 ⟨c0,rfl,N,S,hG⟩
      refine lo2 (N.alloc (cs:=[.slice none 0 0,.slice none 0 0,iv 0]) z58q r0) ?_
      rintro _ l2 ⟨c2,rfl,N,S,hG⟩
      refine ls (N.seta (i:=1) (ds:=[.slice A23 P.1.length c25,.slice A27 P.2.1.length c29,iv P.2.2.1]) r0 type58 r0 r0 r0 r0 r0) ?_
      rintro l3 ⟨N,S⟩
      refine ls (N.seta (i:=0) (ds:=[.slice A32 P.2.2.2.1.length c34,.slice A36 P.2.2.2.2.1.length c38,iv P.2.2.2.2.2.1]) r0 type58 r0 r0 r0 r0 r0) ?_
      rintro f9 ⟨N,S⟩
      refine lp (iv P.2.2.2.2.2.2.1) (qab r0) ?_
      refine lp (iv P.2.2.2.2.2.2.2) (qab r0) ?_
      refine ln ?_
      refine f7 _ _ ?_
      refine wf1 fun a8 R=>?_
      have X:a8 1=pg m:=cg R 1 r0
      have e2:a8 2=pg o:=cg R 2 r0
      have e3:a8 3=pg c:=cg R 3 r0
      have e4:a8 4=pg g8:=cg R 4 r0
      have V:a8 5=pg b9:=cg R 5 r0
      have e6:a8 6=pg c0:=cg R 6 r0
      have e7:a8 7=pg c2:=cg R 7 r0
      have e8:a8 8=iv P.2.2.2.2.2.2.1:=cg R 8 r0
      have e9:a8 9=iv P.2.2.2.2.2.2.2:=cg R 9 r0
      refine ws fun _ g3=>?_
      refine ws fun _ g4=>?_
      refine rg ?_
      refine lp _ (qaa e9) ?_
      refine ln ?_
      refine g4 _ _ ?_
      refine wb ?_
      refine ws fun _ g5=>?_
      refine rg ?_
      refine lp (.bool (decide (P.2.2.2.2.2.2.2=0))) (qbe (k:=.i64) (a:=P.2.2.2.2.2.2.2) (b:=0) r0 r0) ?_
      refine lp (.bool (decide (P.2.2.2.2.2.2.2=0))) (qab r0) ?_
      refine ln ?_
      refine g5 _ _ ?_
      refine wc (t:=(decide (P.2.2.2.2.2.2.2=0))) (r0) (fun c3=>?_) (fun c3=>?_)
      · replace Q:=tt c3 Q
        refine ws fun _ g6=>?_
        refine rg ?_
        refine lp (.pointer (some ((⟨g8,0,none⟩:Addr).add 0))) (qae (sz:=1) u58 r0 s22 (by decide) r0 e4) ?_
        refine lv (.slice z s.length p) (qag (N.bx (i:=7) r0) i22 r0 r0) ?_
        refine lp _ (qaa e8) ?_
        obtain ⟨a9,c8,Q⟩:=bd Q
        obtain ⟨ad68,cs69,hA,hc70,hr71⟩:=N.elr (i:=9) r0 (qad c8).2
        subst hA
        refine lp (.pointer (some (ad68.add (P.2.2.2.2.2.2.1.toNat*1)))) (qan (a:=P.2.2.2.2.2.2.1) u22q s3q r0 r0 (qad c8).1) ?_
        obtain ⟨rfl,hr71'⟩:=hr71
        refine lv (iv a9) (qau i3q r0 (hc70 0 _ r0)) ?_
        refine lp (iv a9) (qab r0) ?_
        refine ln ?_
        refine g6 _ _ ?_
        refine ws fun _ g7=>?_
        refine rg ?_
        refine lv (.func (.func 47) #[] #[pg m,pg o,pg c]) (qau isAgg92 e2 ((N.bx (i:=12) r0).cell (j:=0) r0)) ?_
        refine lv (.agg #[.slice A32 P.2.2.2.1.length c34,.slice A36 P.2.2.2.2.1.length c38,iv P.2.2.2.2.2.1]) (qat (N.bx (i:=0) r0) i58 s58 e7) ?_
        replace N:=N.freeze (i:=5) r0 (N.qhg hI (i:=5) r0 (List.forall_mem_cons.2 ⟨fun g hg=>⟨10,_,r0,by decide,hg⟩,List.forall_mem_cons.2 ⟨fun g hg=>⟨11,_,r0,by decide,hg⟩,List.forall_mem_cons.2 ⟨fun g hg=>⟨12,_,r0,by decide,hg⟩,List.forall_mem_cons.2 ⟨fun g hg=>⟨13,_,r0,by decide,hg⟩,fun _ h=>absurd h List.not_mem_nil⟩⟩⟩⟩))
        replace N:=N.freeze (i:=4) r0 (N.qhg hI (i:=4) r0 (List.forall_mem_cons.2 ⟨fun g hg=>⟨10,_,r0,by decide,hg⟩,List.forall_mem_cons.2 ⟨fun g hg=>⟨11,_,r0,by decide,hg⟩,List.forall_mem_cons.2 ⟨fun g hg=>⟨12,_,r0,by decide,hg⟩,List.forall_mem_cons.2 ⟨fun g hg=>⟨13,_,r0,by decide,hg⟩,fun _ h=>absurd h List.not_mem_nil⟩⟩⟩⟩))
        replace N:Cx I O0 w f9 ([.mp d .int (.pr .bool (.sl (.pr si (.pr si si)))) f,.box m 4 [.bool l],.box o 92 [.func (.func 47) #[] #[pg m,pg o,pg c]],.box c 91 [.map (some d)]]++[.box c2 58 [.slice A32 P.2.2.2.1.length c34,.slice A36 P.2.2.2.2.1.length c38,iv P.2.2.2.2.2.1],.box c0 58 [.slice A23 P.1.length c25,.slice A27 P.2.1.length c29,iv P.2.2.1],.own 3 si (.slice A23 P.1.length c25) P.1,.own 3 si (.slice A27 P.2.1.length c29) P.2.1,.ro (.sl si) [.slice A32 P.2.2.2.1.length c34] P.2.2.2.1,.ro (.sl si) [.slice A36 P.2.2.2.2.1.length c38] P.2.2.2.2.1,.box b9 64 [.bool false,.slice none 0 0],.box g8 58 [.slice (some ad68) s.length p,.slice u y.length x,iv A],.ro (.sl si) [.slice u y.length x] y,.ro (.sl si) [.slice (some ad68) s.length p] s]):=N.sE [10,11,12,13,0,1,2,3,4,5,6,7,8,9]
        obtain ⟨b2,g9,Q⟩:=bd Q
        refine lc (⟨_,_,qdh (vs:=[.agg #[.slice A32 P.2.2.2.1.length c34,.slice A36 P.2.2.2.2.1.length c38,iv P.2.2.2.2.2.1],pg m,pg o,pg c]) (ca:=#[pg m,pg o,pg c]) call47 r0 r0 r0,ih N.lt (N.rd (i:=8) r0) (N.rd (i:=9) r0) hr40 N.give g9⟩) ?_
        rintro _ l4 ⟨A75,m76,c77,rfl,T⟩
        replace N:=N.back T
        obtain ⟨rfl,hl80,hc81⟩:=(N.rd (i:=0) r0).qah
        refine lp (iv a9) (qaa r0) ?_
        obtain ⟨a2,h0,Q⟩:=bd Q
        refine lc (⟨_,_,qap (vs:=[.agg #[.bool b2.1,.slice A75 b2.2.1.length c77],iv a9,iv 1]) call49 r0 r0 r0,qia n N.lt (N.rd (i:=0) r0) (qbi hr71') i12 h0⟩) ?_
        rintro _ l5 ⟨A84,m85,c86,rfl,T⟩
        replace N:=N.merge T
        obtain ⟨rfl,hl89,hc90⟩:=(N.rd (i:=0) r0).qah
        refine lo2 (N.alloc (cs:=[.bool false,.slice none 0 0]) z64 r0) ?_
        rintro _ l6 ⟨c9,rfl,N,S,hG⟩
        refine ls (N.seta (i:=0) (ds:=[.bool a2.1,.slice A84 a2.2.length c86]) r0 type64 r0 r0 r0 r0 r0) ?_
        rintro h1 ⟨N,S⟩
        refine ln ?_
        refine g7 _ _ ?_
        refine wf1 fun d1 R=>?_
        have X:=cg R 1 X
        have e2:=cg R 2 e2
        have V:=cg R 5 V
        have e6:=cg R 6 e6
        have d4:d1 10=iv a9:=cg R 10 r0
        have d5:d1 11=pg c9:=cg R 11 r0
        refine ws fun _ h2=>?_
        refine rg ?_
        refine lv (.func (.func 47) #[] #[pg m,pg o,pg c]) (qau isAgg92 e2 ((N.bx (i:=5) r0).cell (j:=0) r0)) ?_
        refine lv (.agg #[.slice A23 P.1.length c25,.slice A27 P.2.1.length c29,iv P.2.2.1]) (qat (N.bx (i:=8) r0) i58 s58 e6) ?_
        replace N:=N.freeze (i:=10) r0 (N.qhg hI (i:=10) r0 (List.forall_mem_cons.2 ⟨fun g hg=>⟨3,_,r0,by decide,hg⟩,List.forall_mem_cons.2 ⟨fun g hg=>⟨4,_,r0,by decide,hg⟩,List.forall_mem_cons.2 ⟨fun g hg=>⟨5,_,r0,by decide,hg⟩,List.forall_mem_cons.2 ⟨fun g hg=>⟨6,_,r0,by decide,hg⟩,fun _ h=>absurd h List.not_mem_nil⟩⟩⟩⟩))
        replace N:=N.freeze (i:=9) r0 (N.qhg hI (i:=9) r0 (List.forall_mem_cons.2 ⟨fun g hg=>⟨3,_,r0,by decide,hg⟩,List.forall_mem_cons.2 ⟨fun g hg=>⟨4,_,r0,by decide,hg⟩,List.forall_mem_cons.2 ⟨fun g hg=>⟨5,_,r0,by decide,hg⟩,List.forall_mem_cons.2 ⟨fun g hg=>⟨6,_,r0,by decide,hg⟩,fun _ h=>absurd h List.not_mem_nil⟩⟩⟩⟩))
        replace N:Cx I O0 w h1 ([.mp d .int (.pr .bool (.sl (.pr si (.pr si si)))) b2.2.2.1,.box m 4 [.bool b2.2.2.2],.box o 92 [.func (.func 47) #[] #[pg m,pg o,pg c]],.box c 91 [.map (some d)]]++[.box c9 64 [.bool a2.1,.slice A84 a2.2.length c86],.ro (.sl (.pr si (.pr si si))) [.slice A84 a2.2.length c86] a2.2,.ro (.sl (.pr si (.pr si si))) [.slice A75 b2.2.1.length c77] b2.2.1,.box c2 58 [.slice A32 P.2.2.2.1.length c34,.slice A36 P.2.2.2.2.1.length c38,iv P.2.2.2.2.2.1],.box c0 58 [.slice A23 P.1.length c25,.slice A27 P.2.1.length c29,iv P.2.2.1],.ro (.sl si) [.slice A23 P.1.length c25] P.1,.ro (.sl si) [.slice A27 P.2.1.length c29] P.2.1,.ro (.sl si) [.slice A32 P.2.2.2.1.length c34] P.2.2.2.1,.ro (.sl si) [.slice A36 P.2.2.2.2.1.length c38] P.2.2.2.2.1,.box b9 64 [.bool false,.slice none 0 0],.box g8 58 [.slice (some ad68) s.length p,.slice u y.length x,iv A],.ro (.sl si) [.slice u y.length x] y,.ro (.sl si) [.slice (some ad68) s.length p] s]):=N.sE [3,4,5,6,0,1,2,7,8,9,10,11,12,13,14,15,16]
        obtain ⟨U,h3,Q⟩:=bd Q
        refine lc (⟨_,_,qdh (vs:=[.agg #[.slice A23 P.1.length c25,.slice A27 P.2.1.length c29,iv P.2.2.1],pg m,pg o,pg c]) (ca:=#[pg m,pg o,pg c]) call47 r0 r0 r0,ih N.lt (N.rd (i:=9) r0) (N.rd (i:=10) r0) hr31 N.give h3⟩) ?_
        rintro _ l7 ⟨A99,m100,c101,rfl,T⟩
        replace N:=N.back T
        obtain ⟨rfl,hl104,hc105⟩:=(N.rd (i:=0) r0).qah
        refine lp _ (qaa d4) ?_
        obtain ⟨d6,d7,Q⟩:=bd Q
        refine lp (iv d6) (qfm (a:=2) (b:=a9) r0 r0 d7) ?_
        obtain ⟨a7,h4,Q⟩:=bd Q
        refine lc (⟨_,_,qap (vs:=[.agg #[.bool U.1,.slice A99 U.2.1.length c101],iv d6,iv 0]) call49 r0 r0 r0,qia n N.lt (N.rd (i:=0) r0) (qai d7) i0 h4⟩) ?_
        rintro _ l8 ⟨A110,m111,c112,rfl,T⟩
        replace N:=N.merge T
        obtain ⟨rfl,hl115,hc116⟩:=(N.rd (i:=0) r0).qah
        refine lo2 (N.alloc (cs:=[.bool false,.slice none 0 0]) z64 r0) ?_
        rintro _ l9 ⟨d8,rfl,N,S,hG⟩
        refine ls (N.seta (i:=0) (ds:=[.bool a7.1,.slice A110 a7.2.length c112]) r0 type64 r0 r0 r0 r0 r0) ?_
        rintro m0 ⟨N,S⟩
        refine ln ?_
        refine h2 _ _ ?_
        refine ws fun _ d9=>?_
        refine ws fun _ h5=>?_
        refine rg ?_
        refine lp _ (qaa d4) ?_
        refine lp (.bool (decide (0<a9))) (qei (k:=.i64) (a:=a9) (b:=0) r0 r0) ?_
        refine ln ?_
        refine h5 _ _ ?_
        refine wc (t:=(decide (0<a9))) (r0) (fun c4=>?_) (fun c4=>?_)
        · replace Q:=tt c4 Q
          refine rg ?_
          refine lv (.agg #[.bool a7.1,.slice A110 a7.2.length c112]) (qat (N.bx (i:=0) r0) i64q s64 r0) ?_
          refine lv (.agg #[.bool a2.1,.slice A84 a2.2.length c86]) (qat (N.bx (i:=7) r0) i64q s64 d5) ?_
          obtain ⟨Z,h6,Q⟩:=bd Q
          refine lc (⟨_,_,qap (vs:=[.agg #[.bool a7.1,.slice A110 a7.2.length c112],.agg #[.bool a2.1,.slice A84 a2.2.length c86]]) call50 r0 r0 r0,bivariate_Poly_Add_ok n N.lt (N.rd (i:=1) r0) (N.rd (i:=8) r0) h6⟩) ?_
          rintro _ m2 ⟨A126,m127,c128,rfl,T⟩
          replace N:=N.merge T
          obtain ⟨rfl,hl131,hc132⟩:=(N.ow (i:=0) r0).qah
          refine ls (N.seta (i:=1) (ds:=[.bool Z.1,.slice A126 Z.2.length c128]) r0 type64 r0 r0 r0 r0 r0) ?_
          rintro m3 ⟨N,S⟩
          refine ln ?_
          refine d9 _ _ ?_
          refine wf1 fun h7 R=>?_
          have X:=cg R 1 X
          have V:=cg R 5 V
          have b1:h7 12=pg d8:=cg R 12 r0
          refine ws fun _ e0=>?_
          refine rg ?_
          refine lv (.bool U.2.2.2) (qau i4q X ((N.bx (i:=5) r0).cell (j:=0) r0)) ?_
          refine lp (.bool U.2.2.2) (qaa r0) ?_
          rcases bS U.2.2.2 with a5 | a5
          · replace Q:=tt a5 Q
            refine gv r0 r0 U.2.2.2 r0 a5 (.agg #[.bool Z.1,.slice A126 Z.2.length c128]) (qat (N.bx (i:=1) r0) i64q s64 b1) ?_
            obtain ⟨b4,h8,Q⟩:=bd Q
            refine lg (qaw r0 r0 (show _=Value.bool U.2.2.2 from r0) a5) (⟨_,_,qap (vs:=[.agg #[.bool Z.1,.slice A126 Z.2.length c128]]) call52 r0 r0 r0,qge n (N.lentLt [.slice A126 Z.2.length c128]) ((N.ow (i:=0) r0).lend (vs:=[.slice A126 Z.2.length c128]) (by simp)) h8⟩) ?_
            rintro _ m4 ⟨rfl,T⟩
            replace N:=N.mergeF T r0
            refine gp r0 r0 U.2.2.2 r0 a5 (.bool (!b4)) (qcl (q:=b4) r0) ?_
            refine lp (.bool (!b4)) (qas (q:=U.2.2.2) r0 a5 r0) ?_
            refine ls (N.setf (i:=5) (k:=0) (v:=.bool (!b4)) r0 s4q r0 (by rw [Addr.add_zero']; exact X) r0 r0) ?_
            rintro m5 ⟨N,S⟩
            refine ln ?_
            refine e0 _ _ ?_
            refine ws fun _ h9=>?_
            refine rg ?_
            refine lv (.agg #[.bool Z.1,.slice A126 Z.2.length c128]) (qat (N.bx (i:=1) r0) i64q s64 b1) ?_
            refine ls (N.seta (i:=17) (ds:=[.bool Z.1,.slice A126 Z.2.length c128]) r0 type64 r0 r0 r0 V r0) ?_
            rintro m6 ⟨N,S⟩
            refine ln ?_
            refine h9 _ _ ?_
            replace N:=N.freeze (i:=0) r0 (N.qhg hI (i:=0) r0 (List.forall_mem_cons.2 ⟨fun g hg=>⟨4,_,r0,by decide,hg⟩,List.forall_mem_cons.2 ⟨fun g hg=>⟨5,_,r0,by decide,hg⟩,List.forall_mem_cons.2 ⟨fun g hg=>⟨6,_,r0,by decide,hg⟩,List.forall_mem_cons.2 ⟨fun g hg=>⟨7,_,r0,by decide,hg⟩,fun _ h=>absurd h List.not_mem_nil⟩⟩⟩⟩))
            obtain rfl:=os Q
            subst hI
            refine wr1 ?_
            refine b0 _ _ ?_
            refine ⟨_,res1 r47 ⟨_,V,qaj (N.bx (i:=17) r0) i64q s64⟩,_,r0,A126,Z.2.length,c128,r0,N.sE [0,4,5,6,7]⟩
          · replace Q:=tf a5 Q
            refine gs r0 r0 U.2.2.2 r0 a5 ?_
            refine gs r0 r0 U.2.2.2 r0 a5 ?_
            refine gs r0 r0 U.2.2.2 r0 a5 ?_
            refine lp (.bool false) (qar (q:=U.2.2.2) r0 a5 r0) ?_
            refine ls (N.setf (i:=5) (k:=0) (v:=.bool false) r0 s4q r0 (by rw [Addr.add_zero']; exact X) r0 r0) ?_
            rintro m7 ⟨N,S⟩
            refine ln ?_
            refine e0 _ _ ?_
            refine ws fun _ i4=>?_
            refine rg ?_
            refine lv (.agg #[.bool Z.1,.slice A126 Z.2.length c128]) (qat (N.bx (i:=1) r0) i64q s64 b1) ?_
            refine ls (N.seta (i:=17) (ds:=[.bool Z.1,.slice A126 Z.2.length c128]) r0 type64 r0 r0 r0 V r0) ?_
            rintro m8 ⟨N,S⟩
            refine ln ?_
            refine i4 _ _ ?_
            replace N:=N.freeze (i:=0) r0 (N.qhg hI (i:=0) r0 (List.forall_mem_cons.2 ⟨fun g hg=>⟨4,_,r0,by decide,hg⟩,List.forall_mem_cons.2 ⟨fun g hg=>⟨5,_,r0,by decide,hg⟩,List.forall_mem_cons.2 ⟨fun g hg=>⟨6,_,r0,by decide,hg⟩,List.forall_mem_cons.2 ⟨fun g hg=>⟨7,_,r0,by decide,hg⟩,fun _ h=>absurd h List.not_mem_nil⟩⟩⟩⟩))
            obtain rfl:=os Q
            subst hI
            refine wr1 ?_
            refine b0 _ _ ?_
            refine ⟨_,res1 r47 ⟨_,V,qaj (N.bx (i:=17) r0) i64q s64⟩,_,r0,A126,Z.2.length,c128,r0,N.sE [0,4,5,6,7]⟩
        · replace Q:=tf c4 Q
          refine rg ?_
          refine lv (.agg #[.bool a7.1,.slice A110 a7.2.length c112]) (qat (N.bx (i:=0) r0) i64q s64 r0) ?_
          refine lv (.agg #[.bool a2.1,.slice A84 a2.2.length c86]) (qat (N.bx (i:=7) r0) i64q s64 d5) ?_
          obtain ⟨a0,i5,Q⟩:=bd Q
          refine lc (⟨_,_,qap (vs:=[.agg #[.bool a7.1,.slice A110 a7.2.length c112],.agg #[.bool a2.1,.slice A84 a2.2.length c86]]) call51 r0 r0 r0,qie n N.lt (N.rd (i:=1) r0) (N.rd (i:=8) r0) i5⟩) ?_
          rintro _ m9 ⟨A148,m149,c150,rfl,T⟩
          replace N:=N.merge T
          obtain ⟨rfl,hl153,hc154⟩:=(N.ow (i:=0) r0).qah
          refine ls (N.seta (i:=1) (ds:=[.bool a0.1,.slice A148 a0.2.length c150]) r0 type64 r0 r0 r0 r0 r0) ?_
          rintro n0 ⟨N,S⟩
          refine ln ?_
          refine d9 _ _ ?_
          refine wf1 fun i6 R=>?_
          have X:=cg R 1 X
          have V:=cg R 5 V
          have b1:i6 12=pg d8:=cg R 12 r0
          refine ws fun _ f0=>?_
          refine rg ?_
          refine lv (.bool U.2.2.2) (qau i4q X ((N.bx (i:=5) r0).cell (j:=0) r0)) ?_
          refine lp (.bool U.2.2.2) (qaa r0) ?_
          rcases bS U.2.2.2 with a6 | a6
          · replace Q:=tt a6 Q
            refine gv r0 r0 U.2.2.2 r0 a6 (.agg #[.bool a0.1,.slice A148 a0.2.length c150]) (qat (N.bx (i:=1) r0) i64q s64 b1) ?_
            obtain ⟨b5,i7,Q⟩:=bd Q
            refine lg (qaw r0 r0 (show _=Value.bool U.2.2.2 from r0) a6) (⟨_,_,qap (vs:=[.agg #[.bool a0.1,.slice A148 a0.2.length c150]]) call52 r0 r0 r0,qge n (N.lentLt [.slice A148 a0.2.length c150]) ((N.ow (i:=0) r0).lend (vs:=[.slice A148 a0.2.length c150]) (by simp)) i7⟩) ?_
            rintro _ n1 ⟨rfl,T⟩
            replace N:=N.mergeF T r0
            refine gp r0 r0 U.2.2.2 r0 a6 (.bool (!b5)) (qcl (q:=b5) r0) ?_
            refine lp (.bool (!b5)) (qas (q:=U.2.2.2) r0 a6 r0) ?_
            refine ls (N.setf (i:=5) (k:=0) (v:=.bool (!b5)) r0 s4q r0 (by rw [Addr.add_zero']; exact X) r0 r0) ?_
            rintro n2 ⟨N,S⟩
            refine ln ?_
            refine f0 _ _ ?_
            refine ws fun _ i8=>?_
            refine rg ?_
            refine lv (.agg #[.bool a0.1,.slice A148 a0.2.length c150]) (qat (N.bx (i:=1) r0) i64q s64 b1) ?_
            refine ls (N.seta (i:=17) (ds:=[.bool a0.1,.slice A148 a0.2.length c150]) r0 type64 r0 r0 r0 V r0) ?_
            rintro n3 ⟨N,S⟩
            refine ln ?_
            refine i8 _ _ ?_
            replace N:=N.freeze (i:=0) r0 (N.qhg hI (i:=0) r0 (List.forall_mem_cons.2 ⟨fun g hg=>⟨4,_,r0,by decide,hg⟩,List.forall_mem_cons.2 ⟨fun g hg=>⟨5,_,r0,by decide,hg⟩,List.forall_mem_cons.2 ⟨fun g hg=>⟨6,_,r0,by decide,hg⟩,List.forall_mem_cons.2 ⟨fun g hg=>⟨7,_,r0,by decide,hg⟩,fun _ h=>absurd h List.not_mem_nil⟩⟩⟩⟩))
            obtain rfl:=os Q
            subst hI
            refine wr1 ?_
            refine b0 _ _ ?_
            refine ⟨_,res1 r47 ⟨_,V,qaj (N.bx (i:=17) r0) i64q s64⟩,_,r0,A148,a0.2.length,c150,r0,N.sE [0,4,5,6,7]⟩
          · replace Q:=tf a6 Q
            refine gs r0 r0 U.2.2.2 r0 a6 ?_
            refine gs r0 r0 U.2.2.2 r0 a6 ?_
            refine gs r0 r0 U.2.2.2 r0 a6 ?_
            refine lp (.bool false) (qar (q:=U.2.2.2) r0 a6 r0) ?_
            refine ls (N.setf (i:=5) (k:=0) (v:=.bool false) r0 s4q r0 (by rw [Addr.add_zero']; exact X) r0 r0) ?_
            rintro n4 ⟨N,S⟩
            refine ln ?_
            refine f0 _ _ ?_
            refine ws fun _ i9=>?_
            refine rg ?_
            refine lv (.agg #[.bool a0.1,.slice A148 a0.2.length c150]) (qat (N.bx (i:=1) r0) i64q s64 b1) ?_
            refine ls (N.seta (i:=17) (ds:=[.bool a0.1,.slice A148 a0.2.length c150]) r0 type64 r0 r0 r0 V r0) ?_
            rintro n5 ⟨N,S⟩
            refine ln ?_
            refine i9 _ _ ?_
            replace N:=N.freeze (i:=0) r0 (N.qhg hI (i:=0) r0 (List.forall_mem_cons.2 ⟨fun g hg=>⟨4,_,r0,by decide,hg⟩,List.forall_mem_cons.2 ⟨fun g hg=>⟨5,_,r0,by decide,hg⟩,List.forall_mem_cons.2 ⟨fun g hg=>⟨6,_,r0,by decide,hg⟩,List.forall_mem_cons.2 ⟨fun g hg=>⟨7,_,r0,by decide,hg⟩,fun _ h=>absurd h List.not_mem_nil⟩⟩⟩⟩))
            obtain rfl:=os Q
            subst hI
            refine wr1 ?_
            refine b0 _ _ ?_
            refine ⟨_,res1 r47 ⟨_,V,qaj (N.bx (i:=17) r0) i64q s64⟩,_,r0,A148,a0.2.length,c150,r0,N.sE [0,4,5,6,7]⟩
      · replace Q:=tf c3 Q
        refine ws fun _ j0=>?_
        refine rg ?_
        refine lp (.bool (decide (P.2.2.2.2.2.2.2=12))) (qbe (k:=.i64) (a:=P.2.2.2.2.2.2.2) (b:=12) r0 r0) ?_
        refine lp (.bool (decide (P.2.2.2.2.2.2.2=12))) (qab r0) ?_
        refine ln ?_
        refine j0 _ _ ?_
        refine wc (t:=(decide (P.2.2.2.2.2.2.2=12))) (r0) (fun c5=>?_) (fun c5=>?_)
        · replace Q:=tt c5 Q
          refine ws fun _ j1=>?_
          refine rg ?_
          refine lv (.agg #[.slice z s.length p,.slice u y.length x,iv A]) (qat (N.bx (i:=7) r0) i58 s58 e4) ?_
          obtain ⟨a3,j2,Q⟩:=bd Q
          refine lc (⟨_,_,qap (vs:=[.agg #[.slice z s.length p,.slice u y.length x,iv A]]) call28 r0 r0 r0,qhi n N.lt (N.rd (i:=9) r0) (N.rd (i:=8) r0) H j2⟩) ?_
          rintro _ n6 ⟨rfl,hr173,T⟩
          replace N:=N.merge T
          refine lp (iv a3) (qab r0) ?_
          refine ln ?_
          refine j1 _ _ ?_
          refine ws fun _ j3=>?_
          refine rg ?_
          refine lv (.map (some d)) (qau isAgg91 e3 ((N.bx (i:=13) r0).cell (j:=0) r0)) ?_
          refine lp (iv a3) (qaa r0) ?_
          obtain ⟨a1,j4,Q⟩:=bd Q
          obtain ⟨cs176,hY,hR⟩:=N.mplk (i:=10) (k:=a3) r0 (KL.int u3q) underlying91 (zc:=[.bool false,.slice none 0 0]) (zx:=(false,([]:List (Int×(Int×Int))))) z64 (⟨[.bool false],[.slice none 0 0],r0,show Rep _ _ .bool _ _ from r0,(show Rep _ _ (.sl (.pr si (.pr si si))) [.slice none 0 0] ([]:List (Int×(Int×Int))) from ⟨none,0,r0,Nat.le_refl _,by omega,fun h=>absurd h (by simp)⟩)⟩) true
          rw [Option.some.inj j4] at hR
          obtain ⟨k179,k180,rfl,hr181,hr182⟩:=hR
          obtain rfl:=(show _=_ from hr181)
          have hR:=hr182
          obtain ⟨A183,c184,rfl,hl185,hc186,_⟩:=hr182
          replace N:=N.ro hR
          clear hR
          refine lv (.tuple #[.agg #[.bool a1.1,.slice A183 a1.2.length c184],.bool ((gget f a3).isSome)]) (hY r0 r0) ?_
          clear hY
          refine lp (.tuple #[.agg #[.bool a1.1,.slice A183 a1.2.length c184],.bool ((gget f a3).isSome)]) (qaa r0) ?_
          refine lp (.agg #[.bool a1.1,.slice A183 a1.2.length c184]) (qba r0 r0) ?_
          refine lp (.bool ((gget f a3).isSome)) (qba r0 r0) ?_
          refine lo2 (N.alloc (cs:=[.bool false,.slice none 0 0]) z64 r0) ?_
          rintro _ n7 ⟨j5,rfl,N,S,hG⟩
          refine ls (N.seta (i:=0) (ds:=[.bool a1.1,.slice A183 a1.2.length c184]) r0 type64 r0 r0 r0 r0 r0) ?_
          rintro n8 ⟨N,S⟩
          refine lp (.bool ((gget f a3).isSome)) (qab r0) ?_
          refine ln ?_
          refine j3 _ _ ?_
          refine wf1 fun c6 R=>?_
          have X:=cg R 1 X
          have e3:=cg R 3 e3
          have V:=cg R 5 V
          have f1:c6 13=iv a3:=cg R 13 r0
          have b3:c6 14=pg j5:=cg R 14 r0
          have j6:c6 15=.bool ((gget f a3).isSome):=cg R 15 r0
          refine ws fun _ f2=>?_
          refine ws fun _ j7=>?_
          refine rg ?_
          refine lp _ (qaa j6) ?_
          refine lp (.bool (!(gget f a3).isSome)) (qcl (q:=(gget f a3).isSome) r0) ?_
          refine ln ?_
          refine j7 _ _ ?_
          refine wc (t:=(!(gget f a3).isSome)) (r0) (fun c7=>?_) (fun c7=>?_)
          · replace Q:=tt c7 Q
            refine ws fun _ j8=>?_
            refine rg ?_
            refine lp _ (qaa f1) ?_
            obtain ⟨Y,j9,Q⟩:=bd Q
            refine lc (⟨_,_,qap (vs:=[iv a3]) call53 r0 r0 r0,homfly_circles_ok n N.lt hr173 j9⟩) ?_
            rintro _ n9 ⟨A199,m200,c201,rfl,T⟩
            replace N:=N.merge T
            obtain ⟨rfl,hl204,hc205⟩:=(N.ow (i:=0) r0).qah
            refine ls (N.seta (i:=1) (ds:=[.bool Y.1,.slice A199 Y.2.length c201]) r0 type64 r0 r0 r0 b3 r0) ?_
            rintro o0 ⟨N,S⟩
            refine ln ?_
            refine j8 _ _ ?_
            refine rg ?_
            refine lv (.map (some d)) (qau isAgg91 e3 ((N.bx (i:=16) r0).cell (j:=0) r0)) ?_
            refine lp _ (qaa f1) ?_
            refine lv (.agg #[.bool Y.1,.slice A199 Y.2.length c201]) (qat (N.bx (i:=1) r0) i64q s64 b3) ?_
            replace N:=N.freeze (i:=0) r0 (N.qhg hI (i:=0) r0 (List.forall_mem_cons.2 ⟨fun g hg=>⟨13,_,r0,by decide,hg⟩,List.forall_mem_cons.2 ⟨fun g hg=>⟨14,_,r0,by decide,hg⟩,List.forall_mem_cons.2 ⟨fun g hg=>⟨15,_,r0,by decide,hg⟩,List.forall_mem_cons.2 ⟨fun g hg=>⟨16,_,r0,by decide,hg⟩,fun _ h=>absurd h List.not_mem_nil⟩⟩⟩⟩))
            refine ls (N.mpput (i:=13) (k:=a3) (cs:=[.bool Y.1,.slice A199 Y.2.length c201]) (v:=(Y.1,Y.2)) r0 (KL.int u3q) hr173 underlying91 (⟨[.bool Y.1],[.slice A199 Y.2.length c201],r0,show Rep _ _ .bool _ _ from r0,N.rd (i:=0) r0⟩) r0 r0 r0) ?_
            rintro o1 ⟨N,S⟩
            refine ln ?_
            refine f2 _ _ ?_
            refine ws fun _ k0=>?_
            refine rg ?_
            refine lv (.bool l) (qau i4q X ((N.bx (i:=14) r0).cell (j:=0) r0)) ?_
            refine lp (.bool l) (qaa r0) ?_
            refine gv r0 r0 l r0 (nF a4) (.agg #[.bool Y.1,.slice A199 Y.2.length c201]) (qat (N.bx (i:=1) r0) i64q s64 b3) ?_
            obtain ⟨b6,k1,Q⟩:=bd Q
            refine lg (qaw r0 r0 (show _=Value.bool l from r0) (nF a4)) (⟨_,_,qap (vs:=[.agg #[.bool Y.1,.slice A199 Y.2.length c201]]) call52 r0 r0 r0,qge n N.lt (N.rd (i:=0) r0) k1⟩) ?_
            rintro _ o2 ⟨rfl,T⟩
            replace N:=N.merge T
            refine gp r0 r0 l r0 (nF a4) (.bool (!b6)) (qcl (q:=b6) r0) ?_
            refine lp (.bool (!b6)) (qas (q:=l) r0 (nF a4) r0) ?_
            refine ls (N.setf (i:=14) (k:=0) (v:=.bool (!b6)) r0 s4q r0 (by rw [Addr.add_zero']; exact X) r0 r0) ?_
            rintro o3 ⟨N,S⟩
            refine ln ?_
            refine k0 _ _ ?_
            refine ws fun _ k2=>?_
            refine rg ?_
            refine lv (.agg #[.bool Y.1,.slice A199 Y.2.length c201]) (qat (N.bx (i:=1) r0) i64q s64 b3) ?_
            refine ls (N.seta (i:=9) (ds:=[.bool Y.1,.slice A199 Y.2.length c201]) r0 type64 r0 r0 r0 V r0) ?_
            rintro o4 ⟨N,S⟩
            refine ln ?_
            refine k2 _ _ ?_
            obtain rfl:=os Q
            subst hI
            refine wr1 ?_
            refine b0 _ _ ?_
            refine ⟨_,res1 r47 ⟨_,V,qaj (N.bx (i:=9) r0) i64q s64⟩,_,r0,A199,Y.2.length,c201,r0,N.sE [0,13,14,15,16]⟩
          · replace Q:=tf c7 Q
            refine ws1 ?_
            refine f2 _ _ ?_
            refine ws fun _ k3=>?_
            refine rg ?_
            refine lv (.bool l) (qau i4q X ((N.bx (i:=13) r0).cell (j:=0) r0)) ?_
            refine lp (.bool l) (qaa r0) ?_
            refine gv r0 r0 l r0 (nF a4) (.agg #[.bool a1.1,.slice A183 a1.2.length c184]) (qat (N.bx (i:=0) r0) i64q s64 b3) ?_
            obtain ⟨b7,k4,Q⟩:=bd Q
            refine lg (qaw r0 r0 (show _=Value.bool l from r0) (nF a4)) (⟨_,_,qap (vs:=[.agg #[.bool a1.1,.slice A183 a1.2.length c184]]) call52 r0 r0 r0,qge n N.lt (N.rd (i:=1) r0) k4⟩) ?_
            rintro _ o5 ⟨rfl,T⟩
            replace N:=N.merge T
            refine gp r0 r0 l r0 (nF a4) (.bool (!b7)) (qcl (q:=b7) r0) ?_
            refine lp (.bool (!b7)) (qas (q:=l) r0 (nF a4) r0) ?_
            refine ls (N.setf (i:=13) (k:=0) (v:=.bool (!b7)) r0 s4q r0 (by rw [Addr.add_zero']; exact X) r0 r0) ?_
            rintro o6 ⟨N,S⟩
            refine ln ?_
            refine k3 _ _ ?_
            refine ws fun _ k5=>?_
            refine rg ?_
            refine lv (.agg #[.bool a1.1,.slice A183 a1.2.length c184]) (qat (N.bx (i:=0) r0) i64q s64 b3) ?_
            refine ls (N.seta (i:=8) (ds:=[.bool a1.1,.slice A183 a1.2.length c184]) r0 type64 r0 r0 r0 V r0) ?_
            rintro o7 ⟨N,S⟩
            refine ln ?_
            refine k5 _ _ ?_
            obtain rfl:=os Q
            subst hI
            refine wr1 ?_
            refine b0 _ _ ?_
            refine ⟨_,res1 r47 ⟨_,V,qaj (N.bx (i:=8) r0) i64q s64⟩,_,r0,A183,a1.2.length,c184,r0,N.sE [1,12,13,14,15]⟩
        · replace Q:=tf c5 Q
          refine ws1 ?_
          refine g3 _ _ ?_
          refine ws fun _ k6=>?_
          refine rg ?_
          refine ls (N.setf (i:=11) (k:=0) (v:=.bool false) r0 s4q r0 (by rw [Addr.add_zero']; exact X) r0 r0) ?_
          rintro o8 ⟨N,S⟩
          refine ln ?_
          refine k6 _ _ ?_
          refine ws fun _ k7=>?_
          refine rg ?_
          refine lp (.agg #[.bool false,.slice none 0 0]) (qam (places:=[(0,1),(1,1)]) (pv:=[]) type64 u64 r0 (qaf type4 (qaf type62 qax r0 r0) r0 r0) r0 (by simp [Instr.fill,Value.cells])) ?_
          refine ls (N.seta (i:=6) (ds:=[.bool false,.slice none 0 0]) r0 type64 r0 r0 r0 V r0) ?_
          rintro o9 ⟨N,S⟩
          refine ln ?_
          refine k7 _ _ ?_
          replace N:=N.ro (show Rep _ _ (.sl (.pr si (.pr si si))) [.slice none 0 0] [] from ⟨none,0,r0,Nat.le_refl _,by omega,fun h=>absurd h (by simp)⟩)
          obtain rfl:=os Q
          subst hI
          refine wr1 ?_
          refine b0 _ _ ?_
          refine ⟨_,res1 r47 ⟨_,V,qaj (N.bx (i:=7) r0) i64q s64⟩,_,r0,none,0,0,r0,N.sE [0,11,12,13,14]⟩
