import Derived.Test.YtlkmcbgkohpmiaaS
import Derived.Test.YtlkmcbgkohpmiaaG0
import Derived.Test.YtlkmcbgkohpmiaaG3
import Derived.Test.YtlkmcbgkohpmiaaG5
import Derived.Test.YtlkmcbgkohpmiaaG7
set_option linter.all false
namespace Go.Proofs.Ytlkmcbgkohpmiaa
open Ev Try
set_option maxRecDepth 100000
set_option maxHeartbeats 4000000
theorem diagram_Strands_c1_ok (n:Nat) {w:World} {O0:List Nat} (hO: ∀k∈O0,k<w.heap.size) {o:Int} (t:I64 o) {m:Nat} {a:Option Addr} {j b:Nat} {g:List Int} (p:Rep O0 w (.sl si) [.slice a j b] g) {c:Option Addr} {l d:Nat} {h:List Int} (q:Rep O0 w (.sl si) [.slice c l d] h) {f:Int} (s:I64 f) (hio:Tk O0 w [.box m 60 [.slice a j b,.slice c l d,iv f]]) {r:Bool} (hb:F.qeq n o g h f=some r):
    Calls prog 71 #[iv o,pg m] w fun e w'=> ∃v,e=.returned v∧v=.bool r∧Cx (fun k=>k∈blocks [.box m 60 [.slice a j b,.slice c l d,iv f]]) O0 w w' [.box m 60 [.slice a j b,.slice c l d,iv f]]:=by
 unfold F.qeq at hb
 have hC:=Cx.startTk hO hio
 have hsub:=hio.2.2
 replace hC:=hC.argTk (by first | exact hsub | exact fun k hk=>hsub k (by simpa [blocks,Fact.blk] using hk)) p
 replace hC:=hC.argTk (by first | exact hsub | exact fun k hk=>hsub k (by simpa [blocks,Fact.blk] using hk)) q
 clear hO
 obtain ⟨rfl,u,x⟩:=p.qaf
 obtain ⟨rfl,y,z⟩:=q.qaf
 clear hio hsub
 obtain ⟨I,hI,hC⟩: ∃I:Nat→Prop,I=(fun k=>k∈blocks [.box m 60 [.slice a g.length b,.slice c h.length d,iv f]])∧Cx I O0 w w ([.ro (.sl si) [.slice c h.length d] h,.ro (.sl si) [.slice a g.length b] g,.box m 60 [.slice a g.length b,.slice c h.length d,iv f]]):=⟨_,rfl,hC⟩
 refine qao func71 rfl (by rw [ntmps71]; exact nb rfl) fun KR hKR=>?_
 refine Wc.seq fun _ hK4=>rg<|lp (.bool false) (qab rfl)<|ln (hK4 _ _ ?_)
 refine Wc.seq fun _ hK5=>rg<|lv (.agg #[.slice a g.length b,.slice c h.length d,iv f]) (qbm (hC.bx (i:=2) rfl) isAgg60 sizeOf60 rfl)<|lp (iv o) (qaa rfl) ?_
 obtain ⟨y6,h7,hb⟩:=bd hb
 refine lex.cl (⟨_,_,qas (vs:=[.agg #[.slice a g.length b,.slice c h.length d,iv f],iv o]) call68 rfl rfl rfl,qgy n hC.lt (hC.rd (i:=1) rfl) (hC.rd (i:=0) rfl) s t h7⟩) ?_
 rintro _ w8 ⟨rfl,hK⟩
 replace hC:=hC.merge hK
 clear hK
 refine lp (.bool y6) (qab rfl)<|ln (hK5 _ _ ?_)
 obtain rfl:=os hb
 subst hI
 refine Wc.ret (hKR _ _ ?_)
 refine ⟨_,res1 results71 (tV (.bool y6) rfl),_,rfl,rfl,hC.sE [2]⟩

theorem diagram_Opposite_ok (n:Nat) {w:World} {O0:List Nat} (hO: ∀k∈O0,k<w.heap.size) {a:Int} (b:I64 a) {r:Int} (hb:F.qgq n a=some r):
    Calls prog 74 #[iv a] w fun e w'=> ∃v,e=.returned v∧v=iv r∧I64 r∧Cx (fun _=>False) O0 w w' []:=by
 unfold F.qgq at hb
 have hC:=Cx.start hO
 clear hO
 refine qao func74 rfl (by rw [ntmps74]; exact nb rfl) fun KR hKR=>?_
 refine Wc.seq fun _ hK1=>rg<|lp (iv 0) (qab rfl)<|ln (hK1 _ _ ?_)
 refine Wc.seq fun _ hK2=>rg<|lp (iv a) (qaa rfl) ?_
 obtain ⟨y3,h4,hb⟩:=bd hb
 refine lex.cl (⟨_,_,qas (vs:=[iv a,iv 2]) call87 rfl rfl rfl,diagram_Turn_ok n hC.lt b (show I64 2 from by unfold I64; omega) h4⟩) ?_
 rintro _ w6 ⟨rfl,hr5,hK⟩
 replace hC:=hC.merge hK
 clear hK
 refine lp (iv y3) (qab rfl)<|ln (hK2 _ _ ?_)
 obtain rfl:=os hb
 refine Wc.ret (hKR _ _ ?_)
 refine ⟨_,res1 results74 (tV (iv y3) rfl),_,rfl,rfl,hr5,hC.sE []⟩

theorem qhf (n:Nat) {w:World} {O0:List Nat} (hO: ∀k∈O0,k<w.heap.size) {p:Int} (A:I64 p) {l:Nat} {d:Option Addr} {m f:Nat} {j:List Int} (q:Rep O0 w (.sl si) [.slice d m f] j) {b:Option Addr} {o c:Nat} {g:List Int} (s:Rep O0 w (.sl si) [.slice b o c] g) {h:Int} (z:I64 h) (hio:Tk O0 w [.box l 60 [.slice d m f,.slice b o c,iv h]]) {r:Int} (hb:F.qdg n p j g h=some r):
    Calls prog 73 #[iv p,pg l] w fun e w'=> ∃v,e=.returned v∧v=iv r∧I64 r∧Cx (fun k=>k∈blocks [.box l 60 [.slice d m f,.slice b o c,iv h]]) O0 w w' [.box l 60 [.slice d m f,.slice b o c,iv h]]:=by
 unfold F.qdg at hb
 have hC:=Cx.startTk hO hio
 have hsub:=hio.2.2
 replace hC:=hC.argTk (by first | exact hsub | exact fun k hk=>hsub k (by simpa [blocks,Fact.blk] using hk)) q
 replace hC:=hC.argTk (by first | exact hsub | exact fun k hk=>hsub k (by simpa [blocks,Fact.blk] using hk)) s
 clear hO
 obtain ⟨rfl,t,u⟩:=q.qaf
 obtain ⟨rfl,x,y⟩:=s.qaf
 clear hio hsub
 obtain ⟨I,hI,hC⟩: ∃I:Nat→Prop,I=(fun k=>k∈blocks [.box l 60 [.slice d j.length f,.slice b g.length c,iv h]])∧Cx I O0 w w ([.ro (.sl si) [.slice b g.length c] g,.ro (.sl si) [.slice d j.length f] j,.box l 60 [.slice d j.length f,.slice b g.length c,iv h]]):=⟨_,rfl,hC⟩
 refine qao func73 rfl (by rw [ntmps73]; exact nb rfl) fun KR hKR=>?_
 refine Wc.seq fun _ hK4=>rg<|lp (iv 0) (qab rfl)<|ln (hK4 _ _ ?_)
 refine Wc.seq fun _ hK5=>rg<|lp (.pointer (some ((⟨l,0,none⟩:Addr).add 1))) (qal (sz:=1) underlying60 rfl sizeOf22 (by decide) rfl rfl)<|lv (.slice b g.length c) (qar (hC.bx (i:=2) rfl) isAgg22 rfl rfl)<|lp (iv p) (qaa rfl) ?_
 obtain ⟨x6,h7,hb⟩:=bd hb
 obtain ⟨ad8,cs9,hA,hc10,hr11⟩:=hC.elr (i:=0) rfl (qac h7).2
 subst hA
 refine lp (.pointer (some (ad8.add (p.toNat*1)))) (qag (a:=p) underlying22 sizeOf3 rfl rfl (qac h7).1) ?_
 obtain ⟨rfl,hr11'⟩:=hr11
 refine lv (iv x6) (qah isAgg3 rfl (hc10 0 _ rfl)) ?_
 obtain ⟨y12,h13,hb⟩:=bd hb
 refine lex.cl (⟨_,_,qas (vs:=[iv x6]) call74 rfl rfl rfl,diagram_Opposite_ok n hC.lt (qbl hr11') h13⟩) ?_
 rintro _ w15 ⟨rfl,hr14,hK⟩
 replace hC:=hC.merge hK
 clear hK
 refine lp (iv y12) (qab rfl)<|ln (hK5 _ _ ?_)
 obtain rfl:=os hb
 subst hI
 refine Wc.ret (hKR _ _ ?_)
 refine ⟨_,res1 results73 (tV (iv y12) rfl),_,rfl,rfl,hr14,hC.sE [2]⟩

theorem qhe (n:Nat) {w:World} {O0:List Nat} (hO: ∀k∈O0,k<w.heap.size) {o:Int} (J:I64 o) {l:Nat} {f:Option Addr} {z g:Nat} {c:List Int} (C:Rep O0 w (.sl si) [.slice f z g] c) {h:Option Addr} {A j:Nat} {d:List Int} (D:Rep O0 w (.sl si) [.slice h A j] d) {p:Int} (G:I64 p) (hio:Tk O0 w [.box l 60 [.slice f z g,.slice h A j,iv p]]) {r:(List Int)} (hb:F.qbo n o c d p=some r):
    Calls prog 88 #[iv o,.func (.func 73) #[] #[pg l]] w fun e w'=> ∃v,e=.returned v∧∃(A0:Option Addr) (m0 c0:Nat),v=.slice A0 m0 c0∧Cx (fun k=>k∈blocks [.box l 60 [.slice f z g,.slice h A j,iv p]]) O0 w w' [.own 3 si (.slice A0 m0 c0) r,.box l 60 [.slice f z g,.slice h A j,iv p]]:=by
 unfold F.qbo at hb
 have hC:=Cx.startTk hO hio
 have hsub:=hio.2.2
 replace hC:=hC.argTk (by first | exact hsub | exact fun k hk=>hsub k (by simpa [blocks,Fact.blk] using hk)) C
 replace hC:=hC.argTk (by first | exact hsub | exact fun k hk=>hsub k (by simpa [blocks,Fact.blk] using hk)) D
 clear hO
 obtain ⟨rfl,K,L⟩:=C.qaf
 obtain ⟨rfl,M,N⟩:=D.qaf
 clear hio hsub
 obtain ⟨I,hI,hC⟩: ∃I:Nat→Prop,I=(fun k=>k∈blocks [.box l 60 [.slice f c.length g,.slice h d.length j,iv p]])∧Cx I O0 w w ([.ro (.sl si) [.slice h d.length j] d,.ro (.sl si) [.slice f c.length g] c,.box l 60 [.slice f c.length g,.slice h d.length j,iv p]]):=⟨_,rfl,hC⟩
 refine qao func88 rfl (by rw [ntmps88]; exact nb rfl) fun KR hKR=>?_
 refine Wc.seq fun _ hK4=>rg<|lp (.slice none 0 0) (qab rfl)<|ln (hK4 _ _ ?_)
 refine Wc.seq fun _ hK5=>rg<|lp (iv o) (qaa rfl)<|lex.op (hC.lit (s:=si) (vs:=[iv o]) (xs:=[o]) underlying22 type3 rfl rfl (nb rfl) rfl rfl (by simp [Value.cells,Sh.n]) rfl (show Elems _ _ si ([iv o]++([])) ([o]:List Int) from Elems.cons (⟨rfl,I64.wr J⟩) (Elems.nil _ _ _))) ?_
 rintro _ w10 ⟨A6,c7,rfl,hl8,hc9,hC,-,-⟩
 refine lp (.slice A6 ((([o]:List Int)).length) c7) (qab rfl)<|ln (hK5 _ _ ?_)
 refine Wc.seq fun _ hK12=>?_
 refine Wc.seq fun _ hK13=>rg<|lp (.func (.func 73) #[] #[pg l]) (qaa rfl)<|lp (iv o) (qaa rfl) ?_
 replace hC:Cx I O0 w w10 ([.box l 60 [.slice f c.length g,.slice h d.length j,iv p]]++[.own 3 si (.slice A6 ((([o]:List Int)).length) c7) ([o]:List Int),.ro (.sl si) [.slice h d.length j] d,.ro (.sl si) [.slice f c.length g] c]):=hC.sE [3,0,1,2]
 obtain ⟨y14,h15,hb⟩:=bd hb
 refine lex.cl (⟨_,_,qcf (vs:=[iv o,pg l]) (ca:=#[pg l]) call73 rfl rfl rfl,qhf n hC.lt J (hC.rd (i:=3) rfl) (hC.rd (i:=2) rfl) G hC.give h15⟩) ?_
 rintro _ w17 ⟨rfl,hr16,hK⟩
 replace hC:=hC.back hK
 clear hK
 refine lp (iv y14) (qab rfl)<|ln (hK13 _ _ ?_)
 obtain ⟨o18,hl0,hb⟩:=bd hb
 refine Wc.cut (fun E wv=> ∃(u:List Int) (q:Int) (x:Option Addr) (B y:Nat),E 4=.slice none 0 0∧E 5=.slice x B y∧I64 q∧Cx I O0 w wv [.own 3 si (.slice x B y) u,.box l 60 [.slice f c.length g,.slice h d.length j,iv p],.ro (.sl si) [.slice f c.length g] c,.ro (.sl si) [.slice h d.length j] d]∧(some u:Option ((List Int)))=some r) (fun _ hK19=>?_) ?_
 refine Wc.block ?_
 refine Wc.loop (fun m E wv=> ∃(u:List Int) (q:Int) (x:Option Addr) (B y:Nat),E 0=iv o∧E 1=.func (.func 73) #[] #[pg l]∧E 4=.slice none 0 0∧E 5=.slice x B y∧E 6=iv q∧I64 q∧Cx I O0 w wv [.box l 60 [.slice f c.length g,.slice h d.length j,iv p],.ro (.sl si) [.slice f c.length g] c,.ro (.sl si) [.slice h d.length j] d,.own 3 si (.slice x B y) u]∧loopN m (F.qbg n o c d p) (u,q)=some o18) n ⟨([o]:List Int),y14,A6,(([o]:List Int)).length,c7,rfl,rfl,rfl,rfl,rfl,hr16,hC.sE [0,3,2,1],hl0⟩ ?_
 have hbK0:=hb
 clear hb hC hl0
 rintro m21 E23 w22 ⟨u,q,x,B,y,e0,e1,e4,e5,e6,H,hC,hl0⟩ K20 hK20
 obtain ⟨m21',o24,rfl,hb,hl0⟩:=qam hl0
 unfold F.qbg at hb
 obtain ⟨rfl,P,Q⟩:=(hC.ow (i:=3) rfl).qaf
 refine Wc.seq fun _ hK25=>?_
 refine Wc.seq fun _ hK26=>rg<|lp _ (qaa e6)<|lp _ (qaa e0)<|lp (.bool (!(decide (q=o)))) (qbv (k:=.i64) (a:=q) (b:=o) rfl rfl)<|ln (hK26 _ _ ?_)
 refine Wc.cond (t:=(!(decide (q=o)))) (rfl) (fun hq27=>?_) (fun hq27=>?_)
 replace hb:=tt hq27 hb
 refine Wc.skip (hK25 _ _ ?_)
 refine Wc.seq fun _ hK28=>?_
 refine Wc.block<|rg<|lp _ (qaa e5)<|lp _ (qaa e6)<|lex.op (hC.lit (s:=si) (vs:=[iv q]) (xs:=[q]) underlying22 type3 rfl rfl (nb rfl) rfl rfl (by simp [Value.cells,Sh.n]) rfl (show Elems _ _ si ([iv q]++([])) ([q]:List Int) from Elems.cons (⟨rfl,I64.wr H⟩) (Elems.nil _ _ _))) ?_
 rintro _ w33 ⟨A29,c30,rfl,hl31,hc32,hC,-,-⟩
 obtain ⟨u35,h36,hb⟩:=bd hb
 refine lex.op (hC.app (i:=4) (s:=si) (xs:=u) (ys:=([q]:List Int)) (m:=((([q]:List Int)).length)) rfl underlying22 underlying22 type3 rfl rfl rfl (hC.srco (i:=0) rfl) rfl rfl (by have:=qbn h36; simp at this⊢ <;>omega) (by decide)) ?_
 rintro _ w41 ⟨A37,c38,rfl,hl39,hc40,hC,-,-⟩
 refine lp (.slice A37 ((u++([q]:List Int)).length) c38) (qab rfl)<|ln (hK28 _ _ ?_)
 refine rg<|lp _ (qaa e1)<|lp _ (qaa e6) ?_
 replace hC:Cx I O0 w w41 ([.box l 60 [.slice f c.length g,.slice h d.length j,iv p]]++[.own 3 si (.slice A29 ((([q]:List Int)).length) c30) ([q]:List Int),.ro (.sl si) [.slice f c.length g] c,.ro (.sl si) [.slice h d.length j] d,.own 3 si (.slice A37 ((u++([q]:List Int)).length) c38) (u++([q]:List Int))]):=hC.sE [1,0,2,3,4]
 obtain ⟨y42,h43,hb⟩:=bd hb
 refine lex.cl (⟨_,_,qcf (vs:=[iv q,pg l]) (ca:=#[pg l]) call73 rfl rfl rfl,qhf n hC.lt H (hC.rd (i:=2) rfl) (hC.rd (i:=3) rfl) G hC.give h43⟩) ?_
 rintro _ w45 ⟨rfl,hr44,hK⟩
 replace hC:=hC.back hK
 clear hK
 refine lp (iv y42) (qab rfl)<|ln ?_
 obtain rfl:=os hb
 exact hK20 m21' _ _ (Nat.lt_succ_self _) ⟨(u++([q]:List Int)),y42,A37,(u++([q]:List Int)).length,c38,e0,e1,e4,rfl,rfl,hr44,hC.sE [0,2,3,4],lN hl0⟩
 replace hb:=tf hq27 hb
 refine Wc.exit rfl ?_
 obtain rfl:=os hb
 obtain rfl:=(lX hl0).symm
 exact hK19 _ _ ⟨u,q,x,u.length,y,e4,e5,H,hC.sE [3,0,1,2],hbK0⟩
 clear hb hC hl0
 rintro E47 w46 ⟨u,q,x,B,y,e4,e5,H,hC,hb⟩
 obtain ⟨rfl,P,Q⟩:=(hC.ow (i:=0) rfl).qaf
 refine hK12 _ _<|Wc.seq fun _ hK48=>rg<|lp _ (qaa e5)<|lp (.slice x u.length y) (qab rfl)<|ln (hK48 _ _ ?_)
 obtain rfl:=os hb
 subst hI
 refine Wc.ret (hKR _ _ ?_)
 refine ⟨_,res1 results88 (tV (.slice x u.length y) rfl),_,rfl,x,u.length,y,rfl,hC.sE [0,1]⟩

theorem qek (n:Nat) {w:World} {O0:List Nat} (hO: ∀k∈O0,k<w.heap.size) {x:Int} (Z:I64 x) {f:Nat} {j:Option Addr} {J l:Nat} {c:List Int} (M:Rep O0 w (.sl si) [.slice j J l] c) {o:Option Addr} {K p:Nat} {d:List Int} (N:Rep O0 w (.sl si) [.slice o K p] d) {u:Int} (P:I64 u) (hio:Tk O0 w [.box f 60 [.slice j J l,.slice o K p,iv u]]) {r:(List (List Int))} (hb:F.qbc n x c d u=some r):
    Calls prog 72 #[iv x,.func (.func 71) #[] #[pg f],.func (.func 73) #[] #[pg f]] w fun e w'=> ∃v,e=.returned v∧∃(A0:Option Addr) (m0 c0:Nat),v=.slice A0 m0 c0∧Cx (fun k=>k∈blocks [.box f 60 [.slice j J l,.slice o K p,iv u]]) O0 w w' [.own 22 (.sl si) (.slice A0 m0 c0) r,.box f 60 [.slice j J l,.slice o K p,iv u]]:=by
 unfold F.qbc at hb
 have hC:=Cx.startTk hO hio
 have hsub:=hio.2.2
 replace hC:=hC.argTk (by first | exact hsub | exact fun k hk=>hsub k (by simpa [blocks,Fact.blk] using hk)) M
 replace hC:=hC.argTk (by first | exact hsub | exact fun k hk=>hsub k (by simpa [blocks,Fact.blk] using hk)) N
 clear hO
 obtain ⟨rfl,S,T⟩:=M.qaf
 obtain ⟨rfl,U,V⟩:=N.qaf
 clear hio hsub
 obtain ⟨I,hI,hC⟩: ∃I:Nat→Prop,I=(fun k=>k∈blocks [.box f 60 [.slice j c.length l,.slice o d.length p,iv u]])∧Cx I O0 w w ([.ro (.sl si) [.slice o d.length p] d,.ro (.sl si) [.slice j c.length l] c,.box f 60 [.slice j c.length l,.slice o d.length p,iv u]]):=⟨_,rfl,hC⟩
 refine qao func72 rfl (by rw [ntmps72]; exact nb rfl) fun KR hKR=>?_
 refine Wc.seq fun _ hK4=>rg<|lp (.slice none 0 0) (qab rfl)<|ln (hK4 _ _ ?_)
 refine Wc.seq fun _ hK5=>rg<|lp (.slice none 0 0) (qab rfl)<|ln (hK5 _ _ ?_)
 refine Wc.seq fun _ hK6=>rg<|lp (iv x) (qaa rfl) ?_
 obtain ⟨u7,h8,hb⟩:=bd hb
 refine lex.op (hC.make (s:=.bool) (n:=x) underlying102 type4 rfl rfl rfl rfl rfl (qae h8).1 (qae h8).2 (by decide)) ?_
 rintro _ w13 ⟨A9,c10,rfl,hl11,hc12,hC,-,-⟩
 refine lp (.slice A9 (((List.replicate x.toNat false)).length) c10) (qab rfl)<|ln (hK6 _ _ ?_)
 refine Wc.seq fun _ hK15=>?_
 refine Wc.seq fun _ hK16=>rg<|lp (iv x) (qaa rfl)<|lp (iv 0) (qaa rfl)<|ln (hK16 _ _ ?_)
 replace hC:=hC.nil 22 (.sl si)
 obtain ⟨o18,hl0,hb⟩:=bd hb
 refine Wc.cut (fun E wv=> ∃(z:List (List Int)) (y:Int) (D:List Bool) (B:Option Addr) (L C:Nat),E 6=.slice none 0 0∧E 7=.slice B L C∧I64 y∧Cx I O0 w wv [.own 22 (.sl si) (.slice B L C) z,.box f 60 [.slice j c.length l,.slice o d.length p,iv u],.ro (.sl si) [.slice j c.length l] c,.ro (.sl si) [.slice o d.length p] d]∧(some z:Option ((List (List Int))))=some r) (fun _ hK19=>?_) ?_
 refine Wc.block ?_
 refine Wc.loop (fun m E wv=> ∃(z:List (List Int)) (y:Int) (D:List Bool) (B:Option Addr) (L C:Nat),E 1=.func (.func 71) #[] #[pg f]∧E 2=.func (.func 73) #[] #[pg f]∧E 6=.slice none 0 0∧E 7=.slice B L C∧E 8=.slice A9 (((List.replicate x.toNat false)).length) c10∧E 15=iv x∧E 16=iv y∧I64 y∧Cx I O0 w wv [.box f 60 [.slice j c.length l,.slice o d.length p,iv u],.ro (.sl si) [.slice j c.length l] c,.ro (.sl si) [.slice o d.length p] d,.own 22 (.sl si) (.slice B L C) z,.own 4 .bool (.slice A9 (((List.replicate x.toNat false)).length) c10) D]∧loopN m (F.qaw n x c d u) (z,y,D)=some o18) n ⟨([]:List (List Int)),0,(List.replicate x.toNat false),none,0,0,rfl,rfl,rfl,rfl,rfl,rfl,rfl,(show I64 0 from by unfold I64; omega),hC.sE [4,3,2,0,1],hl0⟩ ?_
 have hbK0:=hb
 clear hb hC hl0
 rintro m21 E23 w22 ⟨z,y,D,B,L,C,e1,e2,e6,e7,e8,e15,e16,Q,hC,hl0⟩ K20 hK20
 obtain ⟨m21',o24,rfl,hb,hl0⟩:=qam hl0
 unfold F.qaw at hb
 obtain ⟨rfl,X,Y⟩:=(hC.ow (i:=3) rfl).qaf
 refine Wc.seq fun _ hK25=>rg<|lp _ (qau e16 e15)<|ln (hK25 _ _ ?_)
 refine Wc.seq fun _ hK26=>?_
 refine Wc.cond (t:=(decide (y<x))) (rfl) (fun hq27=>?_) (fun hq27=>?_)
 replace hb:=tt hq27 hb
 refine Wc.skip (hK26 _ _ ?_)
 refine Wc.seq fun _ hK28=>?_
 refine Wc.block<|Wc.seq fun _ hK29=>rg<|lp _ (qaa e16)<|lp (iv y) (qab rfl)<|ln (hK29 _ _ ?_)
 refine Wc.seq fun _ hK30=>?_
 refine Wc.seq fun _ hK31=>rg<|lp _ (qaa e8)<|lp (iv y) (qaa rfl) ?_
 obtain ⟨x32,h33,hb⟩:=bd hb
 obtain ⟨ad34,cs35,hA,hc36,hr37⟩:=hC.elo (i:=4) rfl (qac h33).2
 subst hA
 refine lp (.pointer (some (ad34.add (y.toNat*1)))) (qag (a:=y) underlying102 sizeOf4 rfl rfl (by rw [(hC.ow (i:=4) rfl).qaf.1]; exact (qac h33).1)) ?_
 obtain rfl:=(show _=_ from hr37)
 refine lv (.bool x32) (qah isAgg4 rfl (hc36 0 _ rfl))<|lp (.bool x32) (qaa rfl) ?_
 rcases bS x32 with hq38 | hq38
 replace hb:=tt hq38 hb
 refine gs rfl rfl x32 rfl hq38<|gs rfl rfl x32 rfl hq38<|gs rfl rfl x32 rfl hq38<|gs rfl rfl x32 rfl hq38<|lp (.bool true) (qap (q:=x32) rfl hq38 rfl)<|ln (hK31 _ _ ?_)
 refine Wc.cond_true (rfl) ?_
 refine Wc.exit rfl ?_
 refine hK28 _ _<|rg ?_
 obtain ⟨z39,h40,hb⟩:=bd hb
 refine lp (iv z39) (qak (a:=y) (b:=1) e16 rfl h40)<|lp (iv z39) (qaa rfl)<|ln ?_
 obtain rfl:=os hb
 exact hK20 m21' _ _ (Nat.lt_succ_self _) ⟨z,z39,D,B,z.length,C,e1,e2,e6,e7,e8,e15,rfl,(qai h40),hC.sE [0,1,2,3,4],lN hl0⟩
 replace hb:=tf hq38 hb
 refine gp rfl rfl x32 rfl hq38 (.func (.func 71) #[] #[pg f]) (qaa e1)<|gp rfl rfl x32 rfl hq38 (iv y) (qaa rfl) ?_
 replace hC:Cx I O0 w w22 ([.box f 60 [.slice j c.length l,.slice o d.length p,iv u]]++[.ro (.sl si) [.slice j c.length l] c,.ro (.sl si) [.slice o d.length p] d,.own 22 (.sl si) (.slice B z.length C) z,.own 4 .bool (.slice (some ad34) (((List.replicate x.toNat false)).length) c10) D]):=hC.sE [0,1,2,3,4]
 obtain ⟨y41,h42,hb⟩:=bd hb
 refine lex.gcl (qdy rfl rfl (show _=Value.bool x32 from rfl) hq38) (⟨_,_,qcf (vs:=[iv y,pg f]) (ca:=#[pg f]) call71 rfl rfl rfl,diagram_Strands_c1_ok n hC.lt Q (hC.rd (i:=1) rfl) (hC.rd (i:=2) rfl) P hC.give h42⟩) ?_
 rintro _ w43 ⟨rfl,hK⟩
 replace hC:=hC.back hK
 clear hK
 refine gp rfl rfl x32 rfl hq38 (.bool (!y41)) (qcd (q:=y41) rfl)<|lp (.bool (!y41)) (qat (q:=x32) rfl hq38 rfl)<|ln (hK31 _ _ ?_)
 refine Wc.cond (t:=(!y41)) (rfl) (fun hq44=>?_) (fun hq44=>?_)
 replace hb:=tt hq44 hb
 refine Wc.exit rfl ?_
 refine hK28 _ _<|rg ?_
 obtain ⟨z45,h46,hb⟩:=bd hb
 refine lp (iv z45) (qak (a:=y) (b:=1) e16 rfl h46)<|lp (iv z45) (qaa rfl)<|ln ?_
 obtain rfl:=os hb
 exact hK20 m21' _ _ (Nat.lt_succ_self _) ⟨z,z45,D,B,z.length,C,e1,e2,e6,e7,e8,e15,rfl,(qai h46),hC.sE [0,1,2,3,4],lN hl0⟩
 replace hb:=tf hq44 hb
 refine Wc.skip (hK30 _ _ ?_)
 refine Wc.fresh fun E47 hE=>?_
 have e1:=cg hE 1 e1
 have e2:=cg hE 2 e2
 have e6:=cg hE 6 e6
 have e7:=cg hE 7 e7
 have e8:=cg hE 8 e8
 have e9:E47 9=iv y:=cg hE 9 rfl
 have e15:=cg hE 15 e15
 have e16:=cg hE 16 e16
 have e17:E47 17=.bool (decide (y<x)):=cg hE 17 rfl
 have e28:E47 28=.bool (!y41):=cg hE 28 rfl
 clear hE
 refine Wc.seq fun _ hK48=>rg<|lp _ (qaa e9)<|lp _ (qaa e2) ?_
 replace hC:Cx I O0 w w43 ([.box f 60 [.slice j c.length l,.slice o d.length p,iv u]]++[.ro (.sl si) [.slice j c.length l] c,.ro (.sl si) [.slice o d.length p] d,.own 22 (.sl si) (.slice B z.length C) z,.own 4 .bool (.slice (some ad34) (((List.replicate x.toNat false)).length) c10) D]):=hC.sE [0,1,2,3,4]
 obtain ⟨y49,h50,hb⟩:=bd hb
 refine lex.cl (⟨_,_,qas (vs:=[iv y,.func (.func 73) #[] #[pg f]]) call88 rfl rfl rfl,qhe n hC.lt Q (hC.rd (i:=1) rfl) (hC.rd (i:=2) rfl) P hC.give h50⟩) ?_
 rintro _ w55 ⟨A51,m52,c53,rfl,hK⟩
 replace hC:=hC.back hK
 clear hK
 obtain ⟨rfl,hl56,hc57⟩:=(hC.ow (i:=0) rfl).qaf
 refine lp (.slice A51 y49.length c53) (qab rfl)<|ln (hK48 _ _ ?_)
 refine Wc.seq fun _ hK58=>?_
 refine Wc.seq fun _ hK59=>rg<|lp (.slice A51 y49.length c53) (qaa rfl)<|lp (iv (y49.length:Int)) (qan (A:=A51) (n:=y49.length) (m:=c53) underlying22 rfl)<|lp (iv 0) (qaa rfl)<|ln (hK59 _ _ ?_)
 obtain ⟨o60,hl1,hb⟩:=bd hb
 refine Wc.cut (fun E wv=> ∃(G:Int) (H:List Bool),E 1=.func (.func 71) #[] #[pg f]∧E 2=.func (.func 73) #[] #[pg f]∧E 6=.slice none 0 0∧E 7=.slice B z.length C∧E 8=.slice (some ad34) (((List.replicate x.toNat false)).length) c10∧E 9=iv y∧E 10=.slice A51 y49.length c53∧E 15=iv x∧E 16=iv y∧E 17=.bool (decide (y<x))∧E 28=.bool (!y41)∧E 32=.slice A51 y49.length c53∧E 33=iv (y49.length:Int)∧E 34=iv G∧I64 G∧Cx I O0 w wv [.box f 60 [.slice j c.length l,.slice o d.length p,iv u],.ro (.sl si) [.slice j c.length l] c,.ro (.sl si) [.slice o d.length p] d,.own 22 (.sl si) (.slice B z.length C) z,.own 4 .bool (.slice (some ad34) (((List.replicate x.toNat false)).length) c10) H,.own 3 si (.slice A51 y49.length c53) y49]∧((lim (z.length+([y49]:List (List Int)).length)).bind fun u95=>(chk (y+1)).bind fun z102=>some (.inl ((z++([y49]:List (List Int))),z102,H)):Option (((List (List Int))×Int×(List Bool))⊕(((List (List Int))×Int×(List Bool)))))=some o24) (fun _ hK61=>?_) ?_
 refine Wc.block ?_
 refine Wc.loop (fun m E wv=> ∃(G:Int) (H:List Bool),E 1=.func (.func 71) #[] #[pg f]∧E 2=.func (.func 73) #[] #[pg f]∧E 6=.slice none 0 0∧E 7=.slice B z.length C∧E 8=.slice (some ad34) (((List.replicate x.toNat false)).length) c10∧E 9=iv y∧E 10=.slice A51 y49.length c53∧E 15=iv x∧E 16=iv y∧E 17=.bool (decide (y<x))∧E 28=.bool (!y41)∧E 32=.slice A51 y49.length c53∧E 33=iv (y49.length:Int)∧E 34=iv G∧I64 G∧Cx I O0 w wv [.box f 60 [.slice j c.length l,.slice o d.length p,iv u],.ro (.sl si) [.slice j c.length l] c,.ro (.sl si) [.slice o d.length p] d,.own 22 (.sl si) (.slice B z.length C) z,.own 4 .bool (.slice (some ad34) (((List.replicate x.toNat false)).length) c10) H,.own 3 si (.slice A51 y49.length c53) y49]∧loopN m (F.qav n y49) (G,H)=some o60) n ⟨0,D,e1,e2,e6,e7,e8,e9,rfl,e15,e16,e17,e28,rfl,rfl,rfl,(show I64 0 from by unfold I64; omega),hC.sE [1,2,3,4,5,0],hl1⟩ ?_
 have hbK1:=hb
 clear hb hC hl1
 rintro m63 E65 w64 ⟨G,H,e1,e2,e6,e7,e8,e9,e10,e15,e16,e17,e28,e32,e33,e34,R,hC,hl1⟩ K62 hK62
 obtain ⟨m63',o66,rfl,hb,hl1⟩:=qam hl1
 unfold F.qav at hb
 refine Wc.seq fun _ hK67=>rg<|lp _ (qau e34 e33)<|ln (hK67 _ _ ?_)
 refine Wc.seq fun _ hK68=>?_
 refine Wc.cond (t:=(decide (G<(y49.length:Int)))) (rfl) (fun hq69=>?_) (fun hq69=>?_)
 replace hb:=tt hq69 hb
 refine Wc.skip (hK68 _ _ ?_)
 refine Wc.seq fun _ hK70=>?_
 refine Wc.block<|Wc.seq fun _ hK71=>rg ?_
 obtain ⟨x72,h73,hb⟩:=bd hb
 obtain ⟨ad74,cs75,hA,hc76,hr77⟩:=hC.elo (i:=5) rfl (qac h73).2
 subst hA
 refine lp (.pointer (some (ad74.add (G.toNat*1)))) (qag (a:=G) underlying22 sizeOf3 e32 e34 (qac h73).1) ?_
 obtain ⟨rfl,hr77'⟩:=hr77
 refine lv (iv x72) (qah isAgg3 rfl (hc76 0 _ rfl))<|lp (iv x72) (qab rfl)<|ln (hK71 _ _ ?_)
 refine rg<|lp _ (qaa e8)<|lp (iv x72) (qaa rfl) ?_
 obtain ⟨x78,h79,hb⟩:=bd hb
 obtain ⟨ad80,cs81,hA,hc82,hr83⟩:=hC.elo (i:=4) rfl (qac h79).2
 obtain rfl:=Option.some.inj hA
 refine lp (.pointer (some (ad34.add (x72.toNat*1)))) (qag (a:=x72) underlying102 sizeOf4 rfl rfl (by rw [(hC.ow (i:=4) rfl).qaf.1]; exact (qac h79).1))<|lex.sk (hC.put (i:=4) rfl rfl sizeOf4 (k:=x72.toNat) (a:=true) (by have:=(qac h79).1; simp at this⊢; omega) (show Rep _ _ .bool _ _ from rfl) rfl rfl rfl) ?_
 rintro w84 ⟨hC,hF⟩
 refine ln (hK70 _ _ ?_)
 refine rg ?_
 obtain ⟨z85,h86,hb⟩:=bd hb
 refine lp (iv z85) (qak (a:=G) (b:=1) e34 rfl h86)<|lp (iv z85) (qaa rfl)<|ln ?_
 obtain rfl:=os hb
 exact hK62 m63' _ _ (Nat.lt_succ_self _) ⟨z85,(H.set x72.toNat true),e1,e2,e6,e7,e8,e9,e10,e15,e16,e17,e28,e32,e33,rfl,(qai h86),hC.sE [0,1,2,3,4,5],lN hl1⟩
 replace hb:=tf hq69 hb
 refine Wc.exit rfl ?_
 obtain rfl:=os hb
 obtain rfl:=(lX hl1).symm
 exact hK61 _ _ ⟨G,H,e1,e2,e6,e7,e8,e9,e10,e15,e16,e17,e28,e32,e33,e34,R,hC.sE [0,1,2,3,4,5],hbK1⟩
 clear hb hC hl1
 rintro E88 w87 ⟨G,H,e1,e2,e6,e7,e8,e9,e10,e15,e16,e17,e28,e32,e33,e34,R,hC,hb⟩
 refine hK58 _ _<|rg<|lp _ (qaa e7)<|lp _ (qaa e10) ?_
 replace hC:=hC.freeze (i:=5) rfl (hC.own_newI hI (i:=5) rfl (List.forall_mem_cons.2 ⟨fun g hg=>⟨0,_,rfl,by decide,hg⟩,fun _ h=>absurd h List.not_mem_nil⟩))
 refine lex.op (hC.lit (s:=(.sl si)) (vs:=[.slice A51 y49.length c53]) (xs:=[y49]) underlying41 type22 rfl rfl (nb rfl) rfl rfl (by simp [Value.cells,Sh.n]) rfl (show Elems _ _ (.sl si) ([.slice A51 y49.length c53]++([])) ([y49]:List (List Int)) from Elems.cons (hC.rd (i:=5) rfl) (Elems.nil _ _ _))) ?_
 rintro _ w93 ⟨A89,c90,rfl,hl91,hc92,hC,-,-⟩
 obtain ⟨u95,h96,hb⟩:=bd hb
 refine lex.op (hC.app (i:=4) (s:=(.sl si)) (xs:=z) (ys:=([y49]:List (List Int))) (m:=((([y49]:List (List Int))).length)) rfl underlying41 underlying41 type22 rfl rfl rfl (hC.srco (i:=0) rfl) rfl rfl (by have:=qbn h96; simp at this⊢ <;>omega) (by decide)) ?_
 rintro _ w101 ⟨A97,c98,rfl,hl99,hc100,hC,-,-⟩
 refine lp (.slice A97 ((z++([y49]:List (List Int))).length) c98) (qab rfl)<|ln (hK28 _ _ ?_)
 refine rg ?_
 obtain ⟨z102,h103,hb⟩:=bd hb
 refine lp (iv z102) (qak (a:=y) (b:=1) e16 rfl h103)<|lp (iv z102) (qaa rfl)<|ln ?_
 obtain rfl:=os hb
 exact hK20 m21' _ _ (Nat.lt_succ_self _) ⟨(z++([y49]:List (List Int))),z102,H,A97,(z++([y49]:List (List Int))).length,c98,e1,e2,e6,rfl,e8,e15,rfl,(qai h103),hC.sE [1,2,3,4,5],lN hl0⟩
 replace hb:=tf hq27 hb
 refine Wc.exit rfl ?_
 obtain rfl:=os hb
 obtain rfl:=(lX hl0).symm
 exact hK19 _ _ ⟨z,y,D,B,z.length,C,e6,e7,Q,hC.sE [3,0,1,2],hbK0⟩
 clear hb hC hl0
 rintro E105 w104 ⟨z,y,D,B,L,C,e6,e7,Q,hC,hb⟩
 obtain ⟨rfl,X,Y⟩:=(hC.ow (i:=0) rfl).qaf
 refine hK15 _ _<|Wc.seq fun _ hK106=>rg<|lp _ (qaa e7)<|lp (.slice B z.length C) (qab rfl)<|ln (hK106 _ _ ?_)
 obtain rfl:=os hb
 subst hI
 refine Wc.ret (hKR _ _ ?_)
 refine ⟨_,res1 results72 (tV (.slice B z.length C) rfl),_,rfl,B,z.length,C,rfl,hC.sE [0,1]⟩

theorem diagram_Strands_ok (n:Nat) {w:World} {O0:List Nat} (hO: ∀k∈O0,k<w.heap.size) {d:Option Addr} {j f:Nat} {g:List Int} (l:Rep O0 w (.sl si) [.slice d j f] g) {b:Option Addr} {o c:Nat} {a:List Int} (p:Rep O0 w (.sl si) [.slice b o c] a) {h:Int} (s:I64 h) {r:(List (List Int))} (hb:F.qfu n g a h=some r):
    Calls prog 53 #[.agg #[.slice d j f,.slice b o c,iv h]] w fun e w'=> ∃v,e=.returned v∧∃(A0:Option Addr) (m0 c0:Nat),v=.slice A0 m0 c0∧Cx (fun _=>False) O0 w w' [.own 22 (.sl si) (.slice A0 m0 c0) r]:=by
 unfold F.qfu at hb
 have hC:=Cx.start hO
 replace hC:=hC.arg rfl l
 replace hC:=hC.arg rfl p
 clear hO
 obtain ⟨rfl,y,z⟩:=l.qaf
 obtain ⟨rfl,u,x⟩:=p.qaf
 refine qao func53 rfl (by rw [ntmps53]; exact nb rfl) fun KR hKR=>?_
 refine Wc.seq fun _ hK3=>rg<|lex.op (hC.box (cs:=[.slice d g.length f,.slice b a.length c,iv h]) rfl rfl) ?_
 rintro _ w5 ⟨g4,rfl,hC,hF,-⟩
 refine lp (.slice none 0 0) (qab rfl)<|ln (hK3 _ _ ?_)
 refine Wc.seq fun _ hK7=>?_
 refine Wc.seq fun _ hK8=>rg<|lv (.agg #[.slice d g.length f,.slice b a.length c,iv h]) (qbm (hC.bx (i:=0) rfl) isAgg60 sizeOf60 rfl) ?_
 obtain ⟨y9,h10,hb⟩:=bd hb
 refine lex.cl (⟨_,_,qas (vs:=[.agg #[.slice d g.length f,.slice b a.length c,iv h]]) call51 rfl rfl rfl,diagram_Valid_ok n hC.lt (hC.rd (i:=2) rfl) (hC.rd (i:=1) rfl) s h10⟩) ?_
 rintro _ w11 ⟨rfl,hK⟩
 replace hC:=hC.merge hK
 clear hK
 refine lp (.bool (!y9)) (qcd (q:=y9) rfl)<|ln (hK8 _ _ ?_)
 refine Wc.cond (t:=(!y9)) (rfl) (fun hq12=>?_) (fun hq12=>?_)
 replace hb:=tt hq12 hb
 refine Wc.seq fun _ hK13=>rg<|lp (.slice none 0 0) (qab rfl)<|ln (hK13 _ _ ?_)
 replace hC:=hC.nil 22 (.sl si)
 obtain rfl:=os hb
 refine Wc.ret (hKR _ _ ?_)
 refine ⟨_,res1 results53 (tV (.slice none 0 0) rfl),_,rfl,none,0,0,rfl,hC.sE [0]⟩
 replace hb:=tf hq12 hb
 refine Wc.skip (hK7 _ _ ?_)
 refine Wc.seq fun _ hK15=>rg<|lp (.func (.func 71) #[] #[pg g4]) (qga rfl)<|lp (.func (.func 71) #[] #[pg g4]) (qab rfl)<|ln (hK15 _ _ ?_)
 refine Wc.seq fun _ hK16=>rg<|lp (.pointer (some ((⟨g4,0,none⟩:Addr).add 1))) (qal (sz:=1) underlying60 rfl sizeOf22 (by decide) rfl rfl)<|lv (.slice b a.length c) (qar (hC.bx (i:=0) rfl) isAgg22 rfl rfl)<|lp (iv (a.length:Int)) (qan (A:=b) (n:=a.length) (m:=c) underlying22 rfl)<|lp (.func (.func 71) #[] #[pg g4]) (qaa rfl)<|lp (.func (.func 73) #[] #[pg g4]) (qga rfl) ?_
 replace hC:Cx (fun _=>False) O0 w w11 ([.box g4 60 [.slice d g.length f,.slice b a.length c,iv h]]++[.ro (.sl si) [.slice b a.length c] a,.ro (.sl si) [.slice d g.length f] g]):=hC.sE [0,1,2]
 obtain ⟨y17,h18,hb⟩:=bd hb
 refine lex.cl (⟨_,_,qas (vs:=[iv (a.length:Int),.func (.func 71) #[] #[pg g4],.func (.func 73) #[] #[pg g4]]) call72 rfl rfl rfl,qek n hC.lt (I64.len u x) (hC.rd (i:=2) rfl) (hC.rd (i:=1) rfl) s hC.give h18⟩) ?_
 rintro _ w23 ⟨A19,m20,c21,rfl,hK⟩
 replace hC:=hC.back hK
 clear hK
 obtain ⟨rfl,hl24,hc25⟩:=(hC.ow (i:=0) rfl).qaf
 refine lp (.slice A19 y17.length c21) (qab rfl)<|ln (hK16 _ _ ?_)
 obtain rfl:=os hb
 refine Wc.ret (hKR _ _ ?_)
 refine ⟨_,res1 results53 (tV (.slice A19 y17.length c21) rfl),_,rfl,A19,y17.length,c21,rfl,hC.sE [0]⟩

theorem wirtinger_Valid_ok (n:Nat) {w:World} {O0:List Nat} (hO: ∀k∈O0,k<w.heap.size) {c:Int} (C:I64 c) {g:Option Addr} {x h:Nat} {d:List Int} (y:Rep O0 w (.sl si) [.slice g x h] d) {j:Option Addr} {z l:Nat} {f:List (List Int)} (B:Rep O0 w (.sl (.sl si)) [.slice j z l] f) {r:Bool} (hb:F.qdv n c d f=some r):
    Calls prog 75 #[.agg #[iv c,.slice g x h,.slice j z l]] w fun e w'=> ∃v,e=.returned v∧v=.bool r∧Cx (fun _=>False) O0 w w' []:=by
 unfold F.qdv at hb
 have hC:=Cx.start hO
 replace hC:=hC.arg rfl y
 replace hC:=hC.arg rfl B
 clear hO
 obtain ⟨rfl,D,G⟩:=y.qaf
 obtain ⟨rfl,H,J⟩:=B.qaf
 refine qao func75 rfl (by rw [ntmps75]; exact nb rfl) fun KR hKR=>?_
 refine Wc.seq fun _ hK3=>rg<|lex.op (hC.box (cs:=[iv c,.slice g d.length h,.slice j f.length l]) rfl rfl) ?_
 rintro _ w5 ⟨g4,rfl,hC,hF,-⟩
 refine lp (.bool false) (qab rfl)<|ln (hK3 _ _ ?_)
 refine Wc.seq fun _ hK7=>?_
 refine Wc.seq fun _ hK8=>rg<|lp (.pointer (some ((⟨g4,0,none⟩:Addr).add 0))) (qal (sz:=1) underlying48 rfl sizeOf3 (by decide) rfl rfl)<|lv (iv c) (qar (hC.bx (i:=0) rfl) isAgg3 rfl rfl)<|lp (.bool (decide (c<0))) (qau (k:=.i64) (a:=c) (b:=0) rfl rfl)<|lp (.bool (decide (c<0))) (qaa rfl) ?_
 rcases bS (decide (c<0)) with hq9 | hq9
 replace hb:=tt hq9 hb
 refine gs rfl rfl (decide (c<0)) rfl hq9<|gs rfl rfl (decide (c<0)) rfl hq9<|gs rfl rfl (decide (c<0)) rfl hq9<|lp (.bool true) (qap (q:=(decide (c<0))) rfl hq9 rfl)<|lp (.bool true) (qaa rfl)<|gs rfl rfl true rfl rfl<|gs rfl rfl true rfl rfl<|gs rfl rfl true rfl rfl<|gs rfl rfl true rfl rfl<|gs rfl rfl true rfl rfl<|gs rfl rfl true rfl rfl<|lp (.bool true) (qap (q:=true) rfl rfl rfl)<|ln (hK8 _ _ ?_)
 refine Wc.cond_true (rfl) ?_
 refine Wc.seq fun _ hK10=>rg<|lp (.bool false) (qab rfl)<|ln (hK10 _ _ ?_)
 obtain rfl:=os hb
 refine Wc.ret (hKR _ _ ?_)
 refine ⟨_,res1 results75 (tV (.bool false) rfl),_,rfl,rfl,hC.sE []⟩
 replace hb:=tf hq9 hb
 refine gp rfl rfl (decide (c<0)) rfl hq9 (.pointer (some ((⟨g4,0,none⟩:Addr).add 0))) (qal (sz:=1) underlying48 rfl sizeOf3 (by decide) rfl rfl)<|gv rfl rfl (decide (c<0)) rfl hq9 (iv c) (qar (hC.bx (i:=0) rfl) isAgg3 rfl rfl)<|gp rfl rfl (decide (c<0)) rfl hq9 (.bool (decide (1000<c))) (qbi (k:=.i64) (a:=c) (b:=1000) rfl rfl)<|lp (.bool (decide (1000<c))) (qat (q:=(decide (c<0))) rfl hq9 rfl)<|lp (.bool (decide (1000<c))) (qaa rfl) ?_
 rcases bS (decide (1000<c)) with hq11 | hq11
 replace hb:=tt hq11 hb
 refine gs rfl rfl (decide (1000<c)) rfl hq11<|gs rfl rfl (decide (1000<c)) rfl hq11<|gs rfl rfl (decide (1000<c)) rfl hq11<|gs rfl rfl (decide (1000<c)) rfl hq11<|gs rfl rfl (decide (1000<c)) rfl hq11<|gs rfl rfl (decide (1000<c)) rfl hq11<|lp (.bool true) (qap (q:=(decide (1000<c))) rfl hq11 rfl)<|ln (hK8 _ _ ?_)
 refine Wc.cond_true (rfl) ?_
 refine Wc.seq fun _ hK12=>rg<|lp (.bool false) (qab rfl)<|ln (hK12 _ _ ?_)
 obtain rfl:=os hb
 refine Wc.ret (hKR _ _ ?_)
 refine ⟨_,res1 results75 (tV (.bool false) rfl),_,rfl,rfl,hC.sE []⟩
 replace hb:=tf hq11 hb
 refine gp rfl rfl (decide (1000<c)) rfl hq11 (.pointer (some ((⟨g4,0,none⟩:Addr).add 1))) (qal (sz:=1) underlying48 rfl sizeOf22 (by decide) rfl rfl)<|gv rfl rfl (decide (1000<c)) rfl hq11 (.slice g d.length h) (qar (hC.bx (i:=0) rfl) isAgg22 rfl rfl)<|gp rfl rfl (decide (1000<c)) rfl hq11 (iv (d.length:Int)) (qan (A:=g) (n:=d.length) (m:=h) underlying22 rfl)<|gp rfl rfl (decide (1000<c)) rfl hq11 (.pointer (some ((⟨g4,0,none⟩:Addr).add 0))) (qal (sz:=1) underlying48 rfl sizeOf3 (by decide) rfl rfl)<|gv rfl rfl (decide (1000<c)) rfl hq11 (iv c) (qar (hC.bx (i:=0) rfl) isAgg3 rfl rfl)<|gp rfl rfl (decide (1000<c)) rfl hq11 (.bool (!(decide ((d.length:Int)=c)))) (qbv (k:=.i64) (a:=(d.length:Int)) (b:=c) rfl rfl)<|lp (.bool (!(decide ((d.length:Int)=c)))) (qat (q:=(decide (1000<c))) rfl hq11 rfl)<|ln (hK8 _ _ ?_)
 refine Wc.cond (t:=(!(decide ((d.length:Int)=c)))) (rfl) (fun hq13=>?_) (fun hq13=>?_)
 replace hb:=tt hq13 hb
 refine Wc.seq fun _ hK14=>rg<|lp (.bool false) (qab rfl)<|ln (hK14 _ _ ?_)
 obtain rfl:=os hb
 refine Wc.ret (hKR _ _ ?_)
 refine ⟨_,res1 results75 (tV (.bool false) rfl),_,rfl,rfl,hC.sE []⟩
 replace hb:=tf hq13 hb
 refine Wc.skip (hK7 _ _ ?_)
 refine Wc.fresh fun E15 hE=>?_
 have e1:E15 1=pg g4:=cg hE 1 rfl
 have e2:E15 2=.bool false:=cg hE 2 rfl
 clear hE
 refine Wc.seq fun _ hK16=>?_
 refine Wc.seq fun _ hK17=>rg<|lp (.pointer (some ((⟨g4,0,none⟩:Addr).add 1))) (qal (sz:=1) underlying48 rfl sizeOf22 (by decide) rfl e1)<|lv (.slice g d.length h) (qar (hC.bx (i:=0) rfl) isAgg22 rfl rfl)<|lp (iv (d.length:Int)) (qan (A:=g) (n:=d.length) (m:=h) underlying22 rfl)<|lp (iv 0) (qaa rfl)<|ln (hK17 _ _ ?_)
 obtain ⟨o18,hl0,hb⟩:=bd hb
 refine Wc.cut (fun E wv=> ∃(p:Int),E 1=pg g4∧E 2=.bool false∧I64 p∧Cx (fun _=>False) O0 w wv [.box g4 48 [iv c,.slice g d.length h,.slice j f.length l],.ro (.sl si) [.slice g d.length h] d,.ro (.sl (.sl si)) [.slice j f.length l] f]∧(((loopN n (F.qch n c f) 0).bind fun o47=>match o47 with | (.inl o)=>some true | (.inr q)=>some q):Option (Bool))=some r) (fun _ hK19=>?_) ?_
 refine Wc.block ?_
 refine Wc.loop (fun m E wv=> ∃(p:Int),E 1=pg g4∧E 2=.bool false∧E 24=.slice g d.length h∧E 25=iv (d.length:Int)∧E 26=iv p∧I64 p∧Cx (fun _=>False) O0 w wv [.box g4 48 [iv c,.slice g d.length h,.slice j f.length l],.ro (.sl si) [.slice g d.length h] d,.ro (.sl (.sl si)) [.slice j f.length l] f]∧loopN m (F.qdk n c d) p=some o18) n ⟨0,e1,e2,rfl,rfl,rfl,(show I64 0 from by unfold I64; omega),hC.sE [0,2,1],hl0⟩ ?_
 have hbK0:=hb
 clear hb hC hl0
 rintro m21 E23 w22 ⟨p,e1,e2,e24,e25,e26,s,hC,hl0⟩ K20 hK20
 obtain ⟨m21',o24,rfl,hb,hl0⟩:=qam hl0
 unfold F.qdk at hb
 refine Wc.seq fun _ hK25=>rg<|lp _ (qau e26 e25)<|ln (hK25 _ _ ?_)
 refine Wc.seq fun _ hK26=>?_
 refine Wc.cond (t:=(decide (p<(d.length:Int)))) (rfl) (fun hq27=>?_) (fun hq27=>?_)
 replace hb:=tt hq27 hb
 refine Wc.skip (hK26 _ _ ?_)
 refine Wc.seq fun _ hK28=>?_
 refine Wc.block<|Wc.seq fun _ hK29=>rg ?_
 obtain ⟨x30,h31,hb⟩:=bd hb
 obtain ⟨ad32,cs33,hA,hc34,hr35⟩:=hC.elr (i:=1) rfl (qac h31).2
 subst hA
 refine lp (.pointer (some (ad32.add (p.toNat*1)))) (qag (a:=p) underlying22 sizeOf3 e24 e26 (qac h31).1) ?_
 obtain ⟨rfl,hr35'⟩:=hr35
 refine lv (iv x30) (qah isAgg3 rfl (hc34 0 _ rfl))<|lp (iv x30) (qab rfl)<|ln (hK29 _ _ ?_)
 refine Wc.seq fun _ hK36=>rg<|lp (iv x30) (qaa rfl)<|lp (.bool (decide (x30<0))) (qau (k:=.i64) (a:=x30) (b:=0) rfl rfl)<|lp (.bool (decide (x30<0))) (qaa rfl) ?_
 rcases bS (decide (x30<0)) with hq37 | hq37
 replace hb:=tt hq37 hb
 refine gs rfl rfl (decide (x30<0)) rfl hq37<|gs rfl rfl (decide (x30<0)) rfl hq37<|gs rfl rfl (decide (x30<0)) rfl hq37<|gs rfl rfl (decide (x30<0)) rfl hq37<|lp (.bool true) (qap (q:=(decide (x30<0))) rfl hq37 rfl)<|ln (hK36 _ _ ?_)
 refine Wc.cond_true (rfl) ?_
 refine Wc.seq fun _ hK38=>rg<|lp (.bool false) (qab rfl)<|ln (hK38 _ _ ?_)
 obtain rfl:=os hb
 obtain rfl:=(lX hl0).symm
 replace hb:=hbK0
 obtain rfl:=os hb
 refine Wc.ret (hKR _ _ ?_)
 refine ⟨_,res1 results75 (tV (.bool false) rfl),_,rfl,rfl,hC.sE []⟩
 replace hb:=tf hq37 hb
 refine gp rfl rfl (decide (x30<0)) rfl hq37 (iv x30) (qaa rfl)<|gp rfl rfl (decide (x30<0)) rfl hq37 (.pointer (some ((⟨g4,0,none⟩:Addr).add 0))) (qal (sz:=1) underlying48 rfl sizeOf3 (by decide) rfl e1)<|gv rfl rfl (decide (x30<0)) rfl hq37 (iv c) (qar (hC.bx (i:=0) rfl) isAgg3 rfl rfl)<|gp rfl rfl (decide (x30<0)) rfl hq37 (.bool (decide (c≤x30))) (pu_geq (k:=.i64) (a:=x30) (b:=c) rfl rfl)<|lp (.bool (decide (c≤x30))) (qat (q:=(decide (x30<0))) rfl hq37 rfl)<|ln (hK36 _ _ ?_)
 refine Wc.cond (t:=(decide (c≤x30))) (rfl) (fun hq39=>?_) (fun hq39=>?_)
 replace hb:=tt hq39 hb
 refine Wc.seq fun _ hK40=>rg<|lp (.bool false) (qab rfl)<|ln (hK40 _ _ ?_)
 obtain rfl:=os hb
 obtain rfl:=(lX hl0).symm
 replace hb:=hbK0
 obtain rfl:=os hb
 refine Wc.ret (hKR _ _ ?_)
 refine ⟨_,res1 results75 (tV (.bool false) rfl),_,rfl,rfl,hC.sE []⟩
 replace hb:=tf hq39 hb
 refine Wc.skip (hK28 _ _ ?_)
 refine rg ?_
 obtain ⟨z41,h42,hb⟩:=bd hb
 refine lp (iv z41) (qak (a:=p) (b:=1) e26 rfl h42)<|lp (iv z41) (qaa rfl)<|ln ?_
 obtain rfl:=os hb
 exact hK20 m21' _ _ (Nat.lt_succ_self _) ⟨z41,e1,e2,e24,e25,rfl,(qai h42),hC.sE [0,1,2],lN hl0⟩
 replace hb:=tf hq27 hb
 refine Wc.exit rfl ?_
 obtain rfl:=os hb
 obtain rfl:=(lX hl0).symm
 exact hK19 _ _ ⟨p,e1,e2,s,hC.sE [0,1,2],hbK0⟩
 clear hb hC hl0
 rintro E44 w43 ⟨p,e1,e2,s,hC,hb⟩
 refine hK16 _ _ ?_
 refine Wc.seq fun _ hK45=>?_
 refine Wc.seq fun _ hK46=>rg<|lp (.pointer (some ((⟨g4,0,none⟩:Addr).add 2))) (qal (sz:=1) underlying48 rfl sizeOf37 (by decide) rfl e1)<|lv (.slice j f.length l) (qar (hC.bx (i:=0) rfl) isAgg37 rfl rfl)<|lp (iv (f.length:Int)) (qan (A:=j) (n:=f.length) (m:=l) underlying37 rfl)<|lp (iv 0) (qaa rfl)<|ln (hK46 _ _ ?_)
 obtain ⟨o47,hl1,hb⟩:=bd hb
 refine Wc.cut (fun E wv=> ∃(o:Int),E 2=.bool false∧I64 o∧Cx (fun _=>False) O0 w wv []∧(some true:Option (Bool))=some r) (fun _ hK48=>?_) ?_
 refine Wc.block ?_
 refine Wc.loop (fun m E wv=> ∃(o:Int),E 1=pg g4∧E 2=.bool false∧E 40=.slice j f.length l∧E 41=iv (f.length:Int)∧E 42=iv o∧I64 o∧Cx (fun _=>False) O0 w wv [.box g4 48 [iv c,.slice g d.length h,.slice j f.length l],.ro (.sl si) [.slice g d.length h] d,.ro (.sl (.sl si)) [.slice j f.length l] f]∧loopN m (F.qch n c f) o=some o47) n ⟨0,e1,e2,rfl,rfl,rfl,(show I64 0 from by unfold I64; omega),hC.sE [0,1,2],hl1⟩ ?_
 have hbK1:=hb
 clear hb hC hl1
 rintro m50 E52 w51 ⟨o,e1,e2,e40,e41,e42,u,hC,hl1⟩ K49 hK49
 obtain ⟨m50',o53,rfl,hb,hl1⟩:=qam hl1
 unfold F.qch at hb
 refine Wc.seq fun _ hK54=>rg<|lp _ (qau e42 e41)<|ln (hK54 _ _ ?_)
 refine Wc.seq fun _ hK55=>?_
 refine Wc.cond (t:=(decide (o<(f.length:Int)))) (rfl) (fun hq56=>?_) (fun hq56=>?_)
 replace hb:=tt hq56 hb
 refine Wc.skip (hK55 _ _ ?_)
 refine Wc.seq fun _ hK57=>?_
 refine Wc.block<|Wc.seq fun _ hK58=>rg ?_
 obtain ⟨x59,h60,hb⟩:=bd hb
 obtain ⟨ad61,cs62,hA,hc63,hr64⟩:=hC.elr (i:=2) rfl (qac h60).2
 subst hA
 refine lp (.pointer (some (ad61.add (o.toNat*1)))) (qag (a:=o) underlying37 sizeOf27 e40 e42 (qac h60).1) ?_
 have hR:=hr64
 obtain ⟨A65,c66,rfl,hl67,hc68,_⟩:=hr64
 replace hC:=hC.ro hR
 clear hR
 refine lv (.slice A65 x59.length c66) (qah isAgg27 rfl (hc63 0 _ rfl))<|lp (.slice A65 x59.length c66) (qab rfl)<|ln (hK58 _ _ ?_)
 refine Wc.seq fun _ hK70=>rg<|lp (.slice A65 x59.length c66) (qaa rfl)<|lp (.pointer (some ((⟨g4,0,none⟩:Addr).add 0))) (qal (sz:=1) underlying48 rfl sizeOf3 (by decide) rfl e1)<|lv (iv c) (qar (hC.bx (i:=1) rfl) isAgg3 rfl rfl) ?_
 obtain ⟨y71,h72,hb⟩:=bd hb
 refine lex.cl (⟨_,_,qas (vs:=[.slice A65 x59.length c66,iv c]) call32 rfl rfl rfl,word_Valid_ok n hC.lt (hC.rd (i:=0) rfl) C h72⟩) ?_
 rintro _ w73 ⟨rfl,hK⟩
 replace hC:=hC.merge hK
 clear hK
 refine lp (.bool (!y71)) (qcd (q:=y71) rfl)<|ln (hK70 _ _ ?_)
 refine Wc.cond (t:=(!y71)) (rfl) (fun hq74=>?_) (fun hq74=>?_)
 replace hb:=tt hq74 hb
 refine Wc.seq fun _ hK75=>rg<|lp (.bool false) (qab rfl)<|ln (hK75 _ _ ?_)
 obtain rfl:=os hb
 obtain rfl:=(lX hl1).symm
 replace hb:=hbK1
 obtain rfl:=os hb
 refine Wc.ret (hKR _ _ ?_)
 refine ⟨_,res1 results75 (tV (.bool false) rfl),_,rfl,rfl,hC.sE []⟩
 replace hb:=tf hq74 hb
 refine Wc.skip (hK57 _ _ ?_)
 refine rg ?_
 obtain ⟨z76,h77,hb⟩:=bd hb
 refine lp (iv z76) (qak (a:=o) (b:=1) e42 rfl h77)<|lp (iv z76) (qaa rfl)<|ln ?_
 obtain rfl:=os hb
 exact hK49 m50' _ _ (Nat.lt_succ_self _) ⟨z76,e1,e2,e40,e41,rfl,(qai h77),hC.sE [1,2,3],lN hl1⟩
 replace hb:=tf hq56 hb
 refine Wc.exit rfl ?_
 obtain rfl:=os hb
 obtain rfl:=(lX hl1).symm
 exact hK48 _ _ ⟨o,e2,u,hC.sE [],hbK1⟩
 clear hb hC hl1
 rintro E79 w78 ⟨o,e2,u,hC,hb⟩
 refine hK45 _ _<|Wc.seq fun _ hK80=>rg<|lp (.bool true) (qab rfl)<|ln (hK80 _ _ ?_)
 obtain rfl:=os hb
 refine Wc.ret (hKR _ _ ?_)
 refine ⟨_,res1 results75 (tV (.bool true) rfl),_,rfl,rfl,hC.sE []⟩
