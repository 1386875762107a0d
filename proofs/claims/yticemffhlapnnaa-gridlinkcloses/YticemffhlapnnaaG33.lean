import Derived.Test.YticemffhlapnnaaS
set_option linter.all false
namespace Go.Proofs.Yticemffhlapnnaa
open Ev Try
set_option maxRecDepth 100000
set_option maxHeartbeats 4000000
theorem braid_generator_ok (n:Nat) {w:World} {O0:List Nat} (hO: ∀k∈O0,k<w.heap.size) {c:Int} (d:I64 c) {r:Int} (hb:F.qfr n c=some r):
    Calls prog 66 #[iv c] w fun e w'=> ∃v,e=.returned v∧v=iv r∧I64 r∧Cx (fun _=>False) O0 w w' []:=by
 unfold F.qfr at hb
 have hC:=Cx.start hO
 clear hO
 refine qaq func66 rfl (by rw [ntmps66]; exact nb rfl) fun KR hKR=>?_
 refine Wc.seq fun _ hK1=>rg<|lp (iv 0) (qab rfl)<|ln (hK1 _ _ ?_)
 refine Wc.seq fun _ hK2=>rg<|lp (iv c) (qaa rfl)<|lp (iv c) (qaa rfl) ?_
 obtain ⟨z3,h4,hb⟩:=bd hb
 refine lp (iv z3) (pu_negc (a:=c) rfl h4)<|lp (iv (max c z3)) (pu_max (a:=c) (b:=z3) rfl rfl)<|lp (iv (max c z3)) (qab rfl)<|ln (hK2 _ _ ?_)
 obtain rfl:=os hb
 refine Wc.ret (hKR _ _ ?_)
 refine ⟨_,res1 results66 (tV (iv (max c z3)) rfl),_,rfl,rfl,(I64.max d (qai h4)),hC.sE []⟩

theorem braid_Closure_c1_ok (n:Nat) {w:World} {O0:List Nat} (hO: ∀k∈O0,k<w.heap.size) {f:Int} (t:I64 f) {l:Int} (u:I64 l) {o:Nat} {g:Option Addr} {q h:Nat} {p:List Int} (s:Rep O0 w (.sl si) [.slice g q h] p) {b:Option Addr} {j c:Nat} {d:List Int} {m:Int} (B:I64 m) (hio:Tk O0 w [.own 3 si (.slice b j c) d,.box o 28 [.slice g q h,.slice b j c,iv m]]) {r:(List Int)} (hb:F.qet n f l p d m=some r):
    Calls prog 64 #[iv f,iv l,pg o] w fun e w'=> ∃v,e=.returned v∧v=.tuple #[]∧Cx (fun k=>k∈blocks [.own 3 si (.slice b j c) d,.box o 28 [.slice g q h,.slice b j c,iv m]]) O0 w w' [.own 3 si (.slice b j c) r,.box o 28 [.slice g q h,.slice b j c,iv m]]:=by
 unfold F.qet at hb
 have hC:=Cx.startTk hO hio
 have hsub:=hio.2.2
 replace hC:=hC.argTk (by first | exact hsub | exact fun k hk=>hsub k (by simpa [blocks,Fact.blk] using hk)) s
 clear hO
 obtain ⟨rfl,x,y⟩:=s.qad
 obtain ⟨rfl,z,A⟩:=(hC.ow (i:=1) rfl).qad
 clear hio hsub
 obtain ⟨I,hI,hC⟩: ∃I:Nat→Prop,I=(fun k=>k∈blocks [.own 3 si (.slice b d.length c) d,.box o 28 [.slice g p.length h,.slice b d.length c,iv m]])∧Cx I O0 w w ([.ro (.sl si) [.slice g p.length h] p,.own 3 si (.slice b d.length c) d,.box o 28 [.slice g p.length h,.slice b d.length c,iv m]]):=⟨_,rfl,hC⟩
 refine qaq func64 rfl (by rw [ntmps64]; exact nb rfl) fun KR hKR=>?_
 refine Wc.regionMix [6,9] (frm [6,9] ([]:List Fact) [.own 3 si (.slice b d.length c) d]) (fun _=>rfl) mixed (by decide+kernel) (by decide+kernel) fun w5 hw4=>?_
 replace hC:=hC.step (Fr.qbb hw4)
 have hM:=Fr.refl (fun k=>k∈blocks ([]:List Fact)) w5
 clear hw4
 have hS:=hC
 have hD:Fr (fun k=>k∈blocks (([]:List Fact)++[.own 3 si (.slice b d.length c) d])) w5 w5:=hM.wide
 have hUf3:Beside (([]:List Fact)++[.own 3 si (.slice b d.length c) d]) w5 (.slice b d.length c):=Beside.of (i:=0) rfl
 refine mp (.pointer (some ((⟨o,0,none⟩:Addr).add 1))) (qag (sz:=1) underlying28 rfl sizeOf22 (by decide) rfl rfl)<|mixE.steady hD (v:=.slice b d.length c) (fun _ hF=>qam (hS.bx2 (i:=2) rfl [1] (by decide) hF) isAgg22 rfl rfl)<|mp (iv f) (qaa rfl)<|mp (.pointer (some ((⟨o,0,none⟩:Addr).add 1))) (qag (sz:=1) underlying28 rfl sizeOf22 (by decide) rfl rfl)<|mixE.steady hD (v:=.slice b d.length c) (fun _ hF=>qam (hS.bx2 (i:=2) rfl [1] (by decide) hF) isAgg22 rfl rfl)<|mp (iv l) (qaa rfl)<|mp (iv l) (qaa rfl)<|mp (iv f) (qaa rfl) ?_
 obtain ⟨x6,h7,hb⟩:=bd hb
 obtain ⟨ad8,cs9,hA,ho12,hc10,hr11⟩:=hS.elo2 (i:=1) rfl (qac h7).2 [] (by decide)
 subst hA
 refine mp (.pointer (some (ad8.add (f.toNat*1)))) (qaf (a:=f) underlying22 sizeOf3 rfl rfl (qac h7).1)<|mixE.sk hD (hC.put (i:=1) rfl rfl sizeOf3 (k:=f.toNat) (a:=l) (by have:=(qac h7).1; simp at this⊢; omega) (⟨rfl,I64.wr u⟩) rfl rfl rfl) ?_
 rintro w13 ⟨hC,hF⟩
 replace hD:=hD.beside hUf3 hF
 clear hF
 refine ⟨hD,?_⟩
 obtain ⟨x14,h15,hb⟩:=bd hb
 obtain ⟨ad16,cs17,hA,hc18,hr19⟩:=hC.elo (i:=1) rfl (qac h15).2
 obtain rfl:=Option.some.inj hA
 refine mp (.pointer (some (ad8.add (l.toNat*1)))) (qaf (a:=l) underlying22 sizeOf3 rfl rfl (by rw [(hC.ow (i:=1) rfl).qad.1]; exact (qac h15).1))<|mixE.sk hD (hC.put (i:=1) rfl rfl sizeOf3 (k:=l.toNat) (a:=f) (by have:=(qac h15).1; simp at this⊢; omega) (⟨rfl,I64.wr t⟩) rfl rfl rfl) ?_
 rintro w20 ⟨hC,hF⟩
 replace hD:=hD.beside hUf3 hF
 clear hF
 refine ⟨hD,?_⟩
 refine mixE.nil ?_
 clear hS hM
 clear hD
 obtain rfl:=os hb
 subst hI
 refine hKR _ _ ?_
 refine ⟨_,res0 results64,_,rfl,rfl,hC.sE [1,2]⟩

theorem braid_Closure_c2_ok (n:Nat) {w:World} {O0:List Nat} (hO: ∀k∈O0,k<w.heap.size) {m:Int} (U:I64 m) {M:Int} (T:I64 M) {K:Int} (S:I64 K) {L:Nat} {B:Option Addr} {H x:Nat} {y:List Int} {N:Nat} {z:Option Addr} {J A:Nat} {C:List Int} {P:Nat} {o:Nat} {p:Option Addr} {G q:Nat} {s:List Int} (Q:Rep O0 w (.sl si) [.slice p G q] s) {d:Option Addr} {D l:Nat} {c:List Int} {u:Int} (R:I64 u) (hio:Tk O0 w [.own 3 si (.slice B H x) y,.own 3 si (.slice z J A) C,.own 3 si (.slice d D l) c,.box L 22 [.slice B H x],.box N 22 [.slice z J A],.box P 85 [.func (.func 64) #[] #[pg o]],.box o 28 [.slice p G q,.slice d D l,iv u]]) {r:(List Int)×(List Int)×(List Int)} (hb:F.qer n m M K y C s c u=some r):
    Calls prog 65 #[iv m,iv M,iv K,pg L,pg N,pg P] w fun e w'=> ∃v,e=.returned v∧v=.tuple #[]∧Cx (fun k=>k∈blocks [.own 3 si (.slice B H x) y,.own 3 si (.slice z J A) C,.own 3 si (.slice d D l) c,.box L 22 [.slice B H x],.box N 22 [.slice z J A],.box P 85 [.func (.func 64) #[] #[pg o]],.box o 28 [.slice p G q,.slice d D l,iv u]]) O0 w w' [.own 3 si (.slice B H x) r.1,.own 3 si (.slice z J A) r.2.1,.own 3 si (.slice d D l) r.2.2,.box L 22 [.slice B H x],.box N 22 [.slice z J A],.box P 85 [.func (.func 64) #[] #[pg o]],.box o 28 [.slice p G q,.slice d D l,iv u]]:=by
 unfold F.qer at hb
 have hC:=Cx.startTk hO hio
 have hsub:=hio.2.2
 replace hC:=hC.argTk (by first | exact hsub | exact fun k hk=>hsub k (by simpa [blocks,Fact.blk] using hk)) Q
 clear hO
 obtain ⟨rfl,V,X⟩:=Q.qad
 obtain ⟨rfl,a0,a1⟩:=(hC.ow (i:=1) rfl).qad
 obtain ⟨rfl,a2,a3⟩:=(hC.ow (i:=2) rfl).qad
 obtain ⟨rfl,Y,Z⟩:=(hC.ow (i:=3) rfl).qad
 clear hio hsub
 obtain ⟨I,hI,hC⟩: ∃I:Nat→Prop,I=(fun k=>k∈blocks [.own 3 si (.slice B y.length x) y,.own 3 si (.slice z C.length A) C,.own 3 si (.slice d c.length l) c,.box L 22 [.slice B y.length x],.box N 22 [.slice z C.length A],.box P 85 [.func (.func 64) #[] #[pg o]],.box o 28 [.slice p s.length q,.slice d c.length l,iv u]])∧Cx I O0 w w ([.ro (.sl si) [.slice p s.length q] s,.own 3 si (.slice B y.length x) y,.own 3 si (.slice z C.length A) C,.own 3 si (.slice d c.length l) c,.box L 22 [.slice B y.length x],.box N 22 [.slice z C.length A],.box P 85 [.func (.func 64) #[] #[pg o]],.box o 28 [.slice p s.length q,.slice d c.length l,iv u]]):=⟨_,rfl,hC⟩
 refine qaq func65 rfl (by rw [ntmps65]; exact nb rfl) fun KR hKR=>?_
 refine Wc.seq fun _ hK9=>?_
 refine Wc.seq fun _ hK10=>rg<|lv (.slice B y.length x) (qaj isAgg22 rfl ((hC.bx (i:=4) rfl).cell (j:=0) rfl))<|lp (iv m) (qaa rfl) ?_
 obtain ⟨x11,h12,hb⟩:=bd hb
 obtain ⟨ad13,cs14,hA,hc15,hr16⟩:=hC.elo (i:=1) rfl (qac h12).2
 subst hA
 refine lp (.pointer (some (ad13.add (m.toNat*1)))) (qaf (a:=m) underlying22 sizeOf3 rfl rfl (qac h12).1) ?_
 obtain ⟨rfl,hr16'⟩:=hr16
 refine lv (iv x11) (qaj isAgg3 rfl (hc15 0 _ rfl))<|lp (.bool (decide (x11<0))) (qap (k:=.i64) (a:=x11) (b:=0) rfl rfl)<|ln (hK10 _ _ ?_)
 refine Wc.cond (t:=(decide (x11<0))) (rfl) (fun hq17=>?_) (fun hq17=>?_)
 replace hb:=tt hq17 hb
 refine rg<|lv (.slice z C.length A) (qaj isAgg22 rfl ((hC.bx (i:=5) rfl).cell (j:=0) rfl))<|lp (iv m) (qaa rfl)<|lp (iv M) (qaa rfl) ?_
 obtain ⟨x18,h19,hb⟩:=bd hb
 obtain ⟨ad20,cs21,hA,hc22,hr23⟩:=hC.elo (i:=2) rfl (qac h19).2
 subst hA
 refine lp (.pointer (some (ad20.add (m.toNat*1)))) (qaf (a:=m) underlying22 sizeOf3 rfl rfl (qac h19).1)<|lex.sk (hC.put (i:=2) rfl rfl sizeOf3 (k:=m.toNat) (a:=M) (by have:=(qac h19).1; simp at this⊢; omega) (⟨rfl,I64.wr T⟩) rfl rfl rfl) ?_
 rintro w24 ⟨hC,hF⟩
 refine ln (hK9 _ _ ?_)
 refine rg<|lv (.slice (some ad13) y.length x) (qaj isAgg22 rfl ((hC.bx (i:=4) rfl).cell (j:=0) rfl))<|lp (iv m) (qaa rfl)<|lp (iv K) (qaa rfl) ?_
 obtain ⟨x25,h26,hb⟩:=bd hb
 obtain ⟨ad27,cs28,hA,hc29,hr30⟩:=hC.elo (i:=1) rfl (qac h26).2
 obtain rfl:=Option.some.inj hA
 refine lp (.pointer (some (ad13.add (m.toNat*1)))) (qaf (a:=m) underlying22 sizeOf3 rfl rfl (qac h26).1)<|lex.sk (hC.put (i:=1) rfl rfl sizeOf3 (k:=m.toNat) (a:=K) (by have:=(qac h26).1; simp at this⊢; omega) (⟨rfl,I64.wr S⟩) rfl rfl rfl) ?_
 rintro w31 ⟨hC,hF⟩
 refine ln ?_
 obtain rfl:=os hb
 subst hI
 refine hKR _ _ ?_
 refine ⟨_,res0 results65,_,rfl,rfl,hC.sE [1,2,3,4,5,6,7]⟩
 replace hb:=tf hq17 hb
 refine Wc.regionMix [] (frm [] [.own 3 si (.slice d c.length l) c,.box o 28 [.slice p s.length q,.slice d c.length l,iv u]] ([]:List Fact)) (fun _=>rfl) mixed (by decide+kernel) (by decide+kernel) fun w33 hw32=>?_
 replace hC:=hC.step (Fr.qbb hw32)
 have hM:=Fr.refl (fun k=>k∈blocks [.own 3 si (.slice d c.length l) c,.box o 28 [.slice p s.length q,.slice d c.length l,iv u]]) w33
 clear hw32
 have hS:=hC
 have hBf8:Beside [.own 3 si (.slice d c.length l) c,.box o 28 [.slice p s.length q,.slice d c.length l,iv u]] w33 (.slice d c.length l):=Beside.of (i:=0) rfl
 have hBf6: ∀g,g<w33.heap.size→some o=some g→g∈blocks [.own 3 si (.slice d c.length l) c,.box o 28 [.slice p s.length q,.slice d c.length l,iv u]]:=fun g _ hg=>Option.some.inj hg▸box_in (i:=1) rfl
 refine mixE.load hM (v:=.func (.func 64) #[] #[pg o]) (fun _ hF=>qaj isAgg85 rfl ((hS.bx2 (i:=6) rfl [3,7] (by decide) hF).cell (j:=0) rfl))<|mixE.load hM (v:=.slice (some ad13) y.length x) (fun _ hF=>qaj isAgg22 rfl ((hS.bx2 (i:=4) rfl [3,7] (by decide) hF).cell (j:=0) rfl))<|mp (iv m) (qaa rfl) ?_
 obtain ⟨x34,h35,hb⟩:=bd hb
 obtain ⟨ad36,cs37,hA,ho40,hc38,hr39⟩:=hS.elo2 (i:=1) rfl (qac h35).2 [3,7] (by decide)
 obtain rfl:=Option.some.inj hA
 refine mp (.pointer (some (ad13.add (m.toNat*1)))) (qaf (a:=m) underlying22 sizeOf3 rfl rfl (qac h35).1) ?_
 obtain ⟨rfl,hr39'⟩:=hr39
 refine mixE.load hM (v:=iv x34) (fun _ hF=>qaj isAgg3 rfl (hF.cell (hc38 0 _ rfl) (off1 ho40)))<|mp (iv M) (qaa rfl) ?_
 replace hC:Cx I O0 w w33 ([.own 3 si (.slice d c.length l) c,.box o 28 [.slice p s.length q,.slice d c.length l,iv u]]++[.ro (.sl si) [.slice p s.length q] s,.own 3 si (.slice (some ad13) y.length x) y,.own 3 si (.slice z C.length A) C,.box L 22 [.slice (some ad13) y.length x],.box N 22 [.slice z C.length A],.box P 85 [.func (.func 64) #[] #[pg o]]]):=hC.sE [3,7,0,1,2,4,5,6]
 obtain ⟨y41,h42,hb⟩:=bd hb
 refine mixE.cl hM (⟨_,_,qft (vs:=[iv x34,iv M,pg o]) (ca:=#[pg o]) call64 rfl rfl rfl,braid_Closure_c1_ok n hC.lt (qay hr39') T (hC.rd (i:=2) rfl) R hC.give h42⟩) ?_
 rintro _ w43 ⟨rfl,hK⟩
 have hL44: ∀f∈([.own 3 si (.slice d c.length l) c,.box o 28 [.slice p s.length q,.slice d c.length l,iv u]]:List Fact),∀g,g<w33.heap.size→f.blk=some g→g∈blocks [.own 3 si (.slice d c.length l) c,.box o 28 [.slice p s.length q,.slice d c.length l,iv u]]:=List.forall_mem_cons.2 ⟨hBf8,List.forall_mem_cons.2 ⟨hBf6,fun _ h=>absurd h List.not_mem_nil⟩⟩
 replace hM:=hM.besideL hL44 hK.fr
 refine ⟨hM,?_⟩
 replace hC:=hC.back hK
 clear hK
 refine mixE.nil ?_
 clear hS hM
 refine hK9 _ _<|Wc.fresh fun E45 hE=>?_
 have e0:E45 0=iv m:=cg hE 0 rfl
 have e2:E45 2=iv K:=cg hE 2 rfl
 have e3:E45 3=pg L:=cg hE 3 rfl
 clear hE
 refine rg<|lv (.slice (some ad13) y.length x) (qaj isAgg22 e3 ((hC.bx (i:=5) rfl).cell (j:=0) rfl))<|lp _ (qaa e0)<|lp _ (qaa e2) ?_
 obtain ⟨x46,h47,hb⟩:=bd hb
 obtain ⟨ad48,cs49,hA,hc50,hr51⟩:=hC.elo (i:=3) rfl (qac h47).2
 obtain rfl:=Option.some.inj hA
 refine lp (.pointer (some (ad13.add (m.toNat*1)))) (qaf (a:=m) underlying22 sizeOf3 rfl rfl (qac h47).1)<|lex.sk (hC.put (i:=3) rfl rfl sizeOf3 (k:=m.toNat) (a:=K) (by have:=(qac h47).1; simp at this⊢; omega) (⟨rfl,I64.wr S⟩) rfl rfl rfl) ?_
 rintro w52 ⟨hC,hF⟩
 refine ln ?_
 obtain rfl:=os hb
 subst hI
 refine hKR _ _ ?_
 refine ⟨_,res0 results65,_,rfl,rfl,hC.sE [3,4,0,5,6,7,1]⟩
