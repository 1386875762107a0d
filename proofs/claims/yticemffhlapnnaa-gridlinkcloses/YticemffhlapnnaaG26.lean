import Derived.Test.YticemffhlapnnaaS
import Derived.Test.YticemffhlapnnaaG19
import Derived.Test.YticemffhlapnnaaG20
set_option linter.all false
namespace Go.Proofs.Yticemffhlapnnaa
open Ev Try
set_option maxRecDepth 100000
set_option maxHeartbeats 4000000
theorem diagram_Graph_ok (n:Nat) {w:World} {O0:List Nat} (hO: ∀k∈O0,k<w.heap.size) {l:Option Addr} {B o:Nat} {f:List Int} (C:Rep O0 w (.sl si) [.slice l B o] f) {p:Option Addr} {D u:Nat} {g:List Int} (G:Rep O0 w (.sl si) [.slice p D u] g) {y:Int} (H:I64 y) {r:(List (List Int))} (hb:F.qgh n f g y=some r):
    Calls prog 86 #[.agg #[.slice l B o,.slice p D u,iv y]] w fun e w'=> ∃v,e=.returned v∧∃(A0:Option Addr) (m0 c0:Nat),v=.slice A0 m0 c0∧Cx (fun _=>False) O0 w w' [.ro (.sl (.sl si)) [.slice A0 m0 c0] r]:=by
 unfold F.qgh at hb
 have hC:=Cx.start hO
 replace hC:=hC.arg rfl C
 replace hC:=hC.arg rfl G
 clear hO
 obtain ⟨rfl,J,K⟩:=C.qad
 obtain ⟨rfl,L,M⟩:=G.qad
 replace hC:=hC.noT
 refine qaq func86 rfl (by rw [ntmps86]; exact nb rfl) fun KR hKR=>?_
 refine Wc.seq fun _ hK3=>rg ?_
 replace hC:Cx (fun _=>False) O0 w w ([.ro (.sl si) [.slice p g.length u] g,.ro (.sl si) [.slice l f.length o] f]++([]:List Fact)):=hC
 refine lex.op (hC.box (cs:=[.slice l f.length o,.slice p g.length u,iv y]) rfl rfl) ?_
 rintro _ w5 ⟨g4,rfl,hC,hF,-⟩
 replace hC:Cx (fun _=>False) O0 w w5 ([.box g4 28 [.slice l f.length o,.slice p g.length u,iv y],.ro (.sl si) [.slice p g.length u] g,.ro (.sl si) [.slice l f.length o] f]++([]:List Fact)):=hC
 refine lp (.slice none 0 0) (qab rfl)<|ln (hK3 _ _ ?_)
 refine Wc.seq fun _ hK7=>?_
 refine Wc.seq fun _ hK8=>rg<|lv (.agg #[.slice l f.length o,.slice p g.length u,iv y]) (qbs (hC.bx (i:=0) rfl) isAgg28 sizeOf28 rfl) ?_
 obtain ⟨y9,h10,hb⟩:=bd hb
 refine lex.cl (⟨_,_,qas (vs:=[.agg #[.slice l f.length o,.slice p g.length u,iv y]]) call28 rfl rfl rfl,qgd n hC.lt (hC.rd (i:=2) rfl) (hC.rd (i:=1) rfl) H h10⟩) ?_
 rintro _ w11 ⟨rfl,hK⟩
 replace hC:=hC.merge hK
 clear hK
 replace hC:Cx (fun _=>False) O0 w w11 ([.box g4 28 [.slice l f.length o,.slice p g.length u,iv y],.ro (.sl si) [.slice p g.length u] g,.ro (.sl si) [.slice l f.length o] f]++([]:List Fact)):=hC
 refine lp (.bool (!y9)) (pu_not (q:=y9) rfl)<|ln (hK8 _ _ ?_)
 refine Wc.cond (t:=(!y9)) (rfl) (fun hq12=>?_) (fun hq12=>?_)
 replace hb:=tt hq12 hb
 refine Wc.seq fun _ hK13=>rg<|lp (.slice none 0 0) (qab rfl)<|ln (hK13 _ _ ?_)
 replace hC:=hC.ro (show Rep _ _ (.sl (.sl si)) [.slice none 0 0] [] from ⟨none,0,rfl,Nat.le_refl _,by omega,fun h=>absurd h (by simp)⟩)
 replace hC:Cx (fun _=>False) O0 w w11 ([.ro (.sl (.sl si)) [.slice none 0 0] ([]:List (List Int)),.box g4 28 [.slice l f.length o,.slice p g.length u,iv y],.ro (.sl si) [.slice p g.length u] g,.ro (.sl si) [.slice l f.length o] f]++([]:List Fact)):=hC
 obtain rfl:=os hb
 refine Wc.ret (hKR _ _ ?_)
 refine ⟨_,res1 results86 (tV (.slice none 0 0) rfl),_,rfl,none,0,0,rfl,hC.sE [0]⟩
 replace hb:=tf hq12 hb
 refine Wc.skip (hK7 _ _ ?_)
 refine Wc.seq fun _ hK15=>rg<|lv (.agg #[.slice l f.length o,.slice p g.length u,iv y]) (qbs (hC.bx (i:=0) rfl) isAgg28 sizeOf28 rfl) ?_
 obtain ⟨y16,h17,hb⟩:=bd hb
 refine lex.cl (⟨_,_,qas (vs:=[.agg #[.slice l f.length o,.slice p g.length u,iv y]]) call74 rfl rfl rfl,diagram_label_ok n hC.lt (hC.rd (i:=2) rfl) (hC.rd (i:=1) rfl) H h17⟩) ?_
 rintro _ w23 ⟨A18,m19,c20,rfl,hr22,hK⟩
 replace hC:=hC.merge hK
 clear hK
 obtain ⟨rfl,hl24,hc25⟩:=(hC.ow (i:=0) rfl).qad
 replace hC:Cx (fun _=>False) O0 w w23 ([.own 3 si (.slice A18 y16.1.length c20) y16.1,.box g4 28 [.slice l f.length o,.slice p g.length u,iv y],.ro (.sl si) [.slice p g.length u] g,.ro (.sl si) [.slice l f.length o] f]++([]:List Fact)):=hC
 refine lp (.tuple #[.slice A18 y16.1.length c20,iv y16.2]) (qaa rfl)<|lp (.slice A18 y16.1.length c20) (qbt rfl rfl)<|lp (iv y16.2) (qbt rfl rfl)<|lp (.slice A18 y16.1.length c20) (qab rfl)<|lp (iv y16.2) (qab rfl)<|ln (hK15 _ _ ?_)
 refine Wc.fresh fun E26 hE=>?_
 have e2:E26 2=.slice none 0 0:=cg hE 2 rfl
 have e3:E26 3=.slice A18 y16.1.length c20:=cg hE 3 rfl
 have e4:E26 4=iv y16.2:=cg hE 4 rfl
 clear hE
 refine Wc.seq fun _ hK27=>rg<|lp _ (qaa e4) ?_
 obtain ⟨u28,h29,hb⟩:=bd hb
 refine lex.op (hC.make (s:=.raw) (n:=y16.2) underlying75 type22 rfl rfl rfl rfl rfl (qah h29).1 (qah h29).2 (by decide)) ?_
 rintro _ w34 ⟨A30,c31,rfl,hl32,hc33,hC,-,-⟩
 replace hC:Cx (fun _=>False) O0 w w34 ([.own 22 .raw (.slice A30 (((List.replicate y16.2.toNat (Value.slice none 0 0))).length) c31) (List.replicate y16.2.toNat (Value.slice none 0 0)),.own 3 si (.slice A18 y16.1.length c20) y16.1,.box g4 28 [.slice l f.length o,.slice p g.length u,iv y],.ro (.sl si) [.slice p g.length u] g,.ro (.sl si) [.slice l f.length o] f]++([]:List Fact)):=hC
 replace hC:=hC.nilRows 3 si y16.2.toNat
 replace hC:Cx (fun _=>False) O0 w w34 ([.own 22 .raw (.slice A30 (((List.replicate y16.2.toNat (Value.slice none 0 0))).length) c31) (List.replicate y16.2.toNat (Value.slice none 0 0)),.own 3 si (.slice A18 y16.1.length c20) y16.1,.box g4 28 [.slice l f.length o,.slice p g.length u,iv y],.ro (.sl si) [.slice p g.length u] g,.ro (.sl si) [.slice l f.length o] f]++(rowsF 3 si (List.replicate y16.2.toNat (Value.slice none 0 0)) (List.replicate y16.2.toNat ([]:List Int))++([]:List Fact))):=hC
 refine lp (.slice A30 (((List.replicate y16.2.toNat (Value.slice none 0 0))).length) c31) (qab rfl)<|ln (hK27 _ _ ?_)
 refine Wc.seq fun _ hK36=>?_
 refine Wc.seq fun _ hK37=>rg<|lp _ (qaa e3)<|lp (iv (y16.1.length:Int)) (qao (A:=A18) (n:=y16.1.length) (m:=c20) underlying22 rfl)<|lp (iv 0) (qaa rfl)<|ln (hK37 _ _ ?_)
 obtain ⟨o38,hl0,f38,hf38,hb⟩:=bn hb
 refine Wc.cut (fun E wv=> ∃(d:Int) (j:List (List Int)) (c:List Value),E 2=.slice none 0 0∧E 5=.slice A30 (((List.replicate y16.2.toNat (Value.slice none 0 0))).length) c31∧I64 d∧c.length=j.length∧Cx (fun _=>False) O0 w wv ([.own 22 .raw (.slice A30 (((List.replicate y16.2.toNat (Value.slice none 0 0))).length) c31) c]++(rowsF 3 si c j++([]:List Fact)))∧f38 (d,j)=some r) (fun _ hK39=>?_) ?_
 refine Wc.block ?_
 refine Wc.loop (fun m E wv=> ∃(d:Int) (j:List (List Int)) (c:List Value),E 2=.slice none 0 0∧E 5=.slice A30 (((List.replicate y16.2.toNat (Value.slice none 0 0))).length) c31∧E 18=.slice A18 y16.1.length c20∧E 19=iv (y16.1.length:Int)∧E 20=iv d∧I64 d∧c.length=j.length∧Cx (fun _=>False) O0 w wv ([.own 22 .raw (.slice A30 (((List.replicate y16.2.toNat (Value.slice none 0 0))).length) c31) c,.own 3 si (.slice A18 y16.1.length c20) y16.1]++(rowsF 3 si c j++([]:List Fact)))∧loopN m (F.qew n y16) (d,j)=some o38) n ⟨0,(List.replicate y16.2.toNat ([]:List Int)),(List.replicate y16.2.toNat (Value.slice none 0 0)),e2,rfl,rfl,rfl,rfl,(show I64 0 from by unfold I64; omega),(nilRows_len y16.2.toNat (s:=si)),hC.selT [0,1] (by decide),hl0⟩ ?_
 have hbK0:=hb
 clear hb hC hl0
 rintro m41 E43 w42 ⟨d,j,c,e2,e5,e18,e19,e20,z,x,hC,hl0⟩ K40 hK40
 obtain ⟨m41',o44,rfl,hb,hl0⟩:=qan hl0
 unfold F.qew at hb
 refine Wc.seq fun _ hK45=>rg ?_
 replace hC:Cx (fun _=>False) O0 w w42 ([.own 22 .raw (.slice A30 (((List.replicate y16.2.toNat (Value.slice none 0 0))).length) c31) c,.own 3 si (.slice A18 y16.1.length c20) y16.1]++(rowsF 3 si c j++([]:List Fact))):=hC
 refine lp _ (qap e20 e19)<|ln (hK45 _ _ ?_)
 refine Wc.seq fun _ hK46=>?_
 refine Wc.cond (t:=(decide (d<(y16.1.length:Int)))) (rfl) (fun hq47=>?_) (fun hq47=>?_)
 replace hb:=tt hq47 hb
 refine Wc.skip (hK46 _ _ ?_)
 refine Wc.seq fun _ hK48=>?_
 refine Wc.block<|Wc.seq fun _ hK49=>rg<|lp _ (qaa e20) ?_
 obtain ⟨x50,h51,hb⟩:=bd hb
 obtain ⟨ad52,cs53,hA,hc54,hr55⟩:=hC.elo (i:=1) rfl (qac h51).2
 subst hA
 refine lp (.pointer (some (ad52.add (d.toNat*1)))) (qaf (a:=d) underlying22 sizeOf3 e18 e20 (qac h51).1) ?_
 replace hC:Cx (fun _=>False) O0 w w42 ([.own 22 .raw (.slice A30 (((List.replicate y16.2.toNat (Value.slice none 0 0))).length) c31) c,.own 3 si (.slice (some ad52) y16.1.length c20) y16.1]++(rowsF 3 si c j++([]:List Fact))):=hC
 obtain ⟨rfl,hr55'⟩:=hr55
 refine lv (iv x50) (qaj isAgg3 rfl (hc54 0 _ rfl))<|lp (iv d) (qab rfl)<|lp (iv x50) (qab rfl)<|ln (hK49 _ _ ?_)
 refine rg<|lp _ (qaa e5)<|lp (iv x50) (qaa rfl)<|lp _ (qaa e5)<|lp (iv x50) (qaa rfl) ?_
 obtain ⟨x56,h57,hb⟩:=bd hb
 obtain ⟨v62,hv63,-⟩:=qcr (e:=3) (s:=si) x (qac h57).2
 obtain ⟨ad58,cs59,hA,hc60,hr61⟩:=hC.elo (i:=0) rfl hv63
 subst hA
 refine lp (.pointer (some (ad58.add (x50.toNat*1)))) (qaf (a:=x50) underlying75 sizeOf22 rfl rfl (by rw [(hC.ow (i:=0) rfl).qad.1,x]; exact (qac h57).1)) ?_
 replace hC:Cx (fun _=>False) O0 w w42 ([.own 22 .raw (.slice (some ad58) (((List.replicate y16.2.toNat (Value.slice none 0 0))).length) c31) c,.own 3 si (.slice (some ad52) y16.1.length c20) y16.1]++(rowsF 3 si c j++([]:List Fact))):=hC
 replace hC:=Cx.takeRow hC hv63 (qac h57).2
 obtain ⟨A64,c65,hvf68,hl66,hc67⟩:=(hC.ow (i:=0) rfl).form
 subst hvf68
 obtain ⟨rfl,-⟩:=hr61
 replace hC:Cx (fun _=>False) O0 w w42 ([.own 3 si (.slice A64 x56.length c65) x56,.own 22 .raw (.slice (some ad58) (((List.replicate y16.2.toNat (Value.slice none 0 0))).length) c31) c,.own 3 si (.slice (some ad52) y16.1.length c20) y16.1]++((rowsF 3 si c j).eraseIdx x50.toNat++([]:List Fact))):=hC
 refine lv (.slice A64 x56.length c65) (qaj isAgg22 rfl (hc60 0 _ rfl))<|lp (iv d) (qaa rfl)<|lex.op (hC.lit (s:=si) (vs:=[iv d]) (xs:=[d]) underlying22 type3 rfl rfl (nb rfl) rfl rfl (by simp [Value.cells,Sh.n]) rfl (show Elems _ _ si ([iv d]++([])) ([d]:List Int) from Elems.cons (⟨rfl,I64.wr z⟩) (Elems.nil _ _ _))) ?_
 rintro _ w74 ⟨A70,c71,rfl,hl72,hc73,hC,-,-⟩
 replace hC:Cx (fun _=>False) O0 w w74 ([.own 3 si (.slice A70 ((([d]:List Int)).length) c71) ([d]:List Int),.own 3 si (.slice A64 x56.length c65) x56,.own 22 .raw (.slice (some ad58) (((List.replicate y16.2.toNat (Value.slice none 0 0))).length) c31) c,.own 3 si (.slice (some ad52) y16.1.length c20) y16.1]++((rowsF 3 si c j).eraseIdx x50.toNat++([]:List Fact))):=hC
 obtain ⟨u76,h77,hb⟩:=bd hb
 refine lex.op (hC.app (i:=1) (s:=si) (xs:=x56) (ys:=([d]:List Int)) (m:=((([d]:List Int)).length)) rfl underlying22 underlying22 type3 rfl rfl rfl (hC.srco (i:=0) rfl) rfl rfl (by have:=qaw h77; simp at this⊢ <;>omega) (by decide)) ?_
 rintro _ w82 ⟨A78,c79,rfl,hl80,hc81,hC,-,-⟩
 replace hC:Cx (fun _=>False) O0 w w82 ([.own 3 si (.slice A70 ((([d]:List Int)).length) c71) ([d]:List Int),.own 3 si (.slice A78 ((x56++([d]:List Int)).length) c79) (x56++([d]:List Int)),.own 22 .raw (.slice (some ad58) (((List.replicate y16.2.toNat (Value.slice none 0 0))).length) c31) c,.own 3 si (.slice (some ad52) y16.1.length c20) y16.1]++((rowsF 3 si c j).eraseIdx x50.toNat++([]:List Fact))):=hC
 obtain ⟨x83,h84,hb⟩:=bd hb
 obtain ⟨v89,hv90,-⟩:=qcr (e:=3) (s:=si) x (qac h84).2
 obtain ⟨ad85,cs86,hA,hc87,hr88⟩:=hC.elo (i:=2) rfl hv90
 obtain rfl:=Option.some.inj hA
 refine lp (.pointer (some (ad58.add (x50.toNat*1)))) (qaf (a:=x50) underlying75 sizeOf22 rfl rfl (by rw [(hC.ow (i:=2) rfl).qad.1,x]; exact (qac h84).1))<|lex.sk (hC.put (i:=2) (s:=.raw) rfl rfl sizeOf22 (k:=x50.toNat) (a:=Value.slice A78 ((x56++([d]:List Int)).length) c79) (by rw [x]; exact (List.getElem?_eq_some_iff.1 (qac h84).2).1) (show Rep _ _ .raw [Value.slice A78 ((x56++([d]:List Int)).length) c79] (Value.slice A78 ((x56++([d]:List Int)).length) c79) from ⟨rfl,rfl⟩) rfl rfl rfl) ?_
 rintro w91 ⟨hC,-⟩
 replace hC:Cx (fun _=>False) O0 w w91 ([.own 3 si (.slice A70 ((([d]:List Int)).length) c71) ([d]:List Int),.own 3 si (.slice A78 ((x56++([d]:List Int)).length) c79) (x56++([d]:List Int)),.own 22 .raw (.slice (some ad58) (((List.replicate y16.2.toNat (Value.slice none 0 0))).length) c31) (c.set x50.toNat (Value.slice A78 ((x56++([d]:List Int)).length) c79)),.own 3 si (.slice (some ad52) y16.1.length c20) y16.1]++((rowsF 3 si c j).eraseIdx x50.toNat++([]:List Fact))):=hC
 replace hC:=hC.selT [1,0,2,3] (by decide)
 replace hC:=Cx.putRow hC x (List.getElem?_eq_some_iff.1 (qac h84).2).1
 have hN92:(c.set x50.toNat (Value.slice A78 ((x56++([d]:List Int)).length) c79)).length=(j.set x50.toNat (x56++([d]:List Int))).length:=lenset x _ _ _ _
 replace hC:Cx (fun _=>False) O0 w w91 ([.own 3 si (.slice A70 ((([d]:List Int)).length) c71) ([d]:List Int),.own 22 .raw (.slice (some ad58) (((List.replicate y16.2.toNat (Value.slice none 0 0))).length) c31) (c.set x50.toNat (Value.slice A78 ((x56++([d]:List Int)).length) c79)),.own 3 si (.slice (some ad52) y16.1.length c20) y16.1]++(rowsF 3 si (c.set x50.toNat (Value.slice A78 ((x56++([d]:List Int)).length) c79)) (j.set x50.toNat (x56++([d]:List Int)))++([]:List Fact))):=hC
 refine ln (hK48 _ _ ?_)
 refine rg ?_
 obtain ⟨z93,h94,hb⟩:=bd hb
 refine lp (iv z93) (qal (a:=d) (b:=1) e20 rfl h94)<|lp (iv z93) (qaa rfl)<|ln ?_
 obtain rfl:=os hb
 exact hK40 m41' _ _ (Nat.lt_succ_self _) ⟨z93,(j.set x50.toNat (x56++([d]:List Int))),(c.set x50.toNat (Value.slice A78 ((x56++([d]:List Int)).length) c79)),e2,e5,e18,e19,rfl,(qai h94),hN92,hC.selT [1,2] (by decide),lN hl0⟩
 replace hb:=tf hq47 hb
 refine Wc.exit rfl ?_
 obtain rfl:=os hb
 obtain rfl:=(lX hl0).symm
 exact hK39 _ _ ⟨d,j,c,e2,e5,z,x,hC.selT [0] (by decide),hbK0⟩
 clear hb hC hl0
 rintro E96 w95 ⟨d,j,c,e2,e5,z,x,hC,hb⟩
 subst hf38
 refine hK36 _ _<|Wc.seq fun _ hK97=>rg ?_
 replace hC:Cx (fun _=>False) O0 w w95 ([.own 22 .raw (.slice A30 (((List.replicate y16.2.toNat (Value.slice none 0 0))).length) c31) c]++(rowsF 3 si c j++([]:List Fact))):=hC
 refine lp _ (qaa e5)<|lp (.slice A30 (((List.replicate y16.2.toNat (Value.slice none 0 0))).length) c31) (qab rfl)<|ln (hK97 _ _ ?_)
 replace hC:=hC.selT [0] (by decide)
 replace hC:=Cx.freezeR hC x
 replace hC:Cx (fun _=>False) O0 w w95 ([.ro (.sl (.sl si)) [.slice A30 (((List.replicate y16.2.toNat (Value.slice none 0 0))).length) c31] j]++([]:List Fact)):=hC
 obtain rfl:=os hb
 refine Wc.ret (hKR _ _ ?_)
 refine ⟨_,res1 results86 (tV (.slice A30 (((List.replicate y16.2.toNat (Value.slice none 0 0))).length) c31) rfl),_,rfl,A30,((List.replicate y16.2.toNat (Value.slice none 0 0))).length,c31,rfl,hC.sE [0]⟩

theorem cmp_isNaN_int_ok (n:Nat) {w:World} {O0:List Nat} (hO: ∀k∈O0,k<w.heap.size) {c:Int} (d:I64 c) {r:Bool} (hb:F.cmp_isNaN_int n c=some r):
    Calls prog 95 #[iv c] w fun e w'=> ∃v,e=.returned v∧v=.bool r∧Cx (fun _=>False) O0 w w' []:=by
 unfold F.cmp_isNaN_int at hb
 have hC:=Cx.start hO
 clear hO
 refine qaq func95 rfl (by rw [ntmps95]; exact nb rfl) fun KR hKR=>?_
 refine Wc.seq fun _ hK1=>rg<|lp (.bool false) (qab rfl)<|ln (hK1 _ _ ?_)
 refine Wc.seq fun _ hK2=>rg<|lp (iv c) (qaa rfl)<|lp (iv c) (qaa rfl)<|lp (.bool (!(decide (c=c)))) (pu_neq (k:=.i64) (a:=c) (b:=c) rfl rfl)<|lp (.bool (!(decide (c=c)))) (qab rfl)<|ln (hK2 _ _ ?_)
 obtain rfl:=os hb
 refine Wc.ret (hKR _ _ ?_)
 refine ⟨_,res1 results95 (tV (.bool (!(decide (c=c)))) rfl),_,rfl,rfl,hC.sE []⟩

theorem cmp_Compare_int_ok (n:Nat) {w:World} {O0:List Nat} (hO: ∀k∈O0,k<w.heap.size) {c:Int} (f:I64 c) {d:Int} (g:I64 d) {r:Int} (hb:F.cmp_Compare_int n c d=some r):
    Calls prog 92 #[iv c,iv d] w fun e w'=> ∃v,e=.returned v∧v=iv r∧I64 r∧Cx (fun _=>False) O0 w w' []:=by
 unfold F.cmp_Compare_int at hb
 have hC:=Cx.start hO
 clear hO
 refine qaq func92 rfl (by rw [ntmps92]; exact nb rfl) fun KR hKR=>?_
 refine Wc.seq fun _ hK1=>rg<|lp (iv 0) (qab rfl)<|ln (hK1 _ _ ?_)
 refine Wc.seq fun _ hK2=>rg<|lp (iv c) (qaa rfl) ?_
 obtain ⟨y3,h4,hb⟩:=bd hb
 refine lex.cl (⟨_,_,qas (vs:=[iv c]) call95 rfl rfl rfl,cmp_isNaN_int_ok n hC.lt f h4⟩) ?_
 rintro _ w5 ⟨rfl,hK⟩
 replace hC:=hC.merge hK
 clear hK
 refine lp (.bool y3) (qab rfl)<|ln (hK2 _ _ ?_)
 refine Wc.seq fun _ hK6=>rg<|lp (iv d) (qaa rfl) ?_
 obtain ⟨y7,h8,hb⟩:=bd hb
 refine lex.cl (⟨_,_,qas (vs:=[iv d]) call95 rfl rfl rfl,cmp_isNaN_int_ok n hC.lt g h8⟩) ?_
 rintro _ w9 ⟨rfl,hK⟩
 replace hC:=hC.merge hK
 clear hK
 refine lp (.bool y7) (qab rfl)<|ln (hK6 _ _ ?_)
 refine Wc.seq fun _ hK10=>?_
 refine Wc.seq fun _ hK11=>rg<|lp (.bool y3) (qaa rfl)<|ln (hK11 _ _ ?_)
 refine Wc.cond (t:=y3) (rfl) (fun hq12=>?_) (fun hq12=>?_)
 replace hb:=tt hq12 hb
 refine Wc.seq fun _ hK13=>?_
 refine Wc.seq fun _ hK14=>rg<|lp (.bool y7) (qaa rfl)<|ln (hK14 _ _ ?_)
 refine Wc.cond (t:=y7) (rfl) (fun hq15=>?_) (fun hq15=>?_)
 replace hb:=tt hq15 hb
 refine Wc.seq fun _ hK16=>rg<|lp (iv 0) (qab rfl)<|ln (hK16 _ _ ?_)
 obtain rfl:=os hb
 refine Wc.ret (hKR _ _ ?_)
 refine ⟨_,res1 results92 (tV (iv 0) rfl),_,rfl,rfl,(show I64 0 from by unfold I64; omega),hC.sE []⟩
 replace hb:=tf hq15 hb
 refine Wc.skip (hK13 _ _ ?_)
 refine Wc.seq fun _ hK17=>rg<|lp (iv (-1)) (qab rfl)<|ln (hK17 _ _ ?_)
 obtain rfl:=os hb
 refine Wc.ret (hKR _ _ ?_)
 refine ⟨_,res1 results92 (tV (iv (-1)) rfl),_,rfl,rfl,(show I64 (-1) from by unfold I64; omega),hC.sE []⟩
 replace hb:=tf hq12 hb
 refine Wc.skip (hK10 _ _ ?_)
 refine Wc.seq fun _ hK18=>?_
 refine Wc.seq fun _ hK19=>rg<|lp (.bool y7) (qaa rfl)<|ln (hK19 _ _ ?_)
 refine Wc.cond (t:=y7) (rfl) (fun hq20=>?_) (fun hq20=>?_)
 replace hb:=tt hq20 hb
 refine Wc.seq fun _ hK21=>rg<|lp (iv 1) (qab rfl)<|ln (hK21 _ _ ?_)
 obtain rfl:=os hb
 refine Wc.ret (hKR _ _ ?_)
 refine ⟨_,res1 results92 (tV (iv 1) rfl),_,rfl,rfl,(show I64 1 from by unfold I64; omega),hC.sE []⟩
 replace hb:=tf hq20 hb
 refine Wc.skip (hK18 _ _ ?_)
 refine Wc.seq fun _ hK22=>?_
 refine Wc.seq fun _ hK23=>rg<|lp (iv c) (qaa rfl)<|lp (iv d) (qaa rfl)<|lp (.bool (decide (c<d))) (qap (k:=.i64) (a:=c) (b:=d) rfl rfl)<|ln (hK23 _ _ ?_)
 refine Wc.cond (t:=(decide (c<d))) (rfl) (fun hq24=>?_) (fun hq24=>?_)
 replace hb:=tt hq24 hb
 refine Wc.seq fun _ hK25=>rg<|lp (iv (-1)) (qab rfl)<|ln (hK25 _ _ ?_)
 obtain rfl:=os hb
 refine Wc.ret (hKR _ _ ?_)
 refine ⟨_,res1 results92 (tV (iv (-1)) rfl),_,rfl,rfl,(show I64 (-1) from by unfold I64; omega),hC.sE []⟩
 replace hb:=tf hq24 hb
 refine Wc.skip (hK22 _ _ ?_)
 refine Wc.fresh fun E26 hE=>?_
 have e0:E26 0=iv c:=cg hE 0 rfl
 have e1:E26 1=iv d:=cg hE 1 rfl
 have e4:E26 4=iv 0:=cg hE 4 rfl
 clear hE
 refine Wc.seq fun _ hK27=>?_
 refine Wc.seq fun _ hK28=>rg<|lp _ (qaa e0)<|lp _ (qaa e1)<|lp (.bool (decide (d<c))) (qed (k:=.i64) (a:=c) (b:=d) rfl rfl)<|ln (hK28 _ _ ?_)
 refine Wc.cond (t:=(decide (d<c))) (rfl) (fun hq29=>?_) (fun hq29=>?_)
 replace hb:=tt hq29 hb
 refine Wc.seq fun _ hK30=>rg<|lp (iv 1) (qab rfl)<|ln (hK30 _ _ ?_)
 obtain rfl:=os hb
 refine Wc.ret (hKR _ _ ?_)
 refine ⟨_,res1 results92 (tV (iv 1) rfl),_,rfl,rfl,(show I64 1 from by unfold I64; omega),hC.sE []⟩
 replace hb:=tf hq29 hb
 refine Wc.skip (hK27 _ _ ?_)
 refine Wc.seq fun _ hK31=>rg<|lp (iv 0) (qab rfl)<|ln (hK31 _ _ ?_)
 obtain rfl:=os hb
 refine Wc.ret (hKR _ _ ?_)
 refine ⟨_,res1 results92 (tV (iv 0) rfl),_,rfl,rfl,(show I64 0 from by unfold I64; omega),hC.sE []⟩

theorem qgi (n:Nat) {w:World} {O0:List Nat} (hO: ∀k∈O0,k<w.heap.size) {g:Option Addr} {p h:Nat} {d:List Int} (q:Rep O0 w (.sl si) [.slice g p h] d) {j:Option Addr} {s l:Nat} {f:List Int} (u:Rep O0 w (.sl si) [.slice j s l] f) {r:Int} (hb:F.qci n d f=some r):
    Calls prog 90 #[.slice g p h,.slice j s l] w fun e w'=> ∃v,e=.returned v∧v=iv r∧I64 r∧Cx (fun _=>False) O0 w w' []:=by
 unfold F.qci at hb
 have hC:=Cx.start hO
 replace hC:=hC.arg rfl q
 replace hC:=hC.arg rfl u
 clear hO
 obtain ⟨rfl,x,y⟩:=q.qad
 obtain ⟨rfl,z,B⟩:=u.qad
 refine qaq func90 rfl (by rw [ntmps90]; exact nb rfl) fun KR hKR=>?_
 refine Wc.seq fun _ hK3=>rg<|lp (iv 0) (qab rfl)<|ln (hK3 _ _ ?_)
 refine Wc.seq fun _ hK4=>?_
 refine Wc.seq fun _ hK5=>rg<|lp (.slice g d.length h) (qaa rfl)<|lp (iv (d.length:Int)) (qao (A:=g) (n:=d.length) (m:=h) underlying22 rfl)<|lp (iv 0) (qaa rfl)<|ln (hK5 _ _ ?_)
 obtain ⟨o6,hl0,hb⟩:=bd hb
 refine Wc.cut (fun E wv=> ∃(c:Int),E 0=.slice g d.length h∧E 1=.slice j f.length l∧E 4=iv 0∧I64 c∧Cx (fun _=>False) O0 w wv [.ro (.sl si) [.slice g d.length h] d,.ro (.sl si) [.slice j f.length l] f]∧(cond (decide ((d.length:Int)<(f.length:Int))) (some (-1)) (some 0):Option (Int))=some r) (fun _ hK7=>?_) ?_
 refine Wc.block ?_
 refine Wc.loop (fun m E wv=> ∃(c:Int),E 0=.slice g d.length h∧E 1=.slice j f.length l∧E 4=iv 0∧E 9=.slice g d.length h∧E 10=iv (d.length:Int)∧E 11=iv c∧I64 c∧Cx (fun _=>False) O0 w wv [.ro (.sl si) [.slice g d.length h] d,.ro (.sl si) [.slice j f.length l] f]∧loopN m (F.qcv n d f) c=some o6) n ⟨0,rfl,rfl,rfl,rfl,rfl,rfl,(show I64 0 from by unfold I64; omega),hC.sE [1,0],hl0⟩ ?_
 have hbK0:=hb
 clear hb hC hl0
 rintro m9 E11 w10 ⟨c,e0,e1,e4,e9,e10,e11,o,hC,hl0⟩ K8 hK8
 obtain ⟨m9',o12,rfl,hb,hl0⟩:=qan hl0
 unfold F.qcv at hb
 refine Wc.seq fun _ hK13=>rg<|lp _ (qap e11 e10)<|ln (hK13 _ _ ?_)
 refine Wc.seq fun _ hK14=>?_
 refine Wc.cond (t:=(decide (c<(d.length:Int)))) (rfl) (fun hq15=>?_) (fun hq15=>?_)
 replace hb:=tt hq15 hb
 refine Wc.skip (hK14 _ _ ?_)
 refine Wc.seq fun _ hK16=>?_
 refine Wc.block<|Wc.seq fun _ hK17=>rg<|lp _ (qaa e11) ?_
 obtain ⟨x18,h19,hb⟩:=bd hb
 obtain ⟨ad20,cs21,hA,hc22,hr23⟩:=hC.elr (i:=0) rfl (qac h19).2
 subst hA
 refine lp (.pointer (some (ad20.add (c.toNat*1)))) (qaf (a:=c) underlying22 sizeOf3 e9 e11 (qac h19).1) ?_
 obtain ⟨rfl,hr23'⟩:=hr23
 refine lv (iv x18) (qaj isAgg3 rfl (hc22 0 _ rfl))<|lp (iv c) (qab rfl)<|lp (iv x18) (qab rfl)<|ln (hK17 _ _ ?_)
 refine Wc.seq fun _ hK24=>?_
 refine Wc.seq fun _ hK25=>rg<|lp (iv c) (qaa rfl)<|lp _ (qaa e1)<|lp (iv (f.length:Int)) (qao (A:=j) (n:=f.length) (m:=l) underlying22 rfl)<|lp (.bool (decide ((f.length:Int)≤c))) (pu_geq (k:=.i64) (a:=c) (b:=(f.length:Int)) rfl rfl)<|ln (hK25 _ _ ?_)
 refine Wc.cond (t:=(decide ((f.length:Int)≤c))) (rfl) (fun hq26=>?_) (fun hq26=>?_)
 replace hb:=tt hq26 hb
 refine Wc.seq fun _ hK27=>rg<|lp (iv 1) (qab rfl)<|ln (hK27 _ _ ?_)
 obtain rfl:=os hb
 obtain rfl:=(lX hl0).symm
 replace hb:=hbK0
 obtain rfl:=os hb
 refine Wc.ret (hKR _ _ ?_)
 refine ⟨_,res1 results90 (tV (iv 1) rfl),_,rfl,rfl,(show I64 1 from by unfold I64; omega),hC.sE []⟩
 replace hb:=tf hq26 hb
 refine Wc.skip (hK24 _ _ ?_)
 refine Wc.fresh fun E28 hE=>?_
 have e0:=cg hE 0 e0
 have e1:=cg hE 1 e1
 have e4:=cg hE 4 e4
 have e5:E28 5=iv c:=cg hE 5 rfl
 have e6:E28 6=iv x18:=cg hE 6 rfl
 have e9:=cg hE 9 e9
 have e10:=cg hE 10 e10
 have e11:=cg hE 11 e11
 have e12:E28 12=.bool (decide (c<(d.length:Int))):=cg hE 12 rfl
 have e19:E28 19=.bool (decide ((f.length:Int)≤c)):=cg hE 19 rfl
 clear hE
 refine Wc.seq fun _ hK29=>rg<|lp _ (qaa e1)<|lp _ (qaa e5) ?_
 obtain ⟨x30,h31,hb⟩:=bd hb
 obtain ⟨ad32,cs33,hA,hc34,hr35⟩:=hC.elr (i:=1) rfl (qac h31).2
 subst hA
 refine lp (.pointer (some (ad32.add (c.toNat*1)))) (qaf (a:=c) underlying22 sizeOf3 rfl rfl (qac h31).1) ?_
 obtain ⟨rfl,hr35'⟩:=hr35
 refine lv (iv x30) (qaj isAgg3 rfl (hc34 0 _ rfl))<|lp (iv x30) (qab rfl)<|ln (hK29 _ _ ?_)
 refine Wc.seq fun _ hK36=>rg<|lp _ (qaa e6)<|lp (iv x30) (qaa rfl) ?_
 obtain ⟨y37,h38,hb⟩:=bd hb
 refine lex.cl (⟨_,_,qas (vs:=[iv x18,iv x30]) call92 rfl rfl rfl,cmp_Compare_int_ok n hC.lt (qay hr23') (qay hr35') h38⟩) ?_
 rintro _ w40 ⟨rfl,hr39,hK⟩
 replace hC:=hC.merge hK
 clear hK
 refine lp (iv y37) (qab rfl)<|ln (hK36 _ _ ?_)
 refine Wc.seq fun _ hK41=>rg<|lp (iv y37) (qaa rfl)<|lp (.bool (!(decide (y37=0)))) (pu_neq (k:=.i64) (a:=y37) (b:=0) rfl rfl)<|ln (hK41 _ _ ?_)
 refine Wc.fresh fun E42 hE=>?_
 have e0:=cg hE 0 e0
 have e1:=cg hE 1 e1
 have e4:=cg hE 4 e4
 have e5:=cg hE 5 e5
 have e6:=cg hE 6 e6
 have e7:E42 7=iv x30:=cg hE 7 rfl
 have e8:E42 8=iv y37:=cg hE 8 rfl
 have e9:=cg hE 9 e9
 have e10:=cg hE 10 e10
 have e11:=cg hE 11 e11
 have e12:=cg hE 12 e12
 have e19:=cg hE 19 e19
 have e28:E42 28=.bool (!(decide (y37=0))):=cg hE 28 rfl
 clear hE
 refine Wc.cond (t:=(!(decide (y37=0)))) (e28) (fun hq43=>?_) (fun hq43=>?_)
 replace hb:=tt hq43 hb
 refine Wc.seq fun _ hK44=>rg<|lp _ (qaa e8)<|lp (iv y37) (qab rfl)<|ln (hK44 _ _ ?_)
 obtain rfl:=os hb
 obtain rfl:=(lX hl0).symm
 replace hb:=hbK0
 obtain rfl:=os hb
 refine Wc.ret (hKR _ _ ?_)
 refine ⟨_,res1 results90 (tV (iv y37) rfl),_,rfl,rfl,hr39,hC.sE []⟩
 replace hb:=tf hq43 hb
 refine Wc.skip (hK16 _ _ ?_)
 refine rg ?_
 obtain ⟨z45,h46,hb⟩:=bd hb
 refine lp (iv z45) (qal (a:=c) (b:=1) e11 rfl h46)<|lp (iv z45) (qaa rfl)<|ln ?_
 obtain rfl:=os hb
 exact hK8 m9' _ _ (Nat.lt_succ_self _) ⟨z45,e0,e1,e4,e9,e10,rfl,(qai h46),hC.sE [0,1],lN hl0⟩
 replace hb:=tf hq15 hb
 refine Wc.exit rfl ?_
 obtain rfl:=os hb
 obtain rfl:=(lX hl0).symm
 exact hK7 _ _ ⟨c,e0,e1,e4,o,hC.sE [0,1],hbK0⟩
 clear hb hC hl0
 rintro E48 w47 ⟨c,e0,e1,e4,o,hC,hb⟩
 refine hK4 _ _ ?_
 refine Wc.seq fun _ hK49=>?_
 refine Wc.seq fun _ hK50=>rg<|lp _ (qaa e0)<|lp (iv (d.length:Int)) (qao (A:=g) (n:=d.length) (m:=h) underlying22 rfl)<|lp _ (qaa e1)<|lp (iv (f.length:Int)) (qao (A:=j) (n:=f.length) (m:=l) underlying22 rfl)<|lp (.bool (decide ((d.length:Int)<(f.length:Int)))) (qap (k:=.i64) (a:=(d.length:Int)) (b:=(f.length:Int)) rfl rfl)<|ln (hK50 _ _ ?_)
 refine Wc.cond (t:=(decide ((d.length:Int)<(f.length:Int)))) (rfl) (fun hq51=>?_) (fun hq51=>?_)
 replace hb:=tt hq51 hb
 refine Wc.seq fun _ hK52=>rg<|lp (iv (-1)) (qab rfl)<|ln (hK52 _ _ ?_)
 obtain rfl:=os hb
 refine Wc.ret (hKR _ _ ?_)
 refine ⟨_,res1 results90 (tV (iv (-1)) rfl),_,rfl,rfl,(show I64 (-1) from by unfold I64; omega),hC.sE []⟩
 replace hb:=tf hq51 hb
 refine Wc.skip (hK49 _ _ ?_)
 refine Wc.seq fun _ hK53=>rg<|lp (iv 0) (qab rfl)<|ln (hK53 _ _ ?_)
 obtain rfl:=os hb
 refine Wc.ret (hKR _ _ ?_)
 refine ⟨_,res1 results90 (tV (iv 0) rfl),_,rfl,rfl,(show I64 0 from by unfold I64; omega),hC.sE []⟩

theorem canon_number_ok (n:Nat) {w:World} {O0:List Nat} (hO: ∀k∈O0,k<w.heap.size) {J:Option Addr} {b8 u:Nat} {c:List Int} (b9:Rep O0 w (.sl si) [.slice J b8 u] c) {D:Option Addr} {c2 B:Nat} {l:List Int} (c3:Rep O0 w (.sl si) [.slice D c2 B] l) {U:Int} (e4:I64 U) {j:Int} (c5:I64 j) {o:Option Addr} {b0 q:Nat} {d:List Int} (b1:Rep O0 w (.sl si) [.slice o b0 q] d) (c4:d=[]→o=none) {r:(List Int)×(List Int)×Int} (hb:F.qgo n c l U j d=some r):
    Calls prog 87 #[.agg #[.slice J b8 u,.slice D c2 B,iv U],iv j,.slice o b0 q] w fun e w'=> ∃v,e=.returned v∧∃(A0:Option Addr) (m0 c0:Nat) (A1:Option Addr) (m1 c1:Nat),v=.tuple #[.slice A0 m0 c0,.slice A1 m1 c1,iv r.2.2]∧(r.1=[]→A0=none)∧I64 r.2.2∧Cx (fun _=>False) O0 w w' [.own 3 si (.slice A0 m0 c0) r.1,.own 3 si (.slice A1 m1 c1) r.2.1]:=by
 unfold F.qgo at hb
 have hC:=Cx.start hO
 replace hC:=hC.arg rfl b9
 replace hC:=hC.arg rfl c3
 replace hC:=hC.arg rfl b1
 clear hO
 obtain ⟨rfl,d5,d6⟩:=b9.qad
 obtain ⟨rfl,d7,d8⟩:=c3.qad
 obtain ⟨rfl,d3,d4⟩:=b1.qad
 refine qaq func87 rfl (by rw [ntmps87]; exact nb rfl) fun KR hKR=>?_
 refine Wc.seq fun _ hK4=>rg<|lex.op (hC.box (cs:=[.slice J c.length u,.slice D l.length B,iv U]) rfl rfl) ?_
 rintro _ w6 ⟨g5,rfl,hC,hF,-⟩
 refine lp (.slice none 0 0) (qab rfl)<|lp (.slice none 0 0) (qab rfl)<|lp (iv 0) (qab rfl)<|ln (hK4 _ _ ?_)
 refine Wc.seq fun _ hK8=>rg<|lp (.pointer (some ((⟨g5,0,none⟩:Addr).add 0))) (qag (sz:=1) underlying28 rfl sizeOf22 (by decide) rfl rfl)<|lv (.slice J c.length u) (qam (hC.bx (i:=0) rfl) isAgg22 rfl rfl)<|lp (iv (c.length:Int)) (qao (A:=J) (n:=c.length) (m:=u) underlying22 rfl) ?_
 obtain ⟨u9,h10,hb⟩:=bd hb
 refine lex.op (hC.make (s:=si) (n:=(c.length:Int)) underlying22 type3 rfl rfl rfl rfl rfl (qah h10).1 (qah h10).2 (by decide)) ?_
 rintro _ w15 ⟨A11,c12,rfl,hl13,hc14,hC,-,-⟩
 refine lp (.slice A11 (((rZ c.length)).length) c12) (qab rfl)<|ln (hK8 _ _ ?_)
 refine Wc.seq fun _ hK17=>?_
 refine Wc.seq fun _ hK18=>rg<|lp (.slice A11 (((rZ c.length)).length) c12) (qaa rfl)<|lp (iv (((rZ c.length)).length:Int)) (qao (A:=A11) (n:=((rZ c.length)).length) (m:=c12) underlying22 rfl)<|lp (iv 0) (qaa rfl)<|ln (hK18 _ _ ?_)
 refine Wc.fresh fun E19 hE=>?_
 have e1:E19 1=iv j:=cg hE 1 rfl
 have e2:E19 2=.slice o d.length q:=cg hE 2 rfl
 have e3:E19 3=pg g5:=cg hE 3 rfl
 have e6:E19 6=.slice none 0 0:=cg hE 6 rfl
 have e7:E19 7=.slice none 0 0:=cg hE 7 rfl
 have e8:E19 8=iv 0:=cg hE 8 rfl
 have e9:E19 9=.slice A11 (((rZ c.length)).length) c12:=cg hE 9 rfl
 have e23:E19 23=iv (((rZ c.length)).length:Int):=cg hE 23 rfl
 have e24:E19 24=iv 0:=cg hE 24 rfl
 clear hE
 obtain ⟨o20,hl0,hb⟩:=bd hb
 refine Wc.cut (fun E wv=> ∃(L:Int) (K:List Int),E 1=iv j∧E 2=.slice o d.length q∧E 3=pg g5∧E 6=.slice none 0 0∧E 7=.slice none 0 0∧E 8=iv 0∧E 9=.slice A11 (((rZ c.length)).length) c12∧I64 L∧Cx (fun _=>False) O0 w wv [.ro (.sl si) [.slice o d.length q] d,.box g5 28 [.slice J c.length u,.slice D l.length B,iv U],.ro (.sl si) [.slice J c.length u] c,.ro (.sl si) [.slice D l.length B] l,.own 3 si (.slice A11 (((rZ c.length)).length) c12) K]∧((get K j).bind fun x51=>cond (d.isEmpty) (F.qdo n c l j d K (-1)) (F.qdo n c l j d K 0):Option ((List Int)×(List Int)×Int))=some r) (fun _ hK21=>?_) ?_
 refine Wc.block ?_
 refine Wc.loop (fun m E wv=> ∃(L:Int) (K:List Int),E 1=iv j∧E 2=.slice o d.length q∧E 3=pg g5∧E 6=.slice none 0 0∧E 7=.slice none 0 0∧E 8=iv 0∧E 9=.slice A11 (((rZ c.length)).length) c12∧E 23=iv (((rZ c.length)).length:Int)∧E 24=iv L∧I64 L∧Cx (fun _=>False) O0 w wv [.ro (.sl si) [.slice o d.length q] d,.box g5 28 [.slice J c.length u,.slice D l.length B,iv U],.ro (.sl si) [.slice J c.length u] c,.ro (.sl si) [.slice D l.length B] l,.own 3 si (.slice A11 (((rZ c.length)).length) c12) K]∧loopN m (F.qei n c) (L,K)=some o20) n ⟨0,(rZ c.length),e1,e2,e3,e6,e7,e8,e9,e23,e24,(show I64 0 from by unfold I64; omega),hC.sE [2,1,4,3,0],hl0⟩ ?_
 have hbK0:=hb
 clear hb hC hl0
 rintro m23 E25 w24 ⟨L,K,e1,e2,e3,e6,e7,e8,e9,e23,e24,b2,hC,hl0⟩ K22 hK22
 obtain ⟨m23',o26,rfl,hb,hl0⟩:=qan hl0
 unfold F.qei at hb
 refine Wc.seq fun _ hK27=>rg<|lp _ (qap e24 e23)<|ln (hK27 _ _ ?_)
 refine Wc.seq fun _ hK28=>?_
 refine Wc.cond (t:=(decide (L<(((rZ c.length)).length:Int)))) (rfl) (fun hq29=>?_) (fun hq29=>?_)
 replace hb:=tt hq29 hb
 refine Wc.skip (hK28 _ _ ?_)
 refine Wc.seq fun _ hK30=>?_
 refine Wc.block<|Wc.seq fun _ hK31=>rg<|lp _ (qaa e24)<|lp (iv L) (qab rfl)<|ln (hK31 _ _ ?_)
 refine rg<|lp _ (qaa e9)<|lp (iv L) (qaa rfl) ?_
 obtain ⟨x32,h33,hb⟩:=bd hb
 obtain ⟨ad34,cs35,hA,hc36,hr37⟩:=hC.elo (i:=4) rfl (qac h33).2
 subst hA
 refine lp (.pointer (some (ad34.add (L.toNat*1)))) (qaf (a:=L) underlying22 sizeOf3 rfl rfl (by rw [(hC.ow (i:=4) rfl).qad.1]; exact (qac h33).1))<|lex.sk (hC.put (i:=4) rfl rfl sizeOf3 (k:=L.toNat) (a:=(-1)) (by have:=(qac h33).1; simp at this⊢; omega) (⟨rfl,I64.wr (show I64 (-1) from by unfold I64; omega)⟩) rfl rfl rfl) ?_
 rintro w38 ⟨hC,hF⟩
 refine ln (hK30 _ _ ?_)
 refine rg ?_
 obtain ⟨z39,h40,hb⟩:=bd hb
 refine lp (iv z39) (qal (a:=L) (b:=1) e24 rfl h40)<|lp (iv z39) (qaa rfl)<|ln ?_
 obtain rfl:=os hb
 exact hK22 m23' _ _ (Nat.lt_succ_self _) ⟨z39,(K.set L.toNat (-1)),e1,e2,e3,e6,e7,e8,e9,e23,rfl,(qai h40),hC.sE [0,1,2,3,4],lN hl0⟩
 replace hb:=tf hq29 hb
 refine Wc.exit rfl ?_
 obtain rfl:=os hb
 obtain rfl:=(lX hl0).symm
 exact hK21 _ _ ⟨L,K,e1,e2,e3,e6,e7,e8,e9,b2,hC.sE [0,1,2,3,4],hbK0⟩
 clear hb hC hl0
 rintro E42 w41 ⟨L,K,e1,e2,e3,e6,e7,e8,e9,b2,hC,hb⟩
 refine hK17 _ _<|Wc.seq fun _ hK43=>rg<|lp _ (qaa e1)<|lex.op (hC.lit (s:=si) (vs:=[iv j]) (xs:=[j]) underlying22 type3 rfl rfl (nb rfl) rfl rfl (by simp [Value.cells,Sh.n]) rfl (show Elems _ _ si ([iv j]++([])) ([j]:List Int) from Elems.cons (⟨rfl,I64.wr c5⟩) (Elems.nil _ _ _))) ?_
 rintro _ w48 ⟨A44,c45,rfl,hl46,hc47,hC,-,-⟩
 refine lp (.slice A44 ((([j]:List Int)).length) c45) (qab rfl)<|ln (hK43 _ _ ?_)
 refine Wc.seq fun _ hK50=>rg<|lp _ (qaa e9)<|lp _ (qaa e1) ?_
 obtain ⟨x51,h52,hb⟩:=bd hb
 obtain ⟨ad53,cs54,hA,hc55,hr56⟩:=hC.elo (i:=5) rfl (qac h52).2
 subst hA
 refine lp (.pointer (some (ad53.add (j.toNat*1)))) (qaf (a:=j) underlying22 sizeOf3 rfl rfl (by rw [(hC.ow (i:=5) rfl).qad.1]; exact (qac h52).1))<|lex.sk (hC.put (i:=5) rfl rfl sizeOf3 (k:=j.toNat) (a:=0) (by have:=(qac h52).1; simp at this⊢; omega) (⟨rfl,I64.wr (show I64 0 from by unfold I64; omega)⟩) rfl rfl rfl) ?_
 rintro w57 ⟨hC,hF⟩
 refine ln (hK50 _ _ ?_)
 refine Wc.seq fun _ hK58=>rg<|lp (.slice none 0 0) (qab rfl)<|ln (hK58 _ _ ?_)
 refine Wc.seq fun _ hK59=>rg<|lp (iv 0) (qab rfl)<|ln (hK59 _ _ ?_)
 refine Wc.seqJ (fun E wv=> ∃(a3:Int),E 2=.slice o d.length q∧E 3=pg g5∧E 6=.slice none 0 0∧E 7=.slice none 0 0∧E 8=iv 0∧E 9=.slice (some ad53) (((rZ c.length)).length) c12∧E 11=.slice A44 ((([j]:List Int)).length) c45∧E 12=.slice none 0 0∧E 13=iv a3∧I64 a3∧Cx (fun _=>False) O0 w wv [.ro (.sl si) [.slice o d.length q] d,.box g5 28 [.slice J c.length u,.slice D l.length B,iv U],.ro (.sl si) [.slice J c.length u] c,.ro (.sl si) [.slice D l.length B] l,.own 3 si (.slice (some ad53) (((rZ c.length)).length) c12) (K.set j.toNat 0),.own 3 si (.slice A44 ((([j]:List Int)).length) c45) ([j]:List Int)]∧F.qdo n c l j d K a3=some r) (fun _ hK60=>?_) ?_
 refine Wc.seq fun _ hK61=>rg<|lp _ (qaa e2)<|lp (.bool (d.isEmpty)) (by rw [←isNone_nz (fun h=>(hC.rd (i:=1) rfl).none_nil' h) c4]; exact pu_eqlnil underlying22 rfl rfl)<|ln (hK61 _ _ ?_)
 refine Wc.cond (t:=(d.isEmpty)) (rfl) (fun hq62=>?_) (fun hq62=>?_)
 replace hb:=tt hq62 hb
 refine rg<|lp (iv (-1)) (qab rfl)<|ln ?_
 exact hK60 _ _ ⟨(-1),e2,e3,e6,e7,e8,e9,rfl,rfl,rfl,(show I64 (-1) from by unfold I64; omega),hC.sE [1,2,3,4,5,0],hb⟩
 replace hb:=tf hq62 hb
 refine Wc.skip ?_
 exact hK60 _ _ ⟨0,e2,e3,e6,e7,e8,e9,rfl,rfl,rfl,(show I64 0 from by unfold I64; omega),hC.sE [1,2,3,4,5,0],hb⟩
 clear hb hC
 rintro E64 w63 ⟨a3,e2,e3,e6,e7,e8,e9,e11,e12,e13,c6,hC,hb⟩
 unfold F.qdo at hb
 refine Wc.seq fun _ hK65=>?_
 refine Wc.seq fun _ hK66=>rg<|lp (iv 0) (qab rfl)<|ln (hK66 _ _ ?_)
 replace hC:=hC.nil 3 si
 obtain ⟨o68,hl2,hb⟩:=bd hb
 refine Wc.cut (fun E wv=> ∃(y:List Int) (H:List Int) (p:Int) (g:Int) (V:List Int) (Q:Option Addr) (X M:Nat) (N:Option Addr) (Y T:Nat),E 6=.slice none 0 0∧E 7=.slice none 0 0∧E 8=iv 0∧E 11=.slice Q X M∧E 12=.slice N Y T∧E 13=iv p∧I64 p∧I64 g∧(H=[]→N=none)∧Cx (fun _=>False) O0 w wv [.own 3 si (.slice Q X M) y,.own 3 si (.slice N Y T) H]∧(some (H,y,p):Option ((List Int)×(List Int)×Int))=some r) (fun _ hK69=>?_) ?_
 refine Wc.block ?_
 refine Wc.loop (fun m E wv=> ∃(y:List Int) (H:List Int) (p:Int) (g:Int) (V:List Int) (Q:Option Addr) (X M:Nat) (N:Option Addr) (Y T:Nat),E 2=.slice o d.length q∧E 3=pg g5∧E 6=.slice none 0 0∧E 7=.slice none 0 0∧E 8=iv 0∧E 9=.slice (some ad53) (((rZ c.length)).length) c12∧E 11=.slice Q X M∧E 12=.slice N Y T∧E 13=iv p∧E 14=iv g∧I64 p∧I64 g∧(H=[]→N=none)∧Cx (fun _=>False) O0 w wv [.ro (.sl si) [.slice o d.length q] d,.box g5 28 [.slice J c.length u,.slice D l.length B,iv U],.ro (.sl si) [.slice J c.length u] c,.ro (.sl si) [.slice D l.length B] l,.own 3 si (.slice (some ad53) (((rZ c.length)).length) c12) V,.own 3 si (.slice Q X M) y,.own 3 si (.slice N Y T) H]∧loopN m (F.qfc n c l d) (y,H,p,g,V)=some o68) n ⟨([j]:List Int),([]:List Int),a3,0,(K.set j.toNat 0),A44,(([j]:List Int)).length,c45,none,0,0,e2,e3,e6,e7,e8,e9,e11,e12,e13,rfl,c6,(show I64 0 from by unfold I64; omega),(fun _=>rfl),hC.sE [1,2,3,4,5,6,0],hl2⟩ ?_
 have hbK2:=hb
 clear hb hC hl2
 rintro m71 E73 w72 ⟨y,H,p,g,V,Q,X,M,N,Y,T,e2,e3,e6,e7,e8,e9,e11,e12,e13,e14,a1,b3,a8,hC,hl2⟩ K70 hK70
 obtain ⟨m71',o74,rfl,hb,hl2⟩:=qan hl2
 unfold F.qfc at hb
 obtain ⟨rfl,c7,c8⟩:=(hC.ow (i:=5) rfl).qad
 obtain ⟨rfl,c9,d0⟩:=(hC.ow (i:=6) rfl).qad
 refine Wc.seq fun _ hK75=>?_
 refine Wc.seq fun _ hK76=>rg<|lp _ (qaa e14)<|lp _ (qaa e11)<|lp (iv (y.length:Int)) (qao (A:=Q) (n:=y.length) (m:=M) underlying22 rfl)<|lp (.bool (decide (g<(y.length:Int)))) (qap (k:=.i64) (a:=g) (b:=(y.length:Int)) rfl rfl)<|ln (hK76 _ _ ?_)
 refine Wc.cond (t:=(decide (g<(y.length:Int)))) (rfl) (fun hq77=>?_) (fun hq77=>?_)
 replace hb:=tt hq77 hb
 refine Wc.skip (hK75 _ _ ?_)
 refine Wc.seq fun _ hK78=>?_
 refine Wc.block<|Wc.seq fun _ hK79=>rg<|lp _ (qaa e11)<|lp _ (qaa e14) ?_
 obtain ⟨x80,h81,hb⟩:=bd hb
 obtain ⟨ad82,cs83,hA,hc84,hr85⟩:=hC.elo (i:=5) rfl (qac h81).2
 subst hA
 refine lp (.pointer (some (ad82.add (g.toNat*1)))) (qaf (a:=g) underlying22 sizeOf3 rfl rfl (qac h81).1) ?_
 obtain ⟨rfl,hr85'⟩:=hr85
 refine lv (iv x80) (qaj isAgg3 rfl (hc84 0 _ rfl))<|lp (iv x80) (qab rfl)<|ln (hK79 _ _ ?_)
 refine Wc.seq fun _ hK86=>rg<|lp _ (qaa e12)<|lp (.pointer (some ((⟨g5,0,none⟩:Addr).add 0))) (qag (sz:=1) underlying28 rfl sizeOf22 (by decide) rfl e3)<|lv (.slice J c.length u) (qam (hC.bx (i:=1) rfl) isAgg22 rfl rfl)<|lp (iv x80) (qaa rfl) ?_
 obtain ⟨x87,h88,hb⟩:=bd hb
 obtain ⟨ad89,cs90,hA,hc91,hr92⟩:=hC.elr (i:=2) rfl (qac h88).2
 subst hA
 refine lp (.pointer (some (ad89.add (x80.toNat*1)))) (qaf (a:=x80) underlying22 sizeOf3 rfl rfl (qac h88).1) ?_
 obtain ⟨rfl,hr92'⟩:=hr92
 refine lv (iv x87) (qaj isAgg3 rfl (hc91 0 _ rfl))<|lex.op (hC.lit (s:=si) (vs:=[iv x87]) (xs:=[x87]) underlying22 type3 rfl rfl (nb rfl) rfl rfl (by simp [Value.cells,Sh.n]) rfl (show Elems _ _ si ([iv x87]++([])) ([x87]:List Int) from Elems.cons (⟨rfl,I64.wr (qay hr92')⟩) (Elems.nil _ _ _))) ?_
 rintro _ w97 ⟨A93,c94,rfl,hl95,hc96,hC,-,-⟩
 obtain ⟨u99,h100,hb⟩:=bd hb
 refine lex.op (hC.app (i:=7) (s:=si) (xs:=H) (ys:=([x87]:List Int)) (m:=((([x87]:List Int)).length)) rfl underlying22 underlying22 type3 rfl rfl rfl (hC.srco (i:=0) rfl) rfl rfl (by have:=qaw h100; simp at this⊢ <;>omega) (by decide)) ?_
 rintro _ w105 ⟨A101,c102,rfl,hl103,hc104,hC,-,-⟩
 refine lp (.slice A101 ((H++([x87]:List Int)).length) c102) (qab rfl)<|ln (hK86 _ _ ?_)
 refine Wc.fresh fun E106 hE=>?_
 have e2:=cg hE 2 e2
 have e3:=cg hE 3 e3
 have e6:=cg hE 6 e6
 have e7:=cg hE 7 e7
 have e8:=cg hE 8 e8
 have e9:=cg hE 9 e9
 have e11:=cg hE 11 e11
 have e12:E106 12=.slice A101 ((H++([x87]:List Int)).length) c102:=cg hE 12 rfl
 have e13:=cg hE 13 e13
 have e14:=cg hE 14 e14
 have e15:E106 15=iv x80:=cg hE 15 rfl
 have e41:E106 41=.bool (decide (g<(y.length:Int))):=cg hE 41 rfl
 clear hE
 refine Wc.seq fun _ hK107=>?_
 refine Wc.seq fun _ hK108=>rg<|lp (iv 0) (qaa rfl)<|ln (hK108 _ _ ?_)
 obtain ⟨o109,hl3,hb⟩:=bd hb
 refine Wc.cut (fun E wv=> ∃(x:List Int) (f:List Int) (z:Int) (P:List Int) (R:Option Addr) (Z S:Nat) (C:Option Addr) (a0 G:Nat),E 2=.slice o d.length q∧E 3=pg g5∧E 6=.slice none 0 0∧E 7=.slice none 0 0∧E 8=iv 0∧E 9=.slice (some ad53) (((rZ c.length)).length) c12∧E 11=.slice R Z S∧E 12=.slice C a0 G∧E 13=iv p∧E 14=iv g∧E 15=iv x80∧E 41=.bool (decide (g<(y.length:Int)))∧E 56=iv z∧I64 z∧(f=[]→C=none)∧Cx (fun _=>False) O0 w wv [.ro (.sl si) [.slice o d.length q] d,.box g5 28 [.slice (some ad89) c.length u,.slice D l.length B,iv U],.ro (.sl si) [.slice (some ad89) c.length u] c,.ro (.sl si) [.slice D l.length B] l,.own 3 si (.slice (some ad53) (((rZ c.length)).length) c12) P,.own 3 si (.slice R Z S) x,.own 3 si (.slice C a0 G) f]∧(cond (decide (p=0)) ((chk (5*g)).bind fun z216=>(cut z216 (f.length:Int) f.length).bind fun u218=>(chk (5*g)).bind fun z227=>(chk (5*g)).bind fun z229=>(chk (z229+5)).bind fun z231=>(cut z227 z231 d.length).bind fun u233=>(F.qci n ((f.drop z216.toNat).take ((f.length:Int).toNat-z216.toNat)) ((d.drop z227.toNat).take (z231.toNat-z227.toNat))).bind fun y242=>cond (decide (0<y242)) (some (.inr (.inr ([],[],1)))) ((chk (g+1)).bind fun z252=>some (.inl (x,f,y242,z252,P)))) (cond (decide (0<p)) (some (.inr (.inr ([],[],1)))) ((chk (g+1)).bind fun z259=>some (.inl (x,f,p,z259,P)))):Option (((List Int)×(List Int)×Int×Int×(List Int))⊕(((List Int)×(List Int)×Int×Int×(List Int))⊕((List Int)×(List Int)×Int))))=some o74) (fun _ hK110=>?_) ?_
 refine Wc.block ?_
 refine Wc.loop (fun m E wv=> ∃(x:List Int) (f:List Int) (z:Int) (P:List Int) (R:Option Addr) (Z S:Nat) (C:Option Addr) (a0 G:Nat),E 2=.slice o d.length q∧E 3=pg g5∧E 6=.slice none 0 0∧E 7=.slice none 0 0∧E 8=iv 0∧E 9=.slice (some ad53) (((rZ c.length)).length) c12∧E 11=.slice R Z S∧E 12=.slice C a0 G∧E 13=iv p∧E 14=iv g∧E 15=iv x80∧E 41=.bool (decide (g<(y.length:Int)))∧E 56=iv z∧I64 z∧(f=[]→C=none)∧Cx (fun _=>False) O0 w wv [.ro (.sl si) [.slice o d.length q] d,.box g5 28 [.slice (some ad89) c.length u,.slice D l.length B,iv U],.ro (.sl si) [.slice (some ad89) c.length u] c,.ro (.sl si) [.slice D l.length B] l,.own 3 si (.slice (some ad53) (((rZ c.length)).length) c12) P,.own 3 si (.slice R Z S) x,.own 3 si (.slice C a0 G) f]∧loopN m (F.qcz n l x80) (x,f,z,P)=some o109) n ⟨y,(H++([x87]:List Int)),0,V,(some ad82),y.length,M,A101,(H++([x87]:List Int)).length,c102,e2,e3,e6,e7,e8,e9,e11,e12,e13,e14,e15,e41,rfl,(show I64 0 from by unfold I64; omega),(fun h=>absurd h (by simp)),hC.sE [1,2,3,4,5,6,7],hl3⟩ ?_
 have hbK3:=hb
 clear hb hC hl3
 rintro m112 E114 w113 ⟨x,f,z,P,R,Z,S,C,a0,G,e2,e3,e6,e7,e8,e9,e11,e12,e13,e14,e15,e41,e56,b4,a2,hC,hl3⟩ K111 hK111
 obtain ⟨m112',o115,rfl,hb,hl3⟩:=qan hl3
 unfold F.qcz at hb
 obtain ⟨rfl,b5,b6⟩:=(hC.ow (i:=5) rfl).qad
 obtain ⟨rfl,d1,d2⟩:=(hC.ow (i:=6) rfl).qad
 refine Wc.seq fun _ hK116=>rg<|lp (.bool (decide (z<4))) (qap (k:=.i64) (a:=z) (b:=4) e56 rfl)<|ln (hK116 _ _ ?_)
 refine Wc.seq fun _ hK117=>?_
 refine Wc.cond (t:=(decide (z<4))) (rfl) (fun hq118=>?_) (fun hq118=>?_)
 replace hb:=tt hq118 hb
 refine Wc.skip (hK117 _ _ ?_)
 refine Wc.seq fun _ hK119=>?_
 refine Wc.block<|Wc.seq fun _ hK120=>rg<|lp _ (qaa e56)<|lp (iv z) (qab rfl)<|ln (hK120 _ _ ?_)
 refine Wc.seq fun _ hK121=>rg<|lp (.pointer (some ((⟨g5,0,none⟩:Addr).add 1))) (qag (sz:=1) underlying28 rfl sizeOf22 (by decide) rfl e3)<|lv (.slice D l.length B) (qam (hC.bx (i:=1) rfl) isAgg22 rfl rfl)<|lp _ (qaa e15) ?_
 obtain ⟨z122,h123,hb⟩:=bd hb
 refine lp (iv z122) (qbx (a:=4) (b:=x80) rfl rfl h123)<|lp (iv z) (qaa rfl) ?_
 obtain ⟨z124,h125,hb⟩:=bd hb
 refine lp (iv z124) (qal (a:=z122) (b:=z) rfl rfl h125) ?_
 obtain ⟨x126,h127,hb⟩:=bd hb
 obtain ⟨ad128,cs129,hA,hc130,hr131⟩:=hC.elr (i:=3) rfl (qac h127).2
 subst hA
 refine lp (.pointer (some (ad128.add (z124.toNat*1)))) (qaf (a:=z124) underlying22 sizeOf3 rfl rfl (qac h127).1) ?_
 obtain ⟨rfl,hr131'⟩:=hr131
 refine lv (iv x126) (qaj isAgg3 rfl (hc130 0 _ rfl))<|lp (iv x126) (qab rfl)<|ln (hK121 _ _ ?_)
 refine Wc.fresh fun E132 hE=>?_
 have e2:=cg hE 2 e2
 have e3:=cg hE 3 e3
 have e6:=cg hE 6 e6
 have e7:=cg hE 7 e7
 have e8:=cg hE 8 e8
 have e9:=cg hE 9 e9
 have e11:=cg hE 11 e11
 have e12:=cg hE 12 e12
 have e13:=cg hE 13 e13
 have e14:=cg hE 14 e14
 have e15:=cg hE 15 e15
 have e16:E132 16=iv z:=cg hE 16 rfl
 have e17:E132 17=iv x126:=cg hE 17 rfl
 have e41:=cg hE 41 e41
 have e56:=cg hE 56 e56
 have e57:E132 57=.bool (decide (z<4)):=cg hE 57 rfl
 clear hE
 refine Wc.seqJ (fun E wv=> ∃(a4:List Int) (b7:Bool) (a5:List Int) (a6:Option Addr) (a9 a7:Nat),E 2=.slice o d.length q∧E 3=pg g5∧E 6=.slice none 0 0∧E 7=.slice none 0 0∧E 8=iv 0∧E 9=.slice (some ad53) (((rZ c.length)).length) c12∧E 11=.slice a6 a9 a7∧E 12=.slice C f.length G∧E 13=iv p∧E 14=iv g∧E 15=iv x80∧E 16=iv z∧E 17=iv x126∧E 41=.bool (decide (g<(y.length:Int)))∧E 56=iv z∧E 57=.bool (decide (z<4))∧E 72=.bool b7∧Cx (fun _=>False) O0 w wv [.ro (.sl si) [.slice o d.length q] d,.box g5 28 [.slice (some ad89) c.length u,.slice (some ad128) l.length B,iv U],.ro (.sl si) [.slice (some ad89) c.length u] c,.ro (.sl si) [.slice (some ad128) l.length B] l,.own 3 si (.slice (some ad53) (((rZ c.length)).length) c12) a5,.own 3 si (.slice a6 a9 a7) a4,.own 3 si (.slice C f.length G) f]∧F.qfb n f z x126 a4 b7 a5=some o115) (fun _ hK133=>?_) ?_
 refine Wc.seq fun _ hK134=>rg<|lp _ (qaa e9)<|lp _ (qaa e17) ?_
 obtain ⟨u135,h136,hb⟩:=bd hb
 obtain ⟨z137,h138,hb⟩:=bd hb
 refine lp (iv z137) (pu_quoc (a:=x126) (b:=4) rfl rfl h136 h138) ?_
 obtain ⟨x139,h140,hb⟩:=bd hb
 obtain ⟨ad141,cs142,hA,hc143,hr144⟩:=hC.elo (i:=4) rfl (qac h140).2
 obtain rfl:=Option.some.inj hA
 refine lp (.pointer (some (ad53.add (z137.toNat*1)))) (qaf (a:=z137) underlying22 sizeOf3 rfl rfl (by rw [(hC.ow (i:=4) rfl).qad.1]; exact (qac h140).1)) ?_
 obtain ⟨rfl,hr144'⟩:=hr144
 refine lv (iv x139) (qaj isAgg3 rfl (hc143 0 _ rfl))<|lp (.bool (decide (x139<0))) (qap (k:=.i64) (a:=x139) (b:=0) rfl rfl)<|ln (hK134 _ _ ?_)
 refine Wc.cond (t:=(decide (x139<0))) (rfl) (fun hq145=>?_) (fun hq145=>?_)
 replace hb:=tt hq145 hb
 refine Wc.seq fun _ hK146=>rg<|lp _ (qaa e9)<|lp _ (qaa e17) ?_
 obtain ⟨u147,h148,hb⟩:=bd hb
 obtain ⟨z149,h150,hb⟩:=bd hb
 refine lp (iv z149) (pu_quoc (a:=x126) (b:=4) rfl rfl h148 h150)<|lp _ (qaa e11)<|lp (iv (x.length:Int)) (qao (A:=R) (n:=x.length) (m:=S) underlying22 rfl) ?_
 obtain ⟨x151,h152,hb⟩:=bd hb
 obtain ⟨ad153,cs154,hA,hc155,hr156⟩:=hC.elo (i:=4) rfl (qac h152).2
 obtain rfl:=Option.some.inj hA
 refine lp (.pointer (some (ad53.add (z149.toNat*1)))) (qaf (a:=z149) underlying22 sizeOf3 rfl rfl (by rw [(hC.ow (i:=4) rfl).qad.1]; exact (qac h152).1))<|lex.sk (hC.put (i:=4) rfl rfl sizeOf3 (k:=z149.toNat) (a:=(x.length:Int)) (by have:=(qac h152).1; simp at this⊢; omega) (⟨rfl,I64.wr (I64.len b5 b6)⟩) rfl rfl rfl) ?_
 rintro w157 ⟨hC,hF⟩
 refine ln (hK146 _ _ ?_)
 refine Wc.fresh fun E158 hE=>?_
 have e2:=cg hE 2 e2
 have e3:=cg hE 3 e3
 have e6:=cg hE 6 e6
 have e7:=cg hE 7 e7
 have e8:=cg hE 8 e8
 have e9:=cg hE 9 e9
 have e11:=cg hE 11 e11
 have e12:=cg hE 12 e12
 have e13:=cg hE 13 e13
 have e14:=cg hE 14 e14
 have e15:=cg hE 15 e15
 have e16:=cg hE 16 e16
 have e17:=cg hE 17 e17
 have e41:=cg hE 41 e41
 have e56:=cg hE 56 e56
 have e57:=cg hE 57 e57
 have e72:E158 72=.bool (decide (x139<0)):=cg hE 72 rfl
 clear hE
 refine rg<|lp _ (qaa e11)<|lp _ (qaa e17) ?_
 obtain ⟨u159,h160,hb⟩:=bd hb
 obtain ⟨z161,h162,hb⟩:=bd hb
 refine lp (iv z161) (pu_quoc (a:=x126) (b:=4) rfl rfl h160 h162)<|lex.op (hC.lit (s:=si) (vs:=[iv z161]) (xs:=[z161]) underlying22 type3 rfl rfl (nb rfl) rfl rfl (by simp [Value.cells,Sh.n]) rfl (show Elems _ _ si ([iv z161]++([])) ([z161]:List Int) from Elems.cons (⟨rfl,I64.wr (qai h162)⟩) (Elems.nil _ _ _))) ?_
 rintro _ w167 ⟨A163,c164,rfl,hl165,hc166,hC,-,-⟩
 obtain ⟨u169,h170,hb⟩:=bd hb
 refine lex.op (hC.app (i:=6) (s:=si) (xs:=x) (ys:=([z161]:List Int)) (m:=((([z161]:List Int)).length)) rfl underlying22 underlying22 type3 rfl rfl rfl (hC.srco (i:=0) rfl) rfl rfl (by have:=qaw h170; simp at this⊢ <;>omega) (by decide)) ?_
 rintro _ w175 ⟨A171,c172,rfl,hl173,hc174,hC,-,-⟩
 refine lp (.slice A171 ((x++([z161]:List Int)).length) c172) (qab rfl)<|ln ?_
 exact hK133 _ _ ⟨(x++([z161]:List Int)),(decide (x139<0)),(P.set z149.toNat (x.length:Int)),A171,(x++([z161]:List Int)).length,c172,e2,e3,e6,e7,e8,e9,rfl,e12,e13,e14,e15,e16,e17,e41,e56,e57,e72,hC.sE [1,2,3,4,5,6,7],hb⟩
 replace hb:=tf hq145 hb
 refine Wc.skip ?_
 exact hK133 _ _ ⟨x,(decide (x139<0)),P,R,x.length,S,e2,e3,e6,e7,e8,e9,e11,e12,e13,e14,e15,e16,e17,e41,e56,e57,rfl,hC.sE [0,1,2,3,4,5,6],hb⟩
 clear hb hC
 rintro E177 w176 ⟨a4,b7,a5,a6,a9,a7,e2,e3,e6,e7,e8,e9,e11,e12,e13,e14,e15,e16,e17,e41,e56,e57,e72,hC,hb⟩
 unfold F.qfb at hb
 obtain ⟨rfl,d9,e0⟩:=(hC.ow (i:=5) rfl).qad
 refine rg<|lp _ (qaa e12)<|lp _ (qaa e9)<|lp _ (qaa e17) ?_
 obtain ⟨u178,h179,hb⟩:=bd hb
 obtain ⟨z180,h181,hb⟩:=bd hb
 refine lp (iv z180) (pu_quoc (a:=x126) (b:=4) rfl rfl h179 h181) ?_
 obtain ⟨x182,h183,hb⟩:=bd hb
 obtain ⟨ad184,cs185,hA,hc186,hr187⟩:=hC.elo (i:=4) rfl (qac h183).2
 obtain rfl:=Option.some.inj hA
 refine lp (.pointer (some (ad53.add (z180.toNat*1)))) (qaf (a:=z180) underlying22 sizeOf3 rfl rfl (by rw [(hC.ow (i:=4) rfl).qad.1]; exact (qac h183).1)) ?_
 obtain ⟨rfl,hr187'⟩:=hr187
 refine lv (iv x182) (qaj isAgg3 rfl (hc186 0 _ rfl)) ?_
 obtain ⟨z188,h189,hb⟩:=bd hb
 refine lp (iv z188) (qbx (a:=4) (b:=x182) rfl rfl h189)<|lp _ (qaa e17) ?_
 obtain ⟨u190,h191,hb⟩:=bd hb
 refine lp (iv (Int.tmod x126 4)) (pu_remc (a:=x126) (b:=4) rfl rfl h191) ?_
 obtain ⟨z192,h193,hb⟩:=bd hb
 refine lp (iv z192) (qal (a:=z188) (b:=(Int.tmod x126 4)) rfl rfl h193)<|lex.op (hC.lit (s:=si) (vs:=[iv z192]) (xs:=[z192]) underlying22 type3 rfl rfl (nb rfl) rfl rfl (by simp [Value.cells,Sh.n]) rfl (show Elems _ _ si ([iv z192]++([])) ([z192]:List Int) from Elems.cons (⟨rfl,I64.wr (qai h193)⟩) (Elems.nil _ _ _))) ?_
 rintro _ w198 ⟨A194,c195,rfl,hl196,hc197,hC,-,-⟩
 obtain ⟨u200,h201,hb⟩:=bd hb
 refine lex.op (hC.app (i:=7) (s:=si) (xs:=f) (ys:=([z192]:List Int)) (m:=((([z192]:List Int)).length)) rfl underlying22 underlying22 type3 rfl rfl rfl (hC.srco (i:=0) rfl) rfl rfl (by have:=qaw h201; simp at this⊢ <;>omega) (by decide)) ?_
 rintro _ w206 ⟨A202,c203,rfl,hl204,hc205,hC,-,-⟩
 refine lp (.slice A202 ((f++([z192]:List Int)).length) c203) (qab rfl)<|ln (hK119 _ _ ?_)
 refine rg ?_
 obtain ⟨z207,h208,hb⟩:=bd hb
 refine lp (iv z207) (qal (a:=z) (b:=1) e56 rfl h208)<|lp (iv z207) (qaa rfl)<|ln ?_
 obtain rfl:=os hb
 exact hK111 m112' _ _ (Nat.lt_succ_self _) ⟨a4,(f++([z192]:List Int)),z207,a5,a6,a4.length,a7,A202,(f++([z192]:List Int)).length,c203,e2,e3,e6,e7,e8,e9,e11,rfl,e13,e14,e15,e41,rfl,(qai h208),(fun h=>absurd h (by simp)),hC.sE [1,2,3,4,5,6,7],lN hl3⟩
 replace hb:=tf hq118 hb
 refine Wc.exit rfl ?_
 obtain rfl:=os hb
 obtain rfl:=(lX hl3).symm
 exact hK110 _ _ ⟨x,f,z,P,R,x.length,S,C,f.length,G,e2,e3,e6,e7,e8,e9,e11,e12,e13,e14,e15,e41,e56,b4,a2,hC.sE [0,1,2,3,4,5,6],hbK3⟩
 clear hb hC hl3
 rintro E210 w209 ⟨x,f,z,P,R,Z,S,C,a0,G,e2,e3,e6,e7,e8,e9,e11,e12,e13,e14,e15,e41,e56,b4,a2,hC,hb⟩
 obtain ⟨rfl,b5,b6⟩:=(hC.ow (i:=5) rfl).qad
 obtain ⟨rfl,d1,d2⟩:=(hC.ow (i:=6) rfl).qad
 refine hK107 _ _ ?_
 refine Wc.seq fun _ hK211=>?_
 refine Wc.seq fun _ hK212=>rg<|lp _ (qaa e13)<|lp (.bool (decide (p=0))) (qef (k:=.i64) (a:=p) (b:=0) rfl rfl)<|ln (hK212 _ _ ?_)
 refine Wc.cond (t:=(decide (p=0))) (rfl) (fun hq213=>?_) (fun hq213=>?_)
 replace hb:=tt hq213 hb
 refine Wc.regionMix [] (frm [] ([]:List Fact) ([]:List Fact)) (fun _=>rfl) mixed (by decide+kernel) (by decide+kernel) fun w215 hw214=>?_
 replace hC:=hC.step (Fr.qbb hw214)
 have hM:=Fr.refl (fun k=>k∈blocks ([]:List Fact)) w215
 clear hw214
 have hS:=hC
 refine mp (.slice C f.length G) (qaa e12)<|mp (iv g) (qaa e14) ?_
 obtain ⟨z216,h217,hb⟩:=bd hb
 refine mp (iv z216) (qbx (a:=5) (b:=g) rfl rfl h217) ?_
 obtain ⟨u218,h219,hb⟩:=bd hb
 obtain ⟨A220,c221,hp224,hR225⟩:=pu_part_l (a:=z216) underlying22 sizeOf3 ((hC.ow (i:=6) rfl).lend (vs:=[.slice C f.length G]) (by simp)) rfl (cut_some h219)
 refine mp (.slice A220 (((f.drop z216.toNat).take ((f.length:Int).toNat-z216.toNat)).length) c221) (hp224 rfl rfl )<|mp (.slice o d.length q) (qaa e2)<|mp (iv g) (qaa e14) ?_
 obtain ⟨z227,h228,hb⟩:=bd hb
 refine mp (iv z227) (qbx (a:=5) (b:=g) rfl rfl h228)<|mp (iv g) (qaa e14) ?_
 obtain ⟨z229,h230,hb⟩:=bd hb
 refine mp (iv z229) (qbx (a:=5) (b:=g) rfl rfl h230) ?_
 obtain ⟨z231,h232,hb⟩:=bd hb
 refine mp (iv z231) (qal (a:=z229) (b:=5) rfl rfl h232) ?_
 obtain ⟨u233,h234,hb⟩:=bd hb
 obtain ⟨A235,c236,hp239,hR240⟩:=pu_part_lh (a:=z227) (b:=z231) underlying22 sizeOf3 (hC.rd (i:=0) rfl) rfl (cut_some h234)
 refine mp (.slice A235 (((d.drop z227.toNat).take (z231.toNat-z227.toNat)).length) c236) (hp239 rfl rfl rfl) ?_
 replace hC:=hC.ro hR240
 obtain ⟨-,hl237,hc238⟩:=(hC.rd (i:=0) rfl).qad
 obtain ⟨y242,h243,hb⟩:=bd hb
 refine mixE.cl hM (⟨_,_,qas (vs:=[.slice A220 (((f.drop z216.toNat).take ((f.length:Int).toNat-z216.toNat)).length) c221,.slice A235 (((d.drop z227.toNat).take (z231.toNat-z227.toNat)).length) c236]) call90 rfl rfl rfl,qgi n (hC.lentLt [.slice C f.length G]) (hR225.more (by simp)) ((hC.rd (i:=0) rfl).lent [.slice C f.length G]) h243⟩) ?_
 rintro _ w245 ⟨rfl,hr244,hK⟩
 replace hM:=hM.none hK.fr
 refine ⟨hM,?_⟩
 replace hC:=hC.mergeF hK rfl
 clear hK
 refine mp (iv y242) (qab rfl)<|mixE.nil ?_
 clear hS hM
 refine hK211 _ _<|Wc.fresh fun E246 hE=>?_
 have e2:=cg hE 2 e2
 have e3:=cg hE 3 e3
 have e6:=cg hE 6 e6
 have e7:=cg hE 7 e7
 have e8:=cg hE 8 e8
 have e9:=cg hE 9 e9
 have e11:=cg hE 11 e11
 have e12:=cg hE 12 e12
 have e13:E246 13=iv y242:=cg hE 13 rfl
 have e14:=cg hE 14 e14
 have e15:=cg hE 15 e15
 have e41:=cg hE 41 e41
 have e56:=cg hE 56 e56
 have e98:E246 98=.bool (decide (p=0)):=cg hE 98 rfl
 clear hE
 refine Wc.seq fun _ hK247=>rg<|lp _ (qaa e13)<|lp (.bool (decide (0<y242))) (qed (k:=.i64) (a:=y242) (b:=0) rfl rfl)<|ln (hK247 _ _ ?_)
 refine Wc.cond (t:=(decide (0<y242))) (rfl) (fun hq248=>?_) (fun hq248=>?_)
 replace hb:=tt hq248 hb
 refine Wc.seq fun _ hK249=>rg<|lp (.slice none 0 0) (qab rfl)<|lp (.slice none 0 0) (qab rfl)<|lp (iv 1) (qab rfl)<|ln (hK249 _ _ ?_)
 obtain rfl:=os hb
 obtain rfl:=(lX hl2).symm
 replace hb:=hbK2
 replace hC:=hC.nil 3 si
 replace hC:=hC.nil 3 si
 obtain rfl:=os hb
 refine Wc.ret (hKR _ _ ?_)
 refine ⟨_,res3 results87 (tV (.slice none 0 0) rfl) (tV (.slice none 0 0) rfl) (tV (iv 1) rfl),_,rfl,none,0,0,none,0,0,rfl,(fun _=>rfl),(show I64 1 from by unfold I64; omega),hC.sE [1,0]⟩
 replace hb:=tf hq248 hb
 refine Wc.skip (hK78 _ _ ?_)
 refine rg<|lp _ (qaa e14) ?_
 obtain ⟨z252,h253,hb⟩:=bd hb
 refine lp (iv z252) (qal (a:=g) (b:=1) rfl rfl h253)<|lp (iv z252) (qab rfl)<|ln ?_
 obtain rfl:=os hb
 exact hK70 m71' _ _ (Nat.lt_succ_self _) ⟨x,f,y242,z252,P,R,x.length,S,C,f.length,G,e2,e3,e6,e7,e8,e9,e11,e12,e13,rfl,hr244,(qai h253),a2,hC.sE [1,2,3,4,5,6,7],lN hl2⟩
 replace hb:=tf hq213 hb
 refine Wc.skip (hK211 _ _ ?_)
 refine Wc.seq fun _ hK254=>rg<|lp _ (qaa e13)<|lp (.bool (decide (0<p))) (qed (k:=.i64) (a:=p) (b:=0) rfl rfl)<|ln (hK254 _ _ ?_)
 refine Wc.cond (t:=(decide (0<p))) (rfl) (fun hq255=>?_) (fun hq255=>?_)
 replace hb:=tt hq255 hb
 refine Wc.seq fun _ hK256=>rg<|lp (.slice none 0 0) (qab rfl)<|lp (.slice none 0 0) (qab rfl)<|lp (iv 1) (qab rfl)<|ln (hK256 _ _ ?_)
 obtain rfl:=os hb
 obtain rfl:=(lX hl2).symm
 replace hb:=hbK2
 replace hC:=hC.nil 3 si
 replace hC:=hC.nil 3 si
 obtain rfl:=os hb
 refine Wc.ret (hKR _ _ ?_)
 refine ⟨_,res3 results87 (tV (.slice none 0 0) rfl) (tV (.slice none 0 0) rfl) (tV (iv 1) rfl),_,rfl,none,0,0,none,0,0,rfl,(fun _=>rfl),(show I64 1 from by unfold I64; omega),hC.sE [1,0]⟩
 replace hb:=tf hq255 hb
 refine Wc.skip (hK78 _ _ ?_)
 refine rg<|lp _ (qaa e14) ?_
 obtain ⟨z259,h260,hb⟩:=bd hb
 refine lp (iv z259) (qal (a:=g) (b:=1) rfl rfl h260)<|lp (iv z259) (qab rfl)<|ln ?_
 obtain rfl:=os hb
 exact hK70 m71' _ _ (Nat.lt_succ_self _) ⟨x,f,p,z259,P,R,x.length,S,C,f.length,G,e2,e3,e6,e7,e8,e9,e11,e12,e13,rfl,a1,(qai h260),a2,hC.sE [0,1,2,3,4,5,6],lN hl2⟩
 replace hb:=tf hq77 hb
 refine Wc.exit rfl ?_
 obtain rfl:=os hb
 obtain rfl:=(lX hl2).symm
 exact hK69 _ _ ⟨y,H,p,g,V,Q,y.length,M,N,H.length,T,e6,e7,e8,e11,e12,e13,a1,b3,a8,hC.sE [5,6],hbK2⟩
 clear hb hC hl2
 rintro E262 w261 ⟨y,H,p,g,V,Q,X,M,N,Y,T,e6,e7,e8,e11,e12,e13,a1,b3,a8,hC,hb⟩
 obtain ⟨rfl,c7,c8⟩:=(hC.ow (i:=0) rfl).qad
 obtain ⟨rfl,c9,d0⟩:=(hC.ow (i:=1) rfl).qad
 refine hK65 _ _<|Wc.seq fun _ hK263=>rg<|lp _ (qaa e12)<|lp _ (qaa e11)<|lp _ (qaa e13)<|lp (.slice N H.length T) (qab rfl)<|lp (.slice Q y.length M) (qab rfl)<|lp (iv p) (qab rfl)<|ln (hK263 _ _ ?_)
 obtain rfl:=os hb
 refine Wc.ret (hKR _ _ ?_)
 refine ⟨_,res3 results87 (tV (.slice N H.length T) rfl) (tV (.slice Q y.length M) rfl) (tV (iv p) rfl),_,rfl,N,H.length,T,Q,y.length,M,rfl,a8,a1,hC.sE [1,0]⟩
