import Derived.Test.YteajmbanlohncaaS
import Derived.Test.YteajmbanlohncaaG23
import Derived.Test.YteajmbanlohncaaG24
import Derived.Test.YteajmbanlohncaaG29
set_option linter.unusedVariables false
set_option linter.unusedSimpArgs false
namespace Go.Proofs.Yteajmbanlohncaa
open Ev Try
set_option maxRecDepth 100000
set_option maxHeartbeats 4000000
theorem mirror_Reverse_ok (n:Nat) {w:World} {O0:List Nat} (hO: ∀k∈O0,k<w.heap.size) {a:Option Addr} {j b:Nat} {g:List Int} (l:Rep O0 w (.sl si) [.slice a j b] g) {c:Option Addr} {m d:Nat} {h:List Int} (o:Rep O0 w (.sl si) [.slice c m d] h) {f:Int} (p:I64 f) {r:(List Int)×(List Int)×Int×Int} (hb:F.mirror_Reverse n g h f=some r):
    Calls prog 41 #[.agg #[.slice a j b,.slice c m d,iv f]] w fun e w'=> ∃v,e=.returned v∧∃(A0:Option Addr) (m0 c0:Nat) (A1:Option Addr) (m1 c1:Nat),v=.tuple #[.agg #[.slice A0 m0 c0,.slice A1 m1 c1,iv r.2.2.1],iv r.2.2.2]∧I64 r.2.2.1∧I64 r.2.2.2∧Cx (fun _=>False) O0 w w' [.own 3 si (.slice A0 m0 c0) r.1,.own 3 si (.slice A1 m1 c1) r.2.1]:=by
 unfold F.mirror_Reverse at hb
 have hC:=Cx.start hO
 replace hC:=hC.arg rfl l
 replace hC:=hC.arg rfl o
 clear hO
 obtain ⟨rfl,s,u⟩:=l.sl_len
 obtain ⟨rfl,x,y⟩:=o.sl_len
 refine calls_of_Wc func41 rfl (by rw [ntmps41]; exact nb rfl) fun KR hKR=>?_
 refine Wc.seq fun _ hK3=>rg<|lex.op (hC.box (cs:=[.slice a g.length b,.slice c h.length d,iv f]) rfl rfl) ?_
 rintro _ w5 ⟨g4,rfl,hC,hF,-⟩
 refine lex.op (hC.alloc (cs:=[.slice none 0 0,.slice none 0 0,iv 0]) zeroValue32 rfl) ?_
 rintro _ w8 ⟨g7,rfl,hC,hF,-⟩
 refine lp (iv 0) (pu_assign rfl)<|ln (hK3 _ _ ?_)
 refine Wc.seq fun _ hK10=>?_
 refine Wc.seq fun _ hK11=>rg<|lv (.agg #[.slice a g.length b,.slice c h.length d,iv f]) (ld_blk (hC.bx (i:=1) rfl) isAgg32 sizeOf32 rfl) ?_
 obtain ⟨y12,h13,hb⟩:=bd hb
 refine lex.cl (⟨_,_,op_call (vs:=[.agg #[.slice a g.length b,.slice c h.length d,iv f]]) call27 rfl rfl rfl,diagram_Valid_ok n hC.lt (hC.rd (i:=3) rfl) (hC.rd (i:=2) rfl) p h13⟩) ?_
 rintro _ w14 ⟨rfl,hK⟩
 replace hC:=hC.merge hK
 clear hK
 refine lp (.bool (!y12)) (pu_not (q:=y12) rfl)<|ln (hK11 _ _ ?_)
 refine Wc.cond (t:=(!y12)) (rfl) (fun hq15=>?_) (fun hq15=>?_)
 replace hb:=tt hq15 hb
 refine Wc.seq fun _ hK16=>rg<|lp (.agg #[.slice none 0 0,.slice none 0 0,iv 0]) (pu_builds (places:=[(0,1),(1,1),(2,1)]) (pv:=[]) type32 underlying32 rfl (mp_cons type30 (mp_cons type30 (mp_cons type3 mp_nil rfl rfl) rfl rfl) rfl rfl) rfl (by simp [Instr.fill,Value.cells]))<|lex.sk (hC.seta (i:=0) (ds:=[.slice none 0 0,.slice none 0 0,iv 0]) rfl type32 rfl rfl rfl rfl rfl) ?_
 rintro w17 ⟨hC,hF⟩
 refine lp (iv 1) (pu_assign rfl)<|ln (hK16 _ _ ?_)
 replace hC:=hC.nil 3 si
 replace hC:=hC.nil 3 si
 obtain rfl:=os hb
 refine Wc.ret (hKR _ _ ?_)
 refine ⟨_,res2 results41 ⟨_,rfl,loadVar_blk (hC.bx (i:=2) rfl) isAgg32 sizeOf32⟩ (tV (iv 1) rfl),_,rfl,none,0,0,none,0,0,rfl,(show I64 0 from by unfold I64; omega),(show I64 1 from by unfold I64; omega),hC.sE [1,0]⟩
 replace hb:=tf hq15 hb
 refine Wc.skip (hK10 _ _ ?_)
 refine Wc.seq fun _ hK20=>rg<|lp (.func (.func 77) #[] #[]) (pu_assign rfl)<|ln (hK20 _ _ ?_)
 refine Wc.seq fun _ hK21=>rg<|lv (.agg #[.slice a g.length b,.slice c h.length d,iv f]) (ld_blk (hC.bx (i:=1) rfl) isAgg32 sizeOf32 rfl)<|lp (.func (.func 77) #[] #[]) (pu_move rfl) ?_
 obtain ⟨y22,h23,hb⟩:=bd hb
 refine lex.cl (⟨_,_,op_call (vs:=[.agg #[.slice a g.length b,.slice c h.length d,iv f],.func (.func 77) #[] #[],.func (.func 78) #[] #[]]) call71 rfl rfl rfl,mirror_move_mirror_Reverse_c1_mirror_Reverse_c2_ok n hC.lt (hC.rd (i:=3) rfl) (hC.rd (i:=2) rfl) p h23⟩) ?_
 rintro _ w33 ⟨A24,m25,c26,A28,m29,c30,rfl,hr32,hK⟩
 replace hC:=hC.merge hK
 clear hK
 obtain ⟨rfl,hl34,hc35⟩:=(hC.ow (i:=0) rfl).sl_len
 obtain ⟨rfl,hl36,hc37⟩:=(hC.ow (i:=1) rfl).sl_len
 refine lex.sk (hC.seta (i:=2) (ds:=[.slice A24 y22.1.length c26,.slice A28 y22.2.1.length c30,iv y22.2.2]) rfl type32 rfl rfl rfl rfl rfl) ?_
 rintro w38 ⟨hC,hF⟩
 refine lp (iv 0) (pu_assign rfl)<|ln (hK21 _ _ ?_)
 obtain rfl:=os hb
 refine Wc.ret (hKR _ _ ?_)
 refine ⟨_,res2 results41 ⟨_,rfl,loadVar_blk (hC.bx (i:=2) rfl) isAgg32 sizeOf32⟩ (tV (iv 0) rfl),_,rfl,A24,y22.1.length,c26,A28,y22.2.1.length,c30,rfl,hr32,(show I64 0 from by unfold I64; omega),hC.sE [0,1]⟩

theorem diagram_Graph_ok (n:Nat) {w:World} {O0:List Nat} (hO: ∀k∈O0,k<w.heap.size) {l:Option Addr} {B o:Nat} {f:List Int} (C:Rep O0 w (.sl si) [.slice l B o] f) {p:Option Addr} {D u:Nat} {g:List Int} (G:Rep O0 w (.sl si) [.slice p D u] g) {y:Int} (H:I64 y) {r:(List (List Int))} (hb:F.diagram_Graph n f g y=some r):
    Calls prog 103 #[.agg #[.slice l B o,.slice p D u,iv y]] w fun e w'=> ∃v,e=.returned v∧∃(A0:Option Addr) (m0 c0:Nat),v=.slice A0 m0 c0∧Cx (fun _=>False) O0 w w' [.ro (.sl (.sl si)) [.slice A0 m0 c0] r]:=by
 unfold F.diagram_Graph at hb
 have hC:=Cx.start hO
 replace hC:=hC.arg rfl C
 replace hC:=hC.arg rfl G
 clear hO
 obtain ⟨rfl,J,K⟩:=C.sl_len
 obtain ⟨rfl,L,M⟩:=G.sl_len
 replace hC:=hC.noT
 refine calls_of_Wc func103 rfl (by rw [ntmps103]; exact nb rfl) fun KR hKR=>?_
 refine Wc.seq fun _ hK3=>rg ?_
 replace hC:Cx (fun _=>False) O0 w w ([.ro (.sl si) [.slice p g.length u] g,.ro (.sl si) [.slice l f.length o] f]++([]:List Fact)):=hC
 refine lex.op (hC.box (cs:=[.slice l f.length o,.slice p g.length u,iv y]) rfl rfl) ?_
 rintro _ w5 ⟨g4,rfl,hC,hF,-⟩
 replace hC:Cx (fun _=>False) O0 w w5 ([.box g4 32 [.slice l f.length o,.slice p g.length u,iv y],.ro (.sl si) [.slice p g.length u] g,.ro (.sl si) [.slice l f.length o] f]++([]:List Fact)):=hC
 refine lp (.slice none 0 0) (pu_assign rfl)<|ln (hK3 _ _ ?_)
 refine Wc.seq fun _ hK7=>?_
 refine Wc.seq fun _ hK8=>rg<|lv (.agg #[.slice l f.length o,.slice p g.length u,iv y]) (ld_blk (hC.bx (i:=0) rfl) isAgg32 sizeOf32 rfl) ?_
 obtain ⟨y9,h10,hb⟩:=bd hb
 refine lex.cl (⟨_,_,op_call (vs:=[.agg #[.slice l f.length o,.slice p g.length u,iv y]]) call27 rfl rfl rfl,diagram_Valid_ok n hC.lt (hC.rd (i:=2) rfl) (hC.rd (i:=1) rfl) H h10⟩) ?_
 rintro _ w11 ⟨rfl,hK⟩
 replace hC:=hC.merge hK
 clear hK
 replace hC:Cx (fun _=>False) O0 w w11 ([.box g4 32 [.slice l f.length o,.slice p g.length u,iv y],.ro (.sl si) [.slice p g.length u] g,.ro (.sl si) [.slice l f.length o] f]++([]:List Fact)):=hC
 refine lp (.bool (!y9)) (pu_not (q:=y9) rfl)<|ln (hK8 _ _ ?_)
 refine Wc.cond (t:=(!y9)) (rfl) (fun hq12=>?_) (fun hq12=>?_)
 replace hb:=tt hq12 hb
 refine Wc.seq fun _ hK13=>rg<|lp (.slice none 0 0) (pu_assign rfl)<|ln (hK13 _ _ ?_)
 replace hC:=hC.ro (show Rep _ _ (.sl (.sl si)) [.slice none 0 0] [] from ⟨none,0,rfl,Nat.le_refl _,by omega,fun h=>absurd h (by simp)⟩)
 replace hC:Cx (fun _=>False) O0 w w11 ([.ro (.sl (.sl si)) [.slice none 0 0] ([]:List (List Int)),.box g4 32 [.slice l f.length o,.slice p g.length u,iv y],.ro (.sl si) [.slice p g.length u] g,.ro (.sl si) [.slice l f.length o] f]++([]:List Fact)):=hC
 obtain rfl:=os hb
 refine Wc.ret (hKR _ _ ?_)
 refine ⟨_,res1 results103 (tV (.slice none 0 0) rfl),_,rfl,none,0,0,rfl,hC.sE [0]⟩
 replace hb:=tf hq12 hb
 refine Wc.skip (hK7 _ _ ?_)
 refine Wc.seq fun _ hK15=>rg<|lv (.agg #[.slice l f.length o,.slice p g.length u,iv y]) (ld_blk (hC.bx (i:=0) rfl) isAgg32 sizeOf32 rfl) ?_
 obtain ⟨y16,h17,hb⟩:=bd hb
 refine lex.cl (⟨_,_,op_call (vs:=[.agg #[.slice l f.length o,.slice p g.length u,iv y]]) call88 rfl rfl rfl,diagram_label_ok n hC.lt (hC.rd (i:=2) rfl) (hC.rd (i:=1) rfl) H h17⟩) ?_
 rintro _ w23 ⟨A18,m19,c20,rfl,hr22,hK⟩
 replace hC:=hC.merge hK
 clear hK
 obtain ⟨rfl,hl24,hc25⟩:=(hC.ow (i:=0) rfl).sl_len
 replace hC:Cx (fun _=>False) O0 w w23 ([.own 3 si (.slice A18 y16.1.length c20) y16.1,.box g4 32 [.slice l f.length o,.slice p g.length u,iv y],.ro (.sl si) [.slice p g.length u] g,.ro (.sl si) [.slice l f.length o] f]++([]:List Fact)):=hC
 refine lp (.tuple #[.slice A18 y16.1.length c20,iv y16.2]) (pu_move rfl)<|lp (.slice A18 y16.1.length c20) (pu_extract rfl rfl)<|lp (iv y16.2) (pu_extract rfl rfl)<|lp (.slice A18 y16.1.length c20) (pu_assign rfl)<|lp (iv y16.2) (pu_assign rfl)<|ln (hK15 _ _ ?_)
 refine Wc.fresh fun E26 hE=>?_
 have e2:E26 2=.slice none 0 0:=cg hE 2 rfl
 have e3:E26 3=.slice A18 y16.1.length c20:=cg hE 3 rfl
 have e4:E26 4=iv y16.2:=cg hE 4 rfl
 clear hE
 refine Wc.seq fun _ hK27=>rg<|lp _ (pu_move e4) ?_
 obtain ⟨u28,h29,hb⟩:=bd hb
 refine lex.op (hC.make (s:=.raw) (n:=y16.2) underlying93 type30 rfl rfl rfl rfl rfl (pos_some h29).1 (pos_some h29).2 (by decide)) ?_
 rintro _ w34 ⟨A30,c31,rfl,hl32,hc33,hC,-,-⟩
 replace hC:Cx (fun _=>False) O0 w w34 ([.own 30 .raw (.slice A30 (((List.replicate y16.2.toNat (Value.slice none 0 0))).length) c31) (List.replicate y16.2.toNat (Value.slice none 0 0)),.own 3 si (.slice A18 y16.1.length c20) y16.1,.box g4 32 [.slice l f.length o,.slice p g.length u,iv y],.ro (.sl si) [.slice p g.length u] g,.ro (.sl si) [.slice l f.length o] f]++([]:List Fact)):=hC
 replace hC:=hC.nilRows 3 si y16.2.toNat
 replace hC:Cx (fun _=>False) O0 w w34 ([.own 30 .raw (.slice A30 (((List.replicate y16.2.toNat (Value.slice none 0 0))).length) c31) (List.replicate y16.2.toNat (Value.slice none 0 0)),.own 3 si (.slice A18 y16.1.length c20) y16.1,.box g4 32 [.slice l f.length o,.slice p g.length u,iv y],.ro (.sl si) [.slice p g.length u] g,.ro (.sl si) [.slice l f.length o] f]++(rowsF 3 si (List.replicate y16.2.toNat (Value.slice none 0 0)) (List.replicate y16.2.toNat ([]:List Int))++([]:List Fact))):=hC
 refine lp (.slice A30 (((List.replicate y16.2.toNat (Value.slice none 0 0))).length) c31) (pu_assign rfl)<|ln (hK27 _ _ ?_)
 refine Wc.seq fun _ hK36=>?_
 refine Wc.seq fun _ hK37=>rg<|lp _ (pu_move e3)<|lp (iv (y16.1.length:Int)) (pu_len (A:=A18) (n:=y16.1.length) (m:=c20) underlying30 rfl)<|lp (iv 0) (pu_move rfl)<|ln (hK37 _ _ ?_)
 obtain ⟨o38,hl0,f38,hf38,hb⟩:=bn hb
 refine Wc.cut (fun E wv=> ∃(d:Int) (j:List (List Int)) (c:List Value),E 2=.slice none 0 0∧E 5=.slice A30 (((List.replicate y16.2.toNat (Value.slice none 0 0))).length) c31∧I64 d∧c.length=j.length∧Cx (fun _=>False) O0 w wv ([.own 30 .raw (.slice A30 (((List.replicate y16.2.toNat (Value.slice none 0 0))).length) c31) c]++(rowsF 3 si c j++([]:List Fact)))∧f38 (d,j)=some r) (fun _ hK39=>?_) ?_
 refine Wc.block ?_
 refine Wc.loop (fun m E wv=> ∃(d:Int) (j:List (List Int)) (c:List Value),E 2=.slice none 0 0∧E 5=.slice A30 (((List.replicate y16.2.toNat (Value.slice none 0 0))).length) c31∧E 18=.slice A18 y16.1.length c20∧E 19=iv (y16.1.length:Int)∧E 20=iv d∧I64 d∧c.length=j.length∧Cx (fun _=>False) O0 w wv ([.own 30 .raw (.slice A30 (((List.replicate y16.2.toNat (Value.slice none 0 0))).length) c31) c,.own 3 si (.slice A18 y16.1.length c20) y16.1]++(rowsF 3 si c j++([]:List Fact)))∧loopN m (F.diagram_Graph_b0 n y16) (d,j)=some o38) n ⟨0,(List.replicate y16.2.toNat ([]:List Int)),(List.replicate y16.2.toNat (Value.slice none 0 0)),e2,rfl,rfl,rfl,rfl,(show I64 0 from by unfold I64; omega),(nilRows_len y16.2.toNat (s:=si)),hC.selT [0,1] (by decide),hl0⟩ ?_
 have hbK0:=hb
 clear hb hC hl0
 rintro m41 E43 w42 ⟨d,j,c,e2,e5,e18,e19,e20,z,x,hC,hl0⟩ K40 hK40
 obtain ⟨m41',o44,rfl,hb,hl0⟩:=loopN_some hl0
 unfold F.diagram_Graph_b0 at hb
 refine Wc.seq fun _ hK45=>rg ?_
 replace hC:Cx (fun _=>False) O0 w w42 ([.own 30 .raw (.slice A30 (((List.replicate y16.2.toNat (Value.slice none 0 0))).length) c31) c,.own 3 si (.slice A18 y16.1.length c20) y16.1]++(rowsF 3 si c j++([]:List Fact))):=hC
 refine lp _ (pu_lss e20 e19)<|ln (hK45 _ _ ?_)
 refine Wc.seq fun _ hK46=>?_
 refine Wc.cond (t:=(decide (d<(y16.1.length:Int)))) (rfl) (fun hq47=>?_) (fun hq47=>?_)
 replace hb:=tt hq47 hb
 refine Wc.skip (hK46 _ _ ?_)
 refine Wc.seq fun _ hK48=>?_
 refine Wc.block<|Wc.seq fun _ hK49=>rg<|lp _ (pu_move e20) ?_
 obtain ⟨x50,h51,hb⟩:=bd hb
 obtain ⟨ad52,cs53,hA,hc54,hr55⟩:=hC.elo (i:=1) rfl (get_some h51).2
 subst hA
 refine lp (.pointer (some (ad52.add (d.toNat*1)))) (pu_index (a:=d) underlying30 sizeOf3 e18 e20 (get_some h51).1) ?_
 replace hC:Cx (fun _=>False) O0 w w42 ([.own 30 .raw (.slice A30 (((List.replicate y16.2.toNat (Value.slice none 0 0))).length) c31) c,.own 3 si (.slice (some ad52) y16.1.length c20) y16.1]++(rowsF 3 si c j++([]:List Fact))):=hC
 obtain ⟨rfl,hr55'⟩:=hr55
 refine lv (iv x50) (ld_one isAgg3 rfl (hc54 0 _ rfl))<|lp (iv d) (pu_assign rfl)<|lp (iv x50) (pu_assign rfl)<|ln (hK49 _ _ ?_)
 refine rg<|lp _ (pu_move e5)<|lp (iv x50) (pu_move rfl)<|lp _ (pu_move e5)<|lp (iv x50) (pu_move rfl) ?_
 obtain ⟨x56,h57,hb⟩:=bd hb
 obtain ⟨v62,hv63,-⟩:=rowsF_get (e:=3) (s:=si) x (get_some h57).2
 obtain ⟨ad58,cs59,hA,hc60,hr61⟩:=hC.elo (i:=0) rfl hv63
 subst hA
 refine lp (.pointer (some (ad58.add (x50.toNat*1)))) (pu_index (a:=x50) underlying93 sizeOf30 rfl rfl (by rw [(hC.ow (i:=0) rfl).sl_len.1,x]; exact (get_some h57).1)) ?_
 replace hC:Cx (fun _=>False) O0 w w42 ([.own 30 .raw (.slice (some ad58) (((List.replicate y16.2.toNat (Value.slice none 0 0))).length) c31) c,.own 3 si (.slice (some ad52) y16.1.length c20) y16.1]++(rowsF 3 si c j++([]:List Fact))):=hC
 replace hC:=Cx.takeRow hC hv63 (get_some h57).2
 obtain ⟨A64,c65,hvf68,hl66,hc67⟩:=(hC.ow (i:=0) rfl).form
 subst hvf68
 obtain ⟨rfl,-⟩:=hr61
 replace hC:Cx (fun _=>False) O0 w w42 ([.own 3 si (.slice A64 x56.length c65) x56,.own 30 .raw (.slice (some ad58) (((List.replicate y16.2.toNat (Value.slice none 0 0))).length) c31) c,.own 3 si (.slice (some ad52) y16.1.length c20) y16.1]++((rowsF 3 si c j).eraseIdx x50.toNat++([]:List Fact))):=hC
 refine lv (.slice A64 x56.length c65) (ld_one isAgg30 rfl (hc60 0 _ rfl))<|lp (iv d) (pu_move rfl)<|lex.op (hC.lit (s:=si) (vs:=[iv d]) (xs:=[d]) underlying30 type3 rfl rfl (nb rfl) rfl rfl (by simp [Value.cells,Sh.n]) rfl (show Elems _ _ si ([iv d]++([])) ([d]:List Int) from Elems.cons (⟨rfl,I64.wr z⟩) (Elems.nil _ _ _))) ?_
 rintro _ w74 ⟨A70,c71,rfl,hl72,hc73,hC,-,-⟩
 replace hC:Cx (fun _=>False) O0 w w74 ([.own 3 si (.slice A70 ((([d]:List Int)).length) c71) ([d]:List Int),.own 3 si (.slice A64 x56.length c65) x56,.own 30 .raw (.slice (some ad58) (((List.replicate y16.2.toNat (Value.slice none 0 0))).length) c31) c,.own 3 si (.slice (some ad52) y16.1.length c20) y16.1]++((rowsF 3 si c j).eraseIdx x50.toNat++([]:List Fact))):=hC
 obtain ⟨u76,h77,hb⟩:=bd hb
 refine lex.op (hC.app (i:=1) (s:=si) (xs:=x56) (ys:=([d]:List Int)) (m:=((([d]:List Int)).length)) rfl underlying30 underlying30 type3 rfl rfl rfl (hC.srco (i:=0) rfl) rfl rfl (by have:=lim_some h77; simp at this⊢ <;>omega) (by decide)) ?_
 rintro _ w82 ⟨A78,c79,rfl,hl80,hc81,hC,-,-⟩
 replace hC:Cx (fun _=>False) O0 w w82 ([.own 3 si (.slice A70 ((([d]:List Int)).length) c71) ([d]:List Int),.own 3 si (.slice A78 ((x56++([d]:List Int)).length) c79) (x56++([d]:List Int)),.own 30 .raw (.slice (some ad58) (((List.replicate y16.2.toNat (Value.slice none 0 0))).length) c31) c,.own 3 si (.slice (some ad52) y16.1.length c20) y16.1]++((rowsF 3 si c j).eraseIdx x50.toNat++([]:List Fact))):=hC
 obtain ⟨x83,h84,hb⟩:=bd hb
 obtain ⟨v89,hv90,-⟩:=rowsF_get (e:=3) (s:=si) x (get_some h84).2
 obtain ⟨ad85,cs86,hA,hc87,hr88⟩:=hC.elo (i:=2) rfl hv90
 obtain rfl:=Option.some.inj hA
 refine lp (.pointer (some (ad58.add (x50.toNat*1)))) (pu_index (a:=x50) underlying93 sizeOf30 rfl rfl (by rw [(hC.ow (i:=2) rfl).sl_len.1,x]; exact (get_some h84).1))<|lex.sk (hC.put (i:=2) (s:=.raw) rfl rfl sizeOf30 (k:=x50.toNat) (a:=Value.slice A78 ((x56++([d]:List Int)).length) c79) (by rw [x]; exact (List.getElem?_eq_some_iff.1 (get_some h84).2).1) (show Rep _ _ .raw [Value.slice A78 ((x56++([d]:List Int)).length) c79] (Value.slice A78 ((x56++([d]:List Int)).length) c79) from ⟨rfl,rfl⟩) rfl rfl rfl) ?_
 rintro w91 ⟨hC,-⟩
 replace hC:Cx (fun _=>False) O0 w w91 ([.own 3 si (.slice A70 ((([d]:List Int)).length) c71) ([d]:List Int),.own 3 si (.slice A78 ((x56++([d]:List Int)).length) c79) (x56++([d]:List Int)),.own 30 .raw (.slice (some ad58) (((List.replicate y16.2.toNat (Value.slice none 0 0))).length) c31) (c.set x50.toNat (Value.slice A78 ((x56++([d]:List Int)).length) c79)),.own 3 si (.slice (some ad52) y16.1.length c20) y16.1]++((rowsF 3 si c j).eraseIdx x50.toNat++([]:List Fact))):=hC
 replace hC:=hC.selT [1,0,2,3] (by decide)
 replace hC:=Cx.putRow hC x (List.getElem?_eq_some_iff.1 (get_some h84).2).1
 have hN92:(c.set x50.toNat (Value.slice A78 ((x56++([d]:List Int)).length) c79)).length=(j.set x50.toNat (x56++([d]:List Int))).length:=lenset x _ _ _ _
 replace hC:Cx (fun _=>False) O0 w w91 ([.own 3 si (.slice A70 ((([d]:List Int)).length) c71) ([d]:List Int),.own 30 .raw (.slice (some ad58) (((List.replicate y16.2.toNat (Value.slice none 0 0))).length) c31) (c.set x50.toNat (Value.slice A78 ((x56++([d]:List Int)).length) c79)),.own 3 si (.slice (some ad52) y16.1.length c20) y16.1]++(rowsF 3 si (c.set x50.toNat (Value.slice A78 ((x56++([d]:List Int)).length) c79)) (j.set x50.toNat (x56++([d]:List Int)))++([]:List Fact))):=hC
 refine ln (hK48 _ _ ?_)
 refine rg ?_
 obtain ⟨z93,h94,hb⟩:=bd hb
 refine lp (iv z93) (pu_addc (a:=d) (b:=1) e20 rfl h94)<|lp (iv z93) (pu_move rfl)<|ln ?_
 obtain rfl:=os hb
 exact hK40 m41' _ _ (Nat.lt_succ_self _) ⟨z93,(j.set x50.toNat (x56++([d]:List Int))),(c.set x50.toNat (Value.slice A78 ((x56++([d]:List Int)).length) c79)),e2,e5,e18,e19,rfl,(chk_rng h94),hN92,hC.selT [1,2] (by decide),lN hl0⟩
 replace hb:=tf hq47 hb
 refine Wc.exit rfl ?_
 obtain rfl:=os hb
 obtain rfl:=(lX hl0).symm
 exact hK39 _ _ ⟨d,j,c,e2,e5,z,x,hC.selT [0] (by decide),hbK0⟩
 clear hb hC hl0
 rintro E96 w95 ⟨d,j,c,e2,e5,z,x,hC,hb⟩
 subst hf38
 refine hK36 _ _<|Wc.seq fun _ hK97=>rg ?_
 replace hC:Cx (fun _=>False) O0 w w95 ([.own 30 .raw (.slice A30 (((List.replicate y16.2.toNat (Value.slice none 0 0))).length) c31) c]++(rowsF 3 si c j++([]:List Fact))):=hC
 refine lp _ (pu_move e5)<|lp (.slice A30 (((List.replicate y16.2.toNat (Value.slice none 0 0))).length) c31) (pu_assign rfl)<|ln (hK97 _ _ ?_)
 replace hC:=hC.selT [0] (by decide)
 replace hC:=Cx.freezeR hC x
 replace hC:Cx (fun _=>False) O0 w w95 ([.ro (.sl (.sl si)) [.slice A30 (((List.replicate y16.2.toNat (Value.slice none 0 0))).length) c31] j]++([]:List Fact)):=hC
 obtain rfl:=os hb
 refine Wc.ret (hKR _ _ ?_)
 refine ⟨_,res1 results103 (tV (.slice A30 (((List.replicate y16.2.toNat (Value.slice none 0 0))).length) c31) rfl),_,rfl,A30,((List.replicate y16.2.toNat (Value.slice none 0 0))).length,c31,rfl,hC.sE [0]⟩

theorem cmp_isNaN_int_ok (n:Nat) {w:World} {O0:List Nat} (hO: ∀k∈O0,k<w.heap.size) {c:Int} (d:I64 c) {r:Bool} (hb:F.cmp_isNaN_int n c=some r):
    Calls prog 127 #[iv c] w fun e w'=> ∃v,e=.returned v∧v=.bool r∧Cx (fun _=>False) O0 w w' []:=by
 unfold F.cmp_isNaN_int at hb
 have hC:=Cx.start hO
 clear hO
 refine calls_of_Wc func127 rfl (by rw [ntmps127]; exact nb rfl) fun KR hKR=>?_
 refine Wc.seq fun _ hK1=>rg<|lp (.bool false) (pu_assign rfl)<|ln (hK1 _ _ ?_)
 refine Wc.seq fun _ hK2=>rg<|lp (iv c) (pu_move rfl)<|lp (iv c) (pu_move rfl)<|lp (.bool (!(decide (c=c)))) (pu_neq (k:=.i64) (a:=c) (b:=c) rfl rfl)<|lp (.bool (!(decide (c=c)))) (pu_assign rfl)<|ln (hK2 _ _ ?_)
 obtain rfl:=os hb
 refine Wc.ret (hKR _ _ ?_)
 refine ⟨_,res1 results127 (tV (.bool (!(decide (c=c)))) rfl),_,rfl,rfl,hC.sE []⟩

theorem cmp_Compare_int_ok (n:Nat) {w:World} {O0:List Nat} (hO: ∀k∈O0,k<w.heap.size) {c:Int} (f:I64 c) {d:Int} (g:I64 d) {r:Int} (hb:F.cmp_Compare_int n c d=some r):
    Calls prog 119 #[iv c,iv d] w fun e w'=> ∃v,e=.returned v∧v=iv r∧I64 r∧Cx (fun _=>False) O0 w w' []:=by
 unfold F.cmp_Compare_int at hb
 have hC:=Cx.start hO
 clear hO
 refine calls_of_Wc func119 rfl (by rw [ntmps119]; exact nb rfl) fun KR hKR=>?_
 refine Wc.seq fun _ hK1=>rg<|lp (iv 0) (pu_assign rfl)<|ln (hK1 _ _ ?_)
 refine Wc.seq fun _ hK2=>rg<|lp (iv c) (pu_move rfl) ?_
 obtain ⟨y3,h4,hb⟩:=bd hb
 refine lex.cl (⟨_,_,op_call (vs:=[iv c]) call127 rfl rfl rfl,cmp_isNaN_int_ok n hC.lt f h4⟩) ?_
 rintro _ w5 ⟨rfl,hK⟩
 replace hC:=hC.merge hK
 clear hK
 refine lp (.bool y3) (pu_assign rfl)<|ln (hK2 _ _ ?_)
 refine Wc.seq fun _ hK6=>rg<|lp (iv d) (pu_move rfl) ?_
 obtain ⟨y7,h8,hb⟩:=bd hb
 refine lex.cl (⟨_,_,op_call (vs:=[iv d]) call127 rfl rfl rfl,cmp_isNaN_int_ok n hC.lt g h8⟩) ?_
 rintro _ w9 ⟨rfl,hK⟩
 replace hC:=hC.merge hK
 clear hK
 refine lp (.bool y7) (pu_assign rfl)<|ln (hK6 _ _ ?_)
 refine Wc.seq fun _ hK10=>?_
 refine Wc.seq fun _ hK11=>rg<|lp (.bool y3) (pu_move rfl)<|ln (hK11 _ _ ?_)
 refine Wc.cond (t:=y3) (rfl) (fun hq12=>?_) (fun hq12=>?_)
 replace hb:=tt hq12 hb
 refine Wc.seq fun _ hK13=>?_
 refine Wc.seq fun _ hK14=>rg<|lp (.bool y7) (pu_move rfl)<|ln (hK14 _ _ ?_)
 refine Wc.cond (t:=y7) (rfl) (fun hq15=>?_) (fun hq15=>?_)
 replace hb:=tt hq15 hb
 refine Wc.seq fun _ hK16=>rg<|lp (iv 0) (pu_assign rfl)<|ln (hK16 _ _ ?_)
 obtain rfl:=os hb
 refine Wc.ret (hKR _ _ ?_)
 refine ⟨_,res1 results119 (tV (iv 0) rfl),_,rfl,rfl,(show I64 0 from by unfold I64; omega),hC.sE []⟩
 replace hb:=tf hq15 hb
 refine Wc.skip (hK13 _ _ ?_)
 refine Wc.seq fun _ hK17=>rg<|lp (iv (-1)) (pu_assign rfl)<|ln (hK17 _ _ ?_)
 obtain rfl:=os hb
 refine Wc.ret (hKR _ _ ?_)
 refine ⟨_,res1 results119 (tV (iv (-1)) rfl),_,rfl,rfl,(show I64 (-1) from by unfold I64; omega),hC.sE []⟩
 replace hb:=tf hq12 hb
 refine Wc.skip (hK10 _ _ ?_)
 refine Wc.seq fun _ hK18=>?_
 refine Wc.seq fun _ hK19=>rg<|lp (.bool y7) (pu_move rfl)<|ln (hK19 _ _ ?_)
 refine Wc.cond (t:=y7) (rfl) (fun hq20=>?_) (fun hq20=>?_)
 replace hb:=tt hq20 hb
 refine Wc.seq fun _ hK21=>rg<|lp (iv 1) (pu_assign rfl)<|ln (hK21 _ _ ?_)
 obtain rfl:=os hb
 refine Wc.ret (hKR _ _ ?_)
 refine ⟨_,res1 results119 (tV (iv 1) rfl),_,rfl,rfl,(show I64 1 from by unfold I64; omega),hC.sE []⟩
 replace hb:=tf hq20 hb
 refine Wc.skip (hK18 _ _ ?_)
 refine Wc.seq fun _ hK22=>?_
 refine Wc.seq fun _ hK23=>rg<|lp (iv c) (pu_move rfl)<|lp (iv d) (pu_move rfl)<|lp (.bool (decide (c<d))) (pu_lss (k:=.i64) (a:=c) (b:=d) rfl rfl)<|ln (hK23 _ _ ?_)
 refine Wc.cond (t:=(decide (c<d))) (rfl) (fun hq24=>?_) (fun hq24=>?_)
 replace hb:=tt hq24 hb
 refine Wc.seq fun _ hK25=>rg<|lp (iv (-1)) (pu_assign rfl)<|ln (hK25 _ _ ?_)
 obtain rfl:=os hb
 refine Wc.ret (hKR _ _ ?_)
 refine ⟨_,res1 results119 (tV (iv (-1)) rfl),_,rfl,rfl,(show I64 (-1) from by unfold I64; omega),hC.sE []⟩
 replace hb:=tf hq24 hb
 refine Wc.skip (hK22 _ _ ?_)
 refine Wc.fresh fun E26 hE=>?_
 have e0:E26 0=iv c:=cg hE 0 rfl
 have e1:E26 1=iv d:=cg hE 1 rfl
 have e4:E26 4=iv 0:=cg hE 4 rfl
 clear hE
 refine Wc.seq fun _ hK27=>?_
 refine Wc.seq fun _ hK28=>rg<|lp _ (pu_move e0)<|lp _ (pu_move e1)<|lp (.bool (decide (d<c))) (pu_gtr (k:=.i64) (a:=c) (b:=d) rfl rfl)<|ln (hK28 _ _ ?_)
 refine Wc.cond (t:=(decide (d<c))) (rfl) (fun hq29=>?_) (fun hq29=>?_)
 replace hb:=tt hq29 hb
 refine Wc.seq fun _ hK30=>rg<|lp (iv 1) (pu_assign rfl)<|ln (hK30 _ _ ?_)
 obtain rfl:=os hb
 refine Wc.ret (hKR _ _ ?_)
 refine ⟨_,res1 results119 (tV (iv 1) rfl),_,rfl,rfl,(show I64 1 from by unfold I64; omega),hC.sE []⟩
 replace hb:=tf hq29 hb
 refine Wc.skip (hK27 _ _ ?_)
 refine Wc.seq fun _ hK31=>rg<|lp (iv 0) (pu_assign rfl)<|ln (hK31 _ _ ?_)
 obtain rfl:=os hb
 refine Wc.ret (hKR _ _ ?_)
 refine ⟨_,res1 results119 (tV (iv 0) rfl),_,rfl,rfl,(show I64 0 from by unfold I64; omega),hC.sE []⟩

theorem slices_Compare_Lint_int_ok (n:Nat) {w:World} {O0:List Nat} (hO: ∀k∈O0,k<w.heap.size) {g:Option Addr} {p h:Nat} {d:List Int} (q:Rep O0 w (.sl si) [.slice g p h] d) {j:Option Addr} {s l:Nat} {f:List Int} (u:Rep O0 w (.sl si) [.slice j s l] f) {r:Int} (hb:F.slices_Compare_Lint_int n d f=some r):
    Calls prog 107 #[.slice g p h,.slice j s l] w fun e w'=> ∃v,e=.returned v∧v=iv r∧I64 r∧Cx (fun _=>False) O0 w w' []:=by
 unfold F.slices_Compare_Lint_int at hb
 have hC:=Cx.start hO
 replace hC:=hC.arg rfl q
 replace hC:=hC.arg rfl u
 clear hO
 obtain ⟨rfl,x,y⟩:=q.sl_len
 obtain ⟨rfl,z,B⟩:=u.sl_len
 refine calls_of_Wc func107 rfl (by rw [ntmps107]; exact nb rfl) fun KR hKR=>?_
 refine Wc.seq fun _ hK3=>rg<|lp (iv 0) (pu_assign rfl)<|ln (hK3 _ _ ?_)
 refine Wc.seq fun _ hK4=>?_
 refine Wc.seq fun _ hK5=>rg<|lp (.slice g d.length h) (pu_move rfl)<|lp (iv (d.length:Int)) (pu_len (A:=g) (n:=d.length) (m:=h) underlying30 rfl)<|lp (iv 0) (pu_move rfl)<|ln (hK5 _ _ ?_)
 obtain ⟨o6,hl0,hb⟩:=bd hb
 refine Wc.cut (fun E wv=> ∃(c:Int),E 0=.slice g d.length h∧E 1=.slice j f.length l∧E 4=iv 0∧I64 c∧Cx (fun _=>False) O0 w wv [.ro (.sl si) [.slice g d.length h] d,.ro (.sl si) [.slice j f.length l] f]∧(cond (decide ((d.length:Int)<(f.length:Int))) (some (-1)) (some 0):Option (Int))=some r) (fun _ hK7=>?_) ?_
 refine Wc.block ?_
 refine Wc.loop (fun m E wv=> ∃(c:Int),E 0=.slice g d.length h∧E 1=.slice j f.length l∧E 4=iv 0∧E 9=.slice g d.length h∧E 10=iv (d.length:Int)∧E 11=iv c∧I64 c∧Cx (fun _=>False) O0 w wv [.ro (.sl si) [.slice g d.length h] d,.ro (.sl si) [.slice j f.length l] f]∧loopN m (F.slices_Compare_Lint_int_b0 n d f) c=some o6) n ⟨0,rfl,rfl,rfl,rfl,rfl,rfl,(show I64 0 from by unfold I64; omega),hC.sE [1,0],hl0⟩ ?_
 have hbK0:=hb
 clear hb hC hl0
 rintro m9 E11 w10 ⟨c,e0,e1,e4,e9,e10,e11,o,hC,hl0⟩ K8 hK8
 obtain ⟨m9',o12,rfl,hb,hl0⟩:=loopN_some hl0
 unfold F.slices_Compare_Lint_int_b0 at hb
 refine Wc.seq fun _ hK13=>rg<|lp _ (pu_lss e11 e10)<|ln (hK13 _ _ ?_)
 refine Wc.seq fun _ hK14=>?_
 refine Wc.cond (t:=(decide (c<(d.length:Int)))) (rfl) (fun hq15=>?_) (fun hq15=>?_)
 replace hb:=tt hq15 hb
 refine Wc.skip (hK14 _ _ ?_)
 refine Wc.seq fun _ hK16=>?_
 refine Wc.block<|Wc.seq fun _ hK17=>rg<|lp _ (pu_move e11) ?_
 obtain ⟨x18,h19,hb⟩:=bd hb
 obtain ⟨ad20,cs21,hA,hc22,hr23⟩:=hC.elr (i:=0) rfl (get_some h19).2
 subst hA
 refine lp (.pointer (some (ad20.add (c.toNat*1)))) (pu_index (a:=c) underlying30 sizeOf3 e9 e11 (get_some h19).1) ?_
 obtain ⟨rfl,hr23'⟩:=hr23
 refine lv (iv x18) (ld_one isAgg3 rfl (hc22 0 _ rfl))<|lp (iv c) (pu_assign rfl)<|lp (iv x18) (pu_assign rfl)<|ln (hK17 _ _ ?_)
 refine Wc.seq fun _ hK24=>?_
 refine Wc.seq fun _ hK25=>rg<|lp (iv c) (pu_move rfl)<|lp _ (pu_move e1)<|lp (iv (f.length:Int)) (pu_len (A:=j) (n:=f.length) (m:=l) underlying30 rfl)<|lp (.bool (decide ((f.length:Int)≤c))) (pu_geq (k:=.i64) (a:=c) (b:=(f.length:Int)) rfl rfl)<|ln (hK25 _ _ ?_)
 refine Wc.cond (t:=(decide ((f.length:Int)≤c))) (rfl) (fun hq26=>?_) (fun hq26=>?_)
 replace hb:=tt hq26 hb
 refine Wc.seq fun _ hK27=>rg<|lp (iv 1) (pu_assign rfl)<|ln (hK27 _ _ ?_)
 obtain rfl:=os hb
 obtain rfl:=(lX hl0).symm
 replace hb:=hbK0
 obtain rfl:=os hb
 refine Wc.ret (hKR _ _ ?_)
 refine ⟨_,res1 results107 (tV (iv 1) rfl),_,rfl,rfl,(show I64 1 from by unfold I64; omega),hC.sE []⟩
 replace hb:=tf hq26 hb
 refine Wc.skip (hK24 _ _ ?_)
 refine Wc.fresh fun E28 hE=>?_
 have e0:=cg hE 0 e0
 have e1:=cg hE 1 e1
 have e4:=cg hE 4 e4
 have e5:E28 5=iv c:=cg hE 5 rfl
 have e6:E28 6=iv x18:=cg hE 6 rfl
 have e9:=cg hE 9 e9
 have e10:=cg hE 10 e10
 have e11:=cg hE 11 e11
 have e12:E28 12=.bool (decide (c<(d.length:Int))):=cg hE 12 rfl
 have e19:E28 19=.bool (decide ((f.length:Int)≤c)):=cg hE 19 rfl
 clear hE
 refine Wc.seq fun _ hK29=>rg<|lp _ (pu_move e1)<|lp _ (pu_move e5) ?_
 obtain ⟨x30,h31,hb⟩:=bd hb
 obtain ⟨ad32,cs33,hA,hc34,hr35⟩:=hC.elr (i:=1) rfl (get_some h31).2
 subst hA
 refine lp (.pointer (some (ad32.add (c.toNat*1)))) (pu_index (a:=c) underlying30 sizeOf3 rfl rfl (get_some h31).1) ?_
 obtain ⟨rfl,hr35'⟩:=hr35
 refine lv (iv x30) (ld_one isAgg3 rfl (hc34 0 _ rfl))<|lp (iv x30) (pu_assign rfl)<|ln (hK29 _ _ ?_)
 refine Wc.seq fun _ hK36=>rg<|lp _ (pu_move e6)<|lp (iv x30) (pu_move rfl) ?_
 obtain ⟨y37,h38,hb⟩:=bd hb
 refine lex.cl (⟨_,_,op_call (vs:=[iv x18,iv x30]) call119 rfl rfl rfl,cmp_Compare_int_ok n hC.lt (wrap_I64 hr23') (wrap_I64 hr35') h38⟩) ?_
 rintro _ w40 ⟨rfl,hr39,hK⟩
 replace hC:=hC.merge hK
 clear hK
 refine lp (iv y37) (pu_assign rfl)<|ln (hK36 _ _ ?_)
 refine Wc.seq fun _ hK41=>rg<|lp (iv y37) (pu_move rfl)<|lp (.bool (!(decide (y37=0)))) (pu_neq (k:=.i64) (a:=y37) (b:=0) rfl rfl)<|ln (hK41 _ _ ?_)
 refine Wc.fresh fun E42 hE=>?_
 have e0:=cg hE 0 e0
 have e1:=cg hE 1 e1
 have e4:=cg hE 4 e4
 have e5:=cg hE 5 e5
 have e6:=cg hE 6 e6
 have e7:E42 7=iv x30:=cg hE 7 rfl
 have e8:E42 8=iv y37:=cg hE 8 rfl
 have e9:=cg hE 9 e9
 have e10:=cg hE 10 e10
 have e11:=cg hE 11 e11
 have e12:=cg hE 12 e12
 have e19:=cg hE 19 e19
 have e28:E42 28=.bool (!(decide (y37=0))):=cg hE 28 rfl
 clear hE
 refine Wc.cond (t:=(!(decide (y37=0)))) (e28) (fun hq43=>?_) (fun hq43=>?_)
 replace hb:=tt hq43 hb
 refine Wc.seq fun _ hK44=>rg<|lp _ (pu_move e8)<|lp (iv y37) (pu_assign rfl)<|ln (hK44 _ _ ?_)
 obtain rfl:=os hb
 obtain rfl:=(lX hl0).symm
 replace hb:=hbK0
 obtain rfl:=os hb
 refine Wc.ret (hKR _ _ ?_)
 refine ⟨_,res1 results107 (tV (iv y37) rfl),_,rfl,rfl,hr39,hC.sE []⟩
 replace hb:=tf hq43 hb
 refine Wc.skip (hK16 _ _ ?_)
 refine rg ?_
 obtain ⟨z45,h46,hb⟩:=bd hb
 refine lp (iv z45) (pu_addc (a:=c) (b:=1) e11 rfl h46)<|lp (iv z45) (pu_move rfl)<|ln ?_
 obtain rfl:=os hb
 exact hK8 m9' _ _ (Nat.lt_succ_self _) ⟨z45,e0,e1,e4,e9,e10,rfl,(chk_rng h46),hC.sE [0,1],lN hl0⟩
 replace hb:=tf hq15 hb
 refine Wc.exit rfl ?_
 obtain rfl:=os hb
 obtain rfl:=(lX hl0).symm
 exact hK7 _ _ ⟨c,e0,e1,e4,o,hC.sE [0,1],hbK0⟩
 clear hb hC hl0
 rintro E48 w47 ⟨c,e0,e1,e4,o,hC,hb⟩
 refine hK4 _ _ ?_
 refine Wc.seq fun _ hK49=>?_
 refine Wc.seq fun _ hK50=>rg<|lp _ (pu_move e0)<|lp (iv (d.length:Int)) (pu_len (A:=g) (n:=d.length) (m:=h) underlying30 rfl)<|lp _ (pu_move e1)<|lp (iv (f.length:Int)) (pu_len (A:=j) (n:=f.length) (m:=l) underlying30 rfl)<|lp (.bool (decide ((d.length:Int)<(f.length:Int)))) (pu_lss (k:=.i64) (a:=(d.length:Int)) (b:=(f.length:Int)) rfl rfl)<|ln (hK50 _ _ ?_)
 refine Wc.cond (t:=(decide ((d.length:Int)<(f.length:Int)))) (rfl) (fun hq51=>?_) (fun hq51=>?_)
 replace hb:=tt hq51 hb
 refine Wc.seq fun _ hK52=>rg<|lp (iv (-1)) (pu_assign rfl)<|ln (hK52 _ _ ?_)
 obtain rfl:=os hb
 refine Wc.ret (hKR _ _ ?_)
 refine ⟨_,res1 results107 (tV (iv (-1)) rfl),_,rfl,rfl,(show I64 (-1) from by unfold I64; omega),hC.sE []⟩
 replace hb:=tf hq51 hb
 refine Wc.skip (hK49 _ _ ?_)
 refine Wc.seq fun _ hK53=>rg<|lp (iv 0) (pu_assign rfl)<|ln (hK53 _ _ ?_)
 obtain rfl:=os hb
 refine Wc.ret (hKR _ _ ?_)
 refine ⟨_,res1 results107 (tV (iv 0) rfl),_,rfl,rfl,(show I64 0 from by unfold I64; omega),hC.sE []⟩

theorem canon_number_ok (n:Nat) {w:World} {O0:List Nat} (hO: ∀k∈O0,k<w.heap.size) {J:Option Addr} {b8 u:Nat} {c:List Int} (b9:Rep O0 w (.sl si) [.slice J b8 u] c) {D:Option Addr} {c2 B:Nat} {j:List Int} (c3:Rep O0 w (.sl si) [.slice D c2 B] j) {U:Int} (e4:I64 U) {o:Int} (c5:I64 o) {l:Option Addr} {b0 q:Nat} {d:List Int} (b1:Rep O0 w (.sl si) [.slice l b0 q] d) (c4:d=[]→l=none) {r:(List Int)×(List Int)×Int} (hb:F.canon_number n c j U o d=some r):
    Calls prog 104 #[.agg #[.slice J b8 u,.slice D c2 B,iv U],iv o,.slice l b0 q] w fun e w'=> ∃v,e=.returned v∧∃(A0:Option Addr) (m0 c0:Nat) (A1:Option Addr) (m1 c1:Nat),v=.tuple #[.slice A0 m0 c0,.slice A1 m1 c1,iv r.2.2]∧(r.1=[]→A0=none)∧I64 r.2.2∧Cx (fun _=>False) O0 w w' [.own 3 si (.slice A0 m0 c0) r.1,.own 3 si (.slice A1 m1 c1) r.2.1]:=by
 unfold F.canon_number at hb
 have hC:=Cx.start hO
 replace hC:=hC.arg rfl b9
 replace hC:=hC.arg rfl c3
 replace hC:=hC.arg rfl b1
 clear hO
 obtain ⟨rfl,d5,d6⟩:=b9.sl_len
 obtain ⟨rfl,d7,d8⟩:=c3.sl_len
 obtain ⟨rfl,d3,d4⟩:=b1.sl_len
 refine calls_of_Wc func104 rfl (by rw [ntmps104]; exact nb rfl) fun KR hKR=>?_
 refine Wc.seq fun _ hK4=>rg<|lex.op (hC.box (cs:=[.slice J c.length u,.slice D j.length B,iv U]) rfl rfl) ?_
 rintro _ w6 ⟨g5,rfl,hC,hF,-⟩
 refine lp (.slice none 0 0) (pu_assign rfl)<|lp (.slice none 0 0) (pu_assign rfl)<|lp (iv 0) (pu_assign rfl)<|ln (hK4 _ _ ?_)
 refine Wc.seq fun _ hK8=>rg<|lp (.pointer (some ((⟨g5,0,none⟩:Addr).add 0))) (pu_field (sz:=1) underlying32 rfl sizeOf30 (by decide) rfl rfl)<|lv (.slice J c.length u) (ld_fld (hC.bx (i:=0) rfl) isAgg30 rfl rfl)<|lp (iv (c.length:Int)) (pu_len (A:=J) (n:=c.length) (m:=u) underlying30 rfl) ?_
 obtain ⟨u9,h10,hb⟩:=bd hb
 refine lex.op (hC.make (s:=si) (n:=(c.length:Int)) underlying30 type3 rfl rfl rfl rfl rfl (pos_some h10).1 (pos_some h10).2 (by decide)) ?_
 rintro _ w15 ⟨A11,c12,rfl,hl13,hc14,hC,-,-⟩
 refine lp (.slice A11 (((rZ c.length)).length) c12) (pu_assign rfl)<|ln (hK8 _ _ ?_)
 refine Wc.seq fun _ hK17=>?_
 refine Wc.seq fun _ hK18=>rg<|lp (.slice A11 (((rZ c.length)).length) c12) (pu_move rfl)<|lp (iv (((rZ c.length)).length:Int)) (pu_len (A:=A11) (n:=((rZ c.length)).length) (m:=c12) underlying30 rfl)<|lp (iv 0) (pu_move rfl)<|ln (hK18 _ _ ?_)
 refine Wc.fresh fun E19 hE=>?_
 have e1:E19 1=iv o:=cg hE 1 rfl
 have e2:E19 2=.slice l d.length q:=cg hE 2 rfl
 have e3:E19 3=pg g5:=cg hE 3 rfl
 have e6:E19 6=.slice none 0 0:=cg hE 6 rfl
 have e7:E19 7=.slice none 0 0:=cg hE 7 rfl
 have e8:E19 8=iv 0:=cg hE 8 rfl
 have e9:E19 9=.slice A11 (((rZ c.length)).length) c12:=cg hE 9 rfl
 have e23:E19 23=iv (((rZ c.length)).length:Int):=cg hE 23 rfl
 have e24:E19 24=iv 0:=cg hE 24 rfl
 clear hE
 obtain ⟨o20,hl0,f20,hf20,hb⟩:=bn hb
 refine Wc.cut (fun E wv=> ∃(K:Int) (P:List Int),E 1=iv o∧E 2=.slice l d.length q∧E 3=pg g5∧E 6=.slice none 0 0∧E 7=.slice none 0 0∧E 8=iv 0∧E 9=.slice A11 (((rZ c.length)).length) c12∧I64 K∧Cx (fun _=>False) O0 w wv [.ro (.sl si) [.slice l d.length q] d,.box g5 32 [.slice J c.length u,.slice D j.length B,iv U],.ro (.sl si) [.slice J c.length u] c,.ro (.sl si) [.slice D j.length B] j,.own 3 si (.slice A11 (((rZ c.length)).length) c12) P]∧f20 (K,P)=some r) (fun _ hK21=>?_) ?_
 refine Wc.block ?_
 refine Wc.loop (fun m E wv=> ∃(K:Int) (P:List Int),E 1=iv o∧E 2=.slice l d.length q∧E 3=pg g5∧E 6=.slice none 0 0∧E 7=.slice none 0 0∧E 8=iv 0∧E 9=.slice A11 (((rZ c.length)).length) c12∧E 23=iv (((rZ c.length)).length:Int)∧E 24=iv K∧I64 K∧Cx (fun _=>False) O0 w wv [.ro (.sl si) [.slice l d.length q] d,.box g5 32 [.slice J c.length u,.slice D j.length B,iv U],.ro (.sl si) [.slice J c.length u] c,.ro (.sl si) [.slice D j.length B] j,.own 3 si (.slice A11 (((rZ c.length)).length) c12) P]∧loopN m (F.canon_number_b0 n c) (K,P)=some o20) n ⟨0,(rZ c.length),e1,e2,e3,e6,e7,e8,e9,e23,e24,(show I64 0 from by unfold I64; omega),hC.sE [2,1,4,3,0],hl0⟩ ?_
 have hbK0:=hb
 clear hb hC hl0
 rintro m23 E25 w24 ⟨K,P,e1,e2,e3,e6,e7,e8,e9,e23,e24,b2,hC,hl0⟩ K22 hK22
 obtain ⟨m23',o26,rfl,hb,hl0⟩:=loopN_some hl0
 unfold F.canon_number_b0 at hb
 refine Wc.seq fun _ hK27=>rg<|lp _ (pu_lss e24 e23)<|ln (hK27 _ _ ?_)
 refine Wc.seq fun _ hK28=>?_
 refine Wc.cond (t:=(decide (K<(((rZ c.length)).length:Int)))) (rfl) (fun hq29=>?_) (fun hq29=>?_)
 replace hb:=tt hq29 hb
 refine Wc.skip (hK28 _ _ ?_)
 refine Wc.seq fun _ hK30=>?_
 refine Wc.block<|Wc.seq fun _ hK31=>rg<|lp _ (pu_move e24)<|lp (iv K) (pu_assign rfl)<|ln (hK31 _ _ ?_)
 refine rg<|lp _ (pu_move e9)<|lp (iv K) (pu_move rfl) ?_
 obtain ⟨x32,h33,hb⟩:=bd hb
 obtain ⟨ad34,cs35,hA,hc36,hr37⟩:=hC.elo (i:=4) rfl (get_some h33).2
 subst hA
 refine lp (.pointer (some (ad34.add (K.toNat*1)))) (pu_index (a:=K) underlying30 sizeOf3 rfl rfl (by rw [(hC.ow (i:=4) rfl).sl_len.1]; exact (get_some h33).1))<|lex.sk (hC.put (i:=4) rfl rfl sizeOf3 (k:=K.toNat) (a:=(-1)) (by have:=(get_some h33).1; simp at this⊢; omega) (⟨rfl,I64.wr (show I64 (-1) from by unfold I64; omega)⟩) rfl rfl rfl) ?_
 rintro w38 ⟨hC,hF⟩
 refine ln (hK30 _ _ ?_)
 refine rg ?_
 obtain ⟨z39,h40,hb⟩:=bd hb
 refine lp (iv z39) (pu_addc (a:=K) (b:=1) e24 rfl h40)<|lp (iv z39) (pu_move rfl)<|ln ?_
 obtain rfl:=os hb
 exact hK22 m23' _ _ (Nat.lt_succ_self _) ⟨z39,(P.set K.toNat (-1)),e1,e2,e3,e6,e7,e8,e9,e23,rfl,(chk_rng h40),hC.sE [0,1,2,3,4],lN hl0⟩
 replace hb:=tf hq29 hb
 refine Wc.exit rfl ?_
 obtain rfl:=os hb
 obtain rfl:=(lX hl0).symm
 exact hK21 _ _ ⟨K,P,e1,e2,e3,e6,e7,e8,e9,b2,hC.sE [0,1,2,3,4],hbK0⟩
 clear hb hC hl0
 rintro E42 w41 ⟨K,P,e1,e2,e3,e6,e7,e8,e9,b2,hC,hb⟩
 subst hf20
 refine hK17 _ _<|Wc.seq fun _ hK43=>rg<|lp _ (pu_move e1)<|lex.op (hC.lit (s:=si) (vs:=[iv o]) (xs:=[o]) underlying30 type3 rfl rfl (nb rfl) rfl rfl (by simp [Value.cells,Sh.n]) rfl (show Elems _ _ si ([iv o]++([])) ([o]:List Int) from Elems.cons (⟨rfl,I64.wr c5⟩) (Elems.nil _ _ _))) ?_
 rintro _ w48 ⟨A44,c45,rfl,hl46,hc47,hC,-,-⟩
 refine lp (.slice A44 ((([o]:List Int)).length) c45) (pu_assign rfl)<|ln (hK43 _ _ ?_)
 refine Wc.seq fun _ hK50=>rg<|lp _ (pu_move e9)<|lp _ (pu_move e1) ?_
 obtain ⟨x51,h52,hb⟩:=bd hb
 obtain ⟨ad53,cs54,hA,hc55,hr56⟩:=hC.elo (i:=5) rfl (get_some h52).2
 subst hA
 refine lp (.pointer (some (ad53.add (o.toNat*1)))) (pu_index (a:=o) underlying30 sizeOf3 rfl rfl (by rw [(hC.ow (i:=5) rfl).sl_len.1]; exact (get_some h52).1))<|lex.sk (hC.put (i:=5) rfl rfl sizeOf3 (k:=o.toNat) (a:=0) (by have:=(get_some h52).1; simp at this⊢; omega) (⟨rfl,I64.wr (show I64 0 from by unfold I64; omega)⟩) rfl rfl rfl) ?_
 rintro w57 ⟨hC,hF⟩
 refine ln (hK50 _ _ ?_)
 refine Wc.seq fun _ hK58=>rg<|lp (.slice none 0 0) (pu_assign rfl)<|ln (hK58 _ _ ?_)
 refine Wc.seq fun _ hK59=>rg<|lp (iv 0) (pu_assign rfl)<|ln (hK59 _ _ ?_)
 refine Wc.seqJ (fun E wv=> ∃(a3:Int),E 2=.slice l d.length q∧E 3=pg g5∧E 6=.slice none 0 0∧E 7=.slice none 0 0∧E 8=iv 0∧E 9=.slice (some ad53) (((rZ c.length)).length) c12∧E 11=.slice A44 ((([o]:List Int)).length) c45∧E 12=.slice none 0 0∧E 13=iv a3∧I64 a3∧Cx (fun _=>False) O0 w wv [.ro (.sl si) [.slice l d.length q] d,.box g5 32 [.slice J c.length u,.slice D j.length B,iv U],.ro (.sl si) [.slice J c.length u] c,.ro (.sl si) [.slice D j.length B] j,.own 3 si (.slice (some ad53) (((rZ c.length)).length) c12) (P.set o.toNat 0),.own 3 si (.slice A44 ((([o]:List Int)).length) c45) ([o]:List Int)]∧F.canon_number_j1 n c j o d P a3=some r) (fun _ hK60=>?_) ?_
 refine Wc.seq fun _ hK61=>rg<|lp _ (pu_move e2)<|lp (.bool (d.isEmpty)) (by rw [←isNone_nz (fun h=>(hC.rd (i:=1) rfl).none_nil' h) c4]; exact pu_eqlnil underlying30 rfl rfl)<|ln (hK61 _ _ ?_)
 refine Wc.cond (t:=(d.isEmpty)) (rfl) (fun hq62=>?_) (fun hq62=>?_)
 replace hb:=tt hq62 hb
 refine rg<|lp (iv (-1)) (pu_assign rfl)<|ln ?_
 exact hK60 _ _ ⟨(-1),e2,e3,e6,e7,e8,e9,rfl,rfl,rfl,(show I64 (-1) from by unfold I64; omega),hC.sE [1,2,3,4,5,0],hb⟩
 replace hb:=tf hq62 hb
 refine Wc.skip ?_
 exact hK60 _ _ ⟨0,e2,e3,e6,e7,e8,e9,rfl,rfl,rfl,(show I64 0 from by unfold I64; omega),hC.sE [1,2,3,4,5,0],hb⟩
 clear hb hC
 rintro E64 w63 ⟨a3,e2,e3,e6,e7,e8,e9,e11,e12,e13,c6,hC,hb⟩
 unfold F.canon_number_j1 at hb
 refine Wc.seq fun _ hK65=>?_
 refine Wc.seq fun _ hK66=>rg<|lp (iv 0) (pu_assign rfl)<|ln (hK66 _ _ ?_)
 replace hC:=hC.nil 3 si
 obtain ⟨o68,hl2,hb⟩:=bd hb
 refine Wc.cut (fun E wv=> ∃(y:List Int) (H:List Int) (p:Int) (g:Int) (V:List Int) (Q:Option Addr) (X L:Nat) (M:Option Addr) (Y T:Nat),E 6=.slice none 0 0∧E 7=.slice none 0 0∧E 8=iv 0∧E 11=.slice Q X L∧E 12=.slice M Y T∧E 13=iv p∧I64 p∧I64 g∧(H=[]→M=none)∧Cx (fun _=>False) O0 w wv [.own 3 si (.slice Q X L) y,.own 3 si (.slice M Y T) H]∧(some (H,y,p):Option ((List Int)×(List Int)×Int))=some r) (fun _ hK69=>?_) ?_
 refine Wc.block ?_
 refine Wc.loop (fun m E wv=> ∃(y:List Int) (H:List Int) (p:Int) (g:Int) (V:List Int) (Q:Option Addr) (X L:Nat) (M:Option Addr) (Y T:Nat),E 2=.slice l d.length q∧E 3=pg g5∧E 6=.slice none 0 0∧E 7=.slice none 0 0∧E 8=iv 0∧E 9=.slice (some ad53) (((rZ c.length)).length) c12∧E 11=.slice Q X L∧E 12=.slice M Y T∧E 13=iv p∧E 14=iv g∧I64 p∧I64 g∧(H=[]→M=none)∧Cx (fun _=>False) O0 w wv [.ro (.sl si) [.slice l d.length q] d,.box g5 32 [.slice J c.length u,.slice D j.length B,iv U],.ro (.sl si) [.slice J c.length u] c,.ro (.sl si) [.slice D j.length B] j,.own 3 si (.slice (some ad53) (((rZ c.length)).length) c12) V,.own 3 si (.slice Q X L) y,.own 3 si (.slice M Y T) H]∧loopN m (F.canon_number_b2 n c j d) (y,H,p,g,V)=some o68) n ⟨([o]:List Int),([]:List Int),a3,0,(P.set o.toNat 0),A44,(([o]:List Int)).length,c45,none,0,0,e2,e3,e6,e7,e8,e9,e11,e12,e13,rfl,c6,(show I64 0 from by unfold I64; omega),(fun _=>rfl),hC.sE [1,2,3,4,5,6,0],hl2⟩ ?_
 have hbK2:=hb
 clear hb hC hl2
 rintro m71 E73 w72 ⟨y,H,p,g,V,Q,X,L,M,Y,T,e2,e3,e6,e7,e8,e9,e11,e12,e13,e14,a1,b3,a8,hC,hl2⟩ K70 hK70
 obtain ⟨m71',o74,rfl,hb,hl2⟩:=loopN_some hl2
 unfold F.canon_number_b2 at hb
 obtain ⟨rfl,c7,c8⟩:=(hC.ow (i:=5) rfl).sl_len
 obtain ⟨rfl,c9,d0⟩:=(hC.ow (i:=6) rfl).sl_len
 refine Wc.seq fun _ hK75=>?_
 refine Wc.seq fun _ hK76=>rg<|lp _ (pu_move e14)<|lp _ (pu_move e11)<|lp (iv (y.length:Int)) (pu_len (A:=Q) (n:=y.length) (m:=L) underlying30 rfl)<|lp (.bool (decide (g<(y.length:Int)))) (pu_lss (k:=.i64) (a:=g) (b:=(y.length:Int)) rfl rfl)<|ln (hK76 _ _ ?_)
 refine Wc.cond (t:=(decide (g<(y.length:Int)))) (rfl) (fun hq77=>?_) (fun hq77=>?_)
 replace hb:=tt hq77 hb
 refine Wc.skip (hK75 _ _ ?_)
 refine Wc.seq fun _ hK78=>?_
 refine Wc.block<|Wc.seq fun _ hK79=>rg<|lp _ (pu_move e11)<|lp _ (pu_move e14) ?_
 obtain ⟨x80,h81,hb⟩:=bd hb
 obtain ⟨ad82,cs83,hA,hc84,hr85⟩:=hC.elo (i:=5) rfl (get_some h81).2
 subst hA
 refine lp (.pointer (some (ad82.add (g.toNat*1)))) (pu_index (a:=g) underlying30 sizeOf3 rfl rfl (get_some h81).1) ?_
 obtain ⟨rfl,hr85'⟩:=hr85
 refine lv (iv x80) (ld_one isAgg3 rfl (hc84 0 _ rfl))<|lp (iv x80) (pu_assign rfl)<|ln (hK79 _ _ ?_)
 refine Wc.seq fun _ hK86=>rg<|lp _ (pu_move e12)<|lp (.pointer (some ((⟨g5,0,none⟩:Addr).add 0))) (pu_field (sz:=1) underlying32 rfl sizeOf30 (by decide) rfl e3)<|lv (.slice J c.length u) (ld_fld (hC.bx (i:=1) rfl) isAgg30 rfl rfl)<|lp (iv x80) (pu_move rfl) ?_
 obtain ⟨x87,h88,hb⟩:=bd hb
 obtain ⟨ad89,cs90,hA,hc91,hr92⟩:=hC.elr (i:=2) rfl (get_some h88).2
 subst hA
 refine lp (.pointer (some (ad89.add (x80.toNat*1)))) (pu_index (a:=x80) underlying30 sizeOf3 rfl rfl (get_some h88).1) ?_
 obtain ⟨rfl,hr92'⟩:=hr92
 refine lv (iv x87) (ld_one isAgg3 rfl (hc91 0 _ rfl))<|lex.op (hC.lit (s:=si) (vs:=[iv x87]) (xs:=[x87]) underlying30 type3 rfl rfl (nb rfl) rfl rfl (by simp [Value.cells,Sh.n]) rfl (show Elems _ _ si ([iv x87]++([])) ([x87]:List Int) from Elems.cons (⟨rfl,I64.wr (wrap_I64 hr92')⟩) (Elems.nil _ _ _))) ?_
 rintro _ w97 ⟨A93,c94,rfl,hl95,hc96,hC,-,-⟩
 obtain ⟨u99,h100,hb⟩:=bd hb
 refine lex.op (hC.app (i:=7) (s:=si) (xs:=H) (ys:=([x87]:List Int)) (m:=((([x87]:List Int)).length)) rfl underlying30 underlying30 type3 rfl rfl rfl (hC.srco (i:=0) rfl) rfl rfl (by have:=lim_some h100; simp at this⊢ <;>omega) (by decide)) ?_
 rintro _ w105 ⟨A101,c102,rfl,hl103,hc104,hC,-,-⟩
 refine lp (.slice A101 ((H++([x87]:List Int)).length) c102) (pu_assign rfl)<|ln (hK86 _ _ ?_)
 refine Wc.fresh fun E106 hE=>?_
 have e2:=cg hE 2 e2
 have e3:=cg hE 3 e3
 have e6:=cg hE 6 e6
 have e7:=cg hE 7 e7
 have e8:=cg hE 8 e8
 have e9:=cg hE 9 e9
 have e11:=cg hE 11 e11
 have e12:E106 12=.slice A101 ((H++([x87]:List Int)).length) c102:=cg hE 12 rfl
 have e13:=cg hE 13 e13
 have e14:=cg hE 14 e14
 have e15:E106 15=iv x80:=cg hE 15 rfl
 have e41:E106 41=.bool (decide (g<(y.length:Int))):=cg hE 41 rfl
 clear hE
 refine Wc.seq fun _ hK107=>?_
 refine Wc.seq fun _ hK108=>rg<|lp (iv 0) (pu_move rfl)<|ln (hK108 _ _ ?_)
 obtain ⟨o109,hl3,hb⟩:=bd hb
 refine Wc.cut (fun E wv=> ∃(x:List Int) (f:List Int) (z:Int) (N:List Int) (R:Option Addr) (Z S:Nat) (C:Option Addr) (a0 G:Nat),E 2=.slice l d.length q∧E 3=pg g5∧E 6=.slice none 0 0∧E 7=.slice none 0 0∧E 8=iv 0∧E 9=.slice (some ad53) (((rZ c.length)).length) c12∧E 11=.slice R Z S∧E 12=.slice C a0 G∧E 13=iv p∧E 14=iv g∧E 15=iv x80∧E 41=.bool (decide (g<(y.length:Int)))∧E 56=iv z∧I64 z∧(f=[]→C=none)∧Cx (fun _=>False) O0 w wv [.ro (.sl si) [.slice l d.length q] d,.box g5 32 [.slice (some ad89) c.length u,.slice D j.length B,iv U],.ro (.sl si) [.slice (some ad89) c.length u] c,.ro (.sl si) [.slice D j.length B] j,.own 3 si (.slice (some ad53) (((rZ c.length)).length) c12) N,.own 3 si (.slice R Z S) x,.own 3 si (.slice C a0 G) f]∧(cond (decide (p=0)) ((chk (5*g)).bind fun z216=>(cut z216 (f.length:Int) f.length).bind fun u218=>(chk (5*g)).bind fun z227=>(chk (5*g)).bind fun z229=>(chk (z229+5)).bind fun z231=>(cut z227 z231 d.length).bind fun u233=>(F.slices_Compare_Lint_int n ((f.drop z216.toNat).take ((f.length:Int).toNat-z216.toNat)) ((d.drop z227.toNat).take (z231.toNat-z227.toNat))).bind fun y242=>cond (decide (0<y242)) (some (.inr (.inr ([],[],1)))) ((chk (g+1)).bind fun z252=>some (.inl (x,f,y242,z252,N)))) (cond (decide (0<p)) (some (.inr (.inr ([],[],1)))) ((chk (g+1)).bind fun z259=>some (.inl (x,f,p,z259,N)))):Option (((List Int)×(List Int)×Int×Int×(List Int))⊕(((List Int)×(List Int)×Int×Int×(List Int))⊕((List Int)×(List Int)×Int))))=some o74) (fun _ hK110=>?_) ?_
 refine Wc.block ?_
 refine Wc.loop (fun m E wv=> ∃(x:List Int) (f:List Int) (z:Int) (N:List Int) (R:Option Addr) (Z S:Nat) (C:Option Addr) (a0 G:Nat),E 2=.slice l d.length q∧E 3=pg g5∧E 6=.slice none 0 0∧E 7=.slice none 0 0∧E 8=iv 0∧E 9=.slice (some ad53) (((rZ c.length)).length) c12∧E 11=.slice R Z S∧E 12=.slice C a0 G∧E 13=iv p∧E 14=iv g∧E 15=iv x80∧E 41=.bool (decide (g<(y.length:Int)))∧E 56=iv z∧I64 z∧(f=[]→C=none)∧Cx (fun _=>False) O0 w wv [.ro (.sl si) [.slice l d.length q] d,.box g5 32 [.slice (some ad89) c.length u,.slice D j.length B,iv U],.ro (.sl si) [.slice (some ad89) c.length u] c,.ro (.sl si) [.slice D j.length B] j,.own 3 si (.slice (some ad53) (((rZ c.length)).length) c12) N,.own 3 si (.slice R Z S) x,.own 3 si (.slice C a0 G) f]∧loopN m (F.canon_number_b3 n j x80) (x,f,z,N)=some o109) n ⟨y,(H++([x87]:List Int)),0,V,(some ad82),y.length,L,A101,(H++([x87]:List Int)).length,c102,e2,e3,e6,e7,e8,e9,e11,e12,e13,e14,e15,e41,rfl,(show I64 0 from by unfold I64; omega),(fun h=>absurd h (by simp)),hC.sE [1,2,3,4,5,6,7],hl3⟩ ?_
 have hbK3:=hb
 clear hb hC hl3
 rintro m112 E114 w113 ⟨x,f,z,N,R,Z,S,C,a0,G,e2,e3,e6,e7,e8,e9,e11,e12,e13,e14,e15,e41,e56,b4,a2,hC,hl3⟩ K111 hK111
 obtain ⟨m112',o115,rfl,hb,hl3⟩:=loopN_some hl3
 unfold F.canon_number_b3 at hb
 obtain ⟨rfl,b5,b6⟩:=(hC.ow (i:=5) rfl).sl_len
 obtain ⟨rfl,d1,d2⟩:=(hC.ow (i:=6) rfl).sl_len
 refine Wc.seq fun _ hK116=>rg<|lp (.bool (decide (z<4))) (pu_lss (k:=.i64) (a:=z) (b:=4) e56 rfl)<|ln (hK116 _ _ ?_)
 refine Wc.seq fun _ hK117=>?_
 refine Wc.cond (t:=(decide (z<4))) (rfl) (fun hq118=>?_) (fun hq118=>?_)
 replace hb:=tt hq118 hb
 refine Wc.skip (hK117 _ _ ?_)
 refine Wc.seq fun _ hK119=>?_
 refine Wc.block<|Wc.seq fun _ hK120=>rg<|lp _ (pu_move e56)<|lp (iv z) (pu_assign rfl)<|ln (hK120 _ _ ?_)
 refine Wc.seq fun _ hK121=>rg<|lp (.pointer (some ((⟨g5,0,none⟩:Addr).add 1))) (pu_field (sz:=1) underlying32 rfl sizeOf30 (by decide) rfl e3)<|lv (.slice D j.length B) (ld_fld (hC.bx (i:=1) rfl) isAgg30 rfl rfl)<|lp _ (pu_move e15) ?_
 obtain ⟨z122,h123,hb⟩:=bd hb
 refine lp (iv z122) (pu_mulc (a:=4) (b:=x80) rfl rfl h123)<|lp (iv z) (pu_move rfl) ?_
 obtain ⟨z124,h125,hb⟩:=bd hb
 refine lp (iv z124) (pu_addc (a:=z122) (b:=z) rfl rfl h125) ?_
 obtain ⟨x126,h127,hb⟩:=bd hb
 obtain ⟨ad128,cs129,hA,hc130,hr131⟩:=hC.elr (i:=3) rfl (get_some h127).2
 subst hA
 refine lp (.pointer (some (ad128.add (z124.toNat*1)))) (pu_index (a:=z124) underlying30 sizeOf3 rfl rfl (get_some h127).1) ?_
 obtain ⟨rfl,hr131'⟩:=hr131
 refine lv (iv x126) (ld_one isAgg3 rfl (hc130 0 _ rfl))<|lp (iv x126) (pu_assign rfl)<|ln (hK121 _ _ ?_)
 refine Wc.fresh fun E132 hE=>?_
 have e2:=cg hE 2 e2
 have e3:=cg hE 3 e3
 have e6:=cg hE 6 e6
 have e7:=cg hE 7 e7
 have e8:=cg hE 8 e8
 have e9:=cg hE 9 e9
 have e11:=cg hE 11 e11
 have e12:=cg hE 12 e12
 have e13:=cg hE 13 e13
 have e14:=cg hE 14 e14
 have e15:=cg hE 15 e15
 have e16:E132 16=iv z:=cg hE 16 rfl
 have e17:E132 17=iv x126:=cg hE 17 rfl
 have e41:=cg hE 41 e41
 have e56:=cg hE 56 e56
 have e57:E132 57=.bool (decide (z<4)):=cg hE 57 rfl
 clear hE
 refine Wc.seqJ (fun E wv=> ∃(a4:List Int) (b7:Bool) (a5:List Int) (a6:Option Addr) (a9 a7:Nat),E 2=.slice l d.length q∧E 3=pg g5∧E 6=.slice none 0 0∧E 7=.slice none 0 0∧E 8=iv 0∧E 9=.slice (some ad53) (((rZ c.length)).length) c12∧E 11=.slice a6 a9 a7∧E 12=.slice C f.length G∧E 13=iv p∧E 14=iv g∧E 15=iv x80∧E 16=iv z∧E 17=iv x126∧E 41=.bool (decide (g<(y.length:Int)))∧E 56=iv z∧E 57=.bool (decide (z<4))∧E 72=.bool b7∧Cx (fun _=>False) O0 w wv [.ro (.sl si) [.slice l d.length q] d,.box g5 32 [.slice (some ad89) c.length u,.slice (some ad128) j.length B,iv U],.ro (.sl si) [.slice (some ad89) c.length u] c,.ro (.sl si) [.slice (some ad128) j.length B] j,.own 3 si (.slice (some ad53) (((rZ c.length)).length) c12) a5,.own 3 si (.slice a6 a9 a7) a4,.own 3 si (.slice C f.length G) f]∧F.canon_number_j4 n f z x126 a4 b7 a5=some o115) (fun _ hK133=>?_) ?_
 refine Wc.seq fun _ hK134=>rg<|lp _ (pu_move e9)<|lp _ (pu_move e17) ?_
 obtain ⟨u135,h136,hb⟩:=bd hb
 obtain ⟨z137,h138,hb⟩:=bd hb
 refine lp (iv z137) (pu_quoc (a:=x126) (b:=4) rfl rfl h136 h138) ?_
 obtain ⟨x139,h140,hb⟩:=bd hb
 obtain ⟨ad141,cs142,hA,hc143,hr144⟩:=hC.elo (i:=4) rfl (get_some h140).2
 obtain rfl:=Option.some.inj hA
 refine lp (.pointer (some (ad53.add (z137.toNat*1)))) (pu_index (a:=z137) underlying30 sizeOf3 rfl rfl (by rw [(hC.ow (i:=4) rfl).sl_len.1]; exact (get_some h140).1)) ?_
 obtain ⟨rfl,hr144'⟩:=hr144
 refine lv (iv x139) (ld_one isAgg3 rfl (hc143 0 _ rfl))<|lp (.bool (decide (x139<0))) (pu_lss (k:=.i64) (a:=x139) (b:=0) rfl rfl)<|ln (hK134 _ _ ?_)
 refine Wc.cond (t:=(decide (x139<0))) (rfl) (fun hq145=>?_) (fun hq145=>?_)
 replace hb:=tt hq145 hb
 refine Wc.seq fun _ hK146=>rg<|lp _ (pu_move e9)<|lp _ (pu_move e17) ?_
 obtain ⟨u147,h148,hb⟩:=bd hb
 obtain ⟨z149,h150,hb⟩:=bd hb
 refine lp (iv z149) (pu_quoc (a:=x126) (b:=4) rfl rfl h148 h150)<|lp _ (pu_move e11)<|lp (iv (x.length:Int)) (pu_len (A:=R) (n:=x.length) (m:=S) underlying30 rfl) ?_
 obtain ⟨x151,h152,hb⟩:=bd hb
 obtain ⟨ad153,cs154,hA,hc155,hr156⟩:=hC.elo (i:=4) rfl (get_some h152).2
 obtain rfl:=Option.some.inj hA
 refine lp (.pointer (some (ad53.add (z149.toNat*1)))) (pu_index (a:=z149) underlying30 sizeOf3 rfl rfl (by rw [(hC.ow (i:=4) rfl).sl_len.1]; exact (get_some h152).1))<|lex.sk (hC.put (i:=4) rfl rfl sizeOf3 (k:=z149.toNat) (a:=(x.length:Int)) (by have:=(get_some h152).1; simp at this⊢; omega) (⟨rfl,I64.wr (I64.len b5 b6)⟩) rfl rfl rfl) ?_
 rintro w157 ⟨hC,hF⟩
 refine ln (hK146 _ _ ?_)
 refine Wc.fresh fun E158 hE=>?_
 have e2:=cg hE 2 e2
 have e3:=cg hE 3 e3
 have e6:=cg hE 6 e6
 have e7:=cg hE 7 e7
 have e8:=cg hE 8 e8
 have e9:=cg hE 9 e9
 have e11:=cg hE 11 e11
 have e12:=cg hE 12 e12
 have e13:=cg hE 13 e13
 have e14:=cg hE 14 e14
 have e15:=cg hE 15 e15
 have e16:=cg hE 16 e16
 have e17:=cg hE 17 e17
 have e41:=cg hE 41 e41
 have e56:=cg hE 56 e56
 have e57:=cg hE 57 e57
 have e72:E158 72=.bool (decide (x139<0)):=cg hE 72 rfl
 clear hE
 refine rg<|lp _ (pu_move e11)<|lp _ (pu_move e17) ?_
 obtain ⟨u159,h160,hb⟩:=bd hb
 obtain ⟨z161,h162,hb⟩:=bd hb
 refine lp (iv z161) (pu_quoc (a:=x126) (b:=4) rfl rfl h160 h162)<|lex.op (hC.lit (s:=si) (vs:=[iv z161]) (xs:=[z161]) underlying30 type3 rfl rfl (nb rfl) rfl rfl (by simp [Value.cells,Sh.n]) rfl (show Elems _ _ si ([iv z161]++([])) ([z161]:List Int) from Elems.cons (⟨rfl,I64.wr (chk_rng h162)⟩) (Elems.nil _ _ _))) ?_
 rintro _ w167 ⟨A163,c164,rfl,hl165,hc166,hC,-,-⟩
 obtain ⟨u169,h170,hb⟩:=bd hb
 refine lex.op (hC.app (i:=6) (s:=si) (xs:=x) (ys:=([z161]:List Int)) (m:=((([z161]:List Int)).length)) rfl underlying30 underlying30 type3 rfl rfl rfl (hC.srco (i:=0) rfl) rfl rfl (by have:=lim_some h170; simp at this⊢ <;>omega) (by decide)) ?_
 rintro _ w175 ⟨A171,c172,rfl,hl173,hc174,hC,-,-⟩
 refine lp (.slice A171 ((x++([z161]:List Int)).length) c172) (pu_assign rfl)<|ln ?_
 exact hK133 _ _ ⟨(x++([z161]:List Int)),(decide (x139<0)),(N.set z149.toNat (x.length:Int)),A171,(x++([z161]:List Int)).length,c172,e2,e3,e6,e7,e8,e9,rfl,e12,e13,e14,e15,e16,e17,e41,e56,e57,e72,hC.sE [1,2,3,4,5,6,7],hb⟩
 replace hb:=tf hq145 hb
 refine Wc.skip ?_
 exact hK133 _ _ ⟨x,(decide (x139<0)),N,R,x.length,S,e2,e3,e6,e7,e8,e9,e11,e12,e13,e14,e15,e16,e17,e41,e56,e57,rfl,hC.sE [0,1,2,3,4,5,6],hb⟩
 clear hb hC
 rintro E177 w176 ⟨a4,b7,a5,a6,a9,a7,e2,e3,e6,e7,e8,e9,e11,e12,e13,e14,e15,e16,e17,e41,e56,e57,e72,hC,hb⟩
 unfold F.canon_number_j4 at hb
 obtain ⟨rfl,d9,e0⟩:=(hC.ow (i:=5) rfl).sl_len
 refine rg<|lp _ (pu_move e12)<|lp _ (pu_move e9)<|lp _ (pu_move e17) ?_
 obtain ⟨u178,h179,hb⟩:=bd hb
 obtain ⟨z180,h181,hb⟩:=bd hb
 refine lp (iv z180) (pu_quoc (a:=x126) (b:=4) rfl rfl h179 h181) ?_
 obtain ⟨x182,h183,hb⟩:=bd hb
 obtain ⟨ad184,cs185,hA,hc186,hr187⟩:=hC.elo (i:=4) rfl (get_some h183).2
 obtain rfl:=Option.some.inj hA
 refine lp (.pointer (some (ad53.add (z180.toNat*1)))) (pu_index (a:=z180) underlying30 sizeOf3 rfl rfl (by rw [(hC.ow (i:=4) rfl).sl_len.1]; exact (get_some h183).1)) ?_
 obtain ⟨rfl,hr187'⟩:=hr187
 refine lv (iv x182) (ld_one isAgg3 rfl (hc186 0 _ rfl)) ?_
 obtain ⟨z188,h189,hb⟩:=bd hb
 refine lp (iv z188) (pu_mulc (a:=4) (b:=x182) rfl rfl h189)<|lp _ (pu_move e17) ?_
 obtain ⟨u190,h191,hb⟩:=bd hb
 refine lp (iv (Int.tmod x126 4)) (pu_remc (a:=x126) (b:=4) rfl rfl h191) ?_
 obtain ⟨z192,h193,hb⟩:=bd hb
 refine lp (iv z192) (pu_addc (a:=z188) (b:=(Int.tmod x126 4)) rfl rfl h193)<|lex.op (hC.lit (s:=si) (vs:=[iv z192]) (xs:=[z192]) underlying30 type3 rfl rfl (nb rfl) rfl rfl (by simp [Value.cells,Sh.n]) rfl (show Elems _ _ si ([iv z192]++([])) ([z192]:List Int) from Elems.cons (⟨rfl,I64.wr (chk_rng h193)⟩) (Elems.nil _ _ _))) ?_
 rintro _ w198 ⟨A194,c195,rfl,hl196,hc197,hC,-,-⟩
 obtain ⟨u200,h201,hb⟩:=bd hb
 refine lex.op (hC.app (i:=7) (s:=si) (xs:=f) (ys:=([z192]:List Int)) (m:=((([z192]:List Int)).length)) rfl underlying30 underlying30 type3 rfl rfl rfl (hC.srco (i:=0) rfl) rfl rfl (by have:=lim_some h201; simp at this⊢ <;>omega) (by decide)) ?_
 rintro _ w206 ⟨A202,c203,rfl,hl204,hc205,hC,-,-⟩
 refine lp (.slice A202 ((f++([z192]:List Int)).length) c203) (pu_assign rfl)<|ln (hK119 _ _ ?_)
 refine rg ?_
 obtain ⟨z207,h208,hb⟩:=bd hb
 refine lp (iv z207) (pu_addc (a:=z) (b:=1) e56 rfl h208)<|lp (iv z207) (pu_move rfl)<|ln ?_
 obtain rfl:=os hb
 exact hK111 m112' _ _ (Nat.lt_succ_self _) ⟨a4,(f++([z192]:List Int)),z207,a5,a6,a4.length,a7,A202,(f++([z192]:List Int)).length,c203,e2,e3,e6,e7,e8,e9,e11,rfl,e13,e14,e15,e41,rfl,(chk_rng h208),(fun h=>absurd h (by simp)),hC.sE [1,2,3,4,5,6,7],lN hl3⟩
 replace hb:=tf hq118 hb
 refine Wc.exit rfl ?_
 obtain rfl:=os hb
 obtain rfl:=(lX hl3).symm
 exact hK110 _ _ ⟨x,f,z,N,R,x.length,S,C,f.length,G,e2,e3,e6,e7,e8,e9,e11,e12,e13,e14,e15,e41,e56,b4,a2,hC.sE [0,1,2,3,4,5,6],hbK3⟩
 clear hb hC hl3
 rintro E210 w209 ⟨x,f,z,N,R,Z,S,C,a0,G,e2,e3,e6,e7,e8,e9,e11,e12,e13,e14,e15,e41,e56,b4,a2,hC,hb⟩
 obtain ⟨rfl,b5,b6⟩:=(hC.ow (i:=5) rfl).sl_len
 obtain ⟨rfl,d1,d2⟩:=(hC.ow (i:=6) rfl).sl_len
 refine hK107 _ _ ?_
 refine Wc.seq fun _ hK211=>?_
 refine Wc.seq fun _ hK212=>rg<|lp _ (pu_move e13)<|lp (.bool (decide (p=0))) (pu_eql (k:=.i64) (a:=p) (b:=0) rfl rfl)<|ln (hK212 _ _ ?_)
 refine Wc.cond (t:=(decide (p=0))) (rfl) (fun hq213=>?_) (fun hq213=>?_)
 replace hb:=tt hq213 hb
 refine Wc.regionMix [] (frm [] ([]:List Fact) ([]:List Fact)) (fun _=>rfl) mixed (by decide+kernel) (by decide+kernel) fun w215 hw214=>?_
 replace hC:=hC.step (Fr.of_drew hw214)
 have hM:=Fr.refl (fun k=>k∈blocks ([]:List Fact)) w215
 clear hw214
 have hS:=hC
 refine mp (.slice C f.length G) (pu_move e12)<|mp (iv g) (pu_move e14) ?_
 obtain ⟨z216,h217,hb⟩:=bd hb
 refine mp (iv z216) (pu_mulc (a:=5) (b:=g) rfl rfl h217) ?_
 obtain ⟨u218,h219,hb⟩:=bd hb
 obtain ⟨A220,c221,hp224,hR225⟩:=pu_part_l (a:=z216) underlying30 sizeOf3 ((hC.ow (i:=6) rfl).lend (vs:=[.slice C f.length G]) (by simp)) rfl (cut_some h219)
 refine mp (.slice A220 (((f.drop z216.toNat).take ((f.length:Int).toNat-z216.toNat)).length) c221) (hp224 rfl rfl )<|mp (.slice l d.length q) (pu_move e2)<|mp (iv g) (pu_move e14) ?_
 obtain ⟨z227,h228,hb⟩:=bd hb
 refine mp (iv z227) (pu_mulc (a:=5) (b:=g) rfl rfl h228)<|mp (iv g) (pu_move e14) ?_
 obtain ⟨z229,h230,hb⟩:=bd hb
 refine mp (iv z229) (pu_mulc (a:=5) (b:=g) rfl rfl h230) ?_
 obtain ⟨z231,h232,hb⟩:=bd hb
 refine mp (iv z231) (pu_addc (a:=z229) (b:=5) rfl rfl h232) ?_
 obtain ⟨u233,h234,hb⟩:=bd hb
 obtain ⟨A235,c236,hp239,hR240⟩:=pu_part_lh (a:=z227) (b:=z231) underlying30 sizeOf3 (hC.rd (i:=0) rfl) rfl (cut_some h234)
 refine mp (.slice A235 (((d.drop z227.toNat).take (z231.toNat-z227.toNat)).length) c236) (hp239 rfl rfl rfl) ?_
 replace hC:=hC.ro hR240
 obtain ⟨-,hl237,hc238⟩:=(hC.rd (i:=0) rfl).sl_len
 obtain ⟨y242,h243,hb⟩:=bd hb
 refine mixE.cl hM (⟨_,_,op_call (vs:=[.slice A220 (((f.drop z216.toNat).take ((f.length:Int).toNat-z216.toNat)).length) c221,.slice A235 (((d.drop z227.toNat).take (z231.toNat-z227.toNat)).length) c236]) call107 rfl rfl rfl,slices_Compare_Lint_int_ok n (hC.lentLt [.slice C f.length G]) (hR225.more (by simp)) ((hC.rd (i:=0) rfl).lent [.slice C f.length G]) h243⟩) ?_
 rintro _ w245 ⟨rfl,hr244,hK⟩
 replace hM:=hM.none hK.fr
 refine ⟨hM,?_⟩
 replace hC:=hC.mergeF hK rfl
 clear hK
 refine mp (iv y242) (pu_assign rfl)<|mixE.nil ?_
 clear hS hM
 refine hK211 _ _<|Wc.fresh fun E246 hE=>?_
 have e2:=cg hE 2 e2
 have e3:=cg hE 3 e3
 have e6:=cg hE 6 e6
 have e7:=cg hE 7 e7
 have e8:=cg hE 8 e8
 have e9:=cg hE 9 e9
 have e11:=cg hE 11 e11
 have e12:=cg hE 12 e12
 have e13:E246 13=iv y242:=cg hE 13 rfl
 have e14:=cg hE 14 e14
 have e15:=cg hE 15 e15
 have e41:=cg hE 41 e41
 have e56:=cg hE 56 e56
 have e98:E246 98=.bool (decide (p=0)):=cg hE 98 rfl
 clear hE
 refine Wc.seq fun _ hK247=>rg<|lp _ (pu_move e13)<|lp (.bool (decide (0<y242))) (pu_gtr (k:=.i64) (a:=y242) (b:=0) rfl rfl)<|ln (hK247 _ _ ?_)
 refine Wc.cond (t:=(decide (0<y242))) (rfl) (fun hq248=>?_) (fun hq248=>?_)
 replace hb:=tt hq248 hb
 refine Wc.seq fun _ hK249=>rg<|lp (.slice none 0 0) (pu_assign rfl)<|lp (.slice none 0 0) (pu_assign rfl)<|lp (iv 1) (pu_assign rfl)<|ln (hK249 _ _ ?_)
 obtain rfl:=os hb
 obtain rfl:=(lX hl2).symm
 replace hb:=hbK2
 replace hC:=hC.nil 3 si
 replace hC:=hC.nil 3 si
 obtain rfl:=os hb
 refine Wc.ret (hKR _ _ ?_)
 refine ⟨_,res3 results104 (tV (.slice none 0 0) rfl) (tV (.slice none 0 0) rfl) (tV (iv 1) rfl),_,rfl,none,0,0,none,0,0,rfl,(fun _=>rfl),(show I64 1 from by unfold I64; omega),hC.sE [1,0]⟩
 replace hb:=tf hq248 hb
 refine Wc.skip (hK78 _ _ ?_)
 refine rg<|lp _ (pu_move e14) ?_
 obtain ⟨z252,h253,hb⟩:=bd hb
 refine lp (iv z252) (pu_addc (a:=g) (b:=1) rfl rfl h253)<|lp (iv z252) (pu_assign rfl)<|ln ?_
 obtain rfl:=os hb
 exact hK70 m71' _ _ (Nat.lt_succ_self _) ⟨x,f,y242,z252,N,R,x.length,S,C,f.length,G,e2,e3,e6,e7,e8,e9,e11,e12,e13,rfl,hr244,(chk_rng h253),a2,hC.sE [1,2,3,4,5,6,7],lN hl2⟩
 replace hb:=tf hq213 hb
 refine Wc.skip (hK211 _ _ ?_)
 refine Wc.seq fun _ hK254=>rg<|lp _ (pu_move e13)<|lp (.bool (decide (0<p))) (pu_gtr (k:=.i64) (a:=p) (b:=0) rfl rfl)<|ln (hK254 _ _ ?_)
 refine Wc.cond (t:=(decide (0<p))) (rfl) (fun hq255=>?_) (fun hq255=>?_)
 replace hb:=tt hq255 hb
 refine Wc.seq fun _ hK256=>rg<|lp (.slice none 0 0) (pu_assign rfl)<|lp (.slice none 0 0) (pu_assign rfl)<|lp (iv 1) (pu_assign rfl)<|ln (hK256 _ _ ?_)
 obtain rfl:=os hb
 obtain rfl:=(lX hl2).symm
 replace hb:=hbK2
 replace hC:=hC.nil 3 si
 replace hC:=hC.nil 3 si
 obtain rfl:=os hb
 refine Wc.ret (hKR _ _ ?_)
 refine ⟨_,res3 results104 (tV (.slice none 0 0) rfl) (tV (.slice none 0 0) rfl) (tV (iv 1) rfl),_,rfl,none,0,0,none,0,0,rfl,(fun _=>rfl),(show I64 1 from by unfold I64; omega),hC.sE [1,0]⟩
 replace hb:=tf hq255 hb
 refine Wc.skip (hK78 _ _ ?_)
 refine rg<|lp _ (pu_move e14) ?_
 obtain ⟨z259,h260,hb⟩:=bd hb
 refine lp (iv z259) (pu_addc (a:=g) (b:=1) rfl rfl h260)<|lp (iv z259) (pu_assign rfl)<|ln ?_
 obtain rfl:=os hb
 exact hK70 m71' _ _ (Nat.lt_succ_self _) ⟨x,f,p,z259,N,R,x.length,S,C,f.length,G,e2,e3,e6,e7,e8,e9,e11,e12,e13,rfl,a1,(chk_rng h260),a2,hC.sE [0,1,2,3,4,5,6],lN hl2⟩
 replace hb:=tf hq77 hb
 refine Wc.exit rfl ?_
 obtain rfl:=os hb
 obtain rfl:=(lX hl2).symm
 exact hK69 _ _ ⟨y,H,p,g,V,Q,y.length,L,M,H.length,T,e6,e7,e8,e11,e12,e13,a1,b3,a8,hC.sE [5,6],hbK2⟩
 clear hb hC hl2
 rintro E262 w261 ⟨y,H,p,g,V,Q,X,L,M,Y,T,e6,e7,e8,e11,e12,e13,a1,b3,a8,hC,hb⟩
 obtain ⟨rfl,c7,c8⟩:=(hC.ow (i:=0) rfl).sl_len
 obtain ⟨rfl,c9,d0⟩:=(hC.ow (i:=1) rfl).sl_len
 refine hK65 _ _<|Wc.seq fun _ hK263=>rg<|lp _ (pu_move e12)<|lp _ (pu_move e11)<|lp _ (pu_move e13)<|lp (.slice M H.length T) (pu_assign rfl)<|lp (.slice Q y.length L) (pu_assign rfl)<|lp (iv p) (pu_assign rfl)<|ln (hK263 _ _ ?_)
 obtain rfl:=os hb
 refine Wc.ret (hKR _ _ ?_)
 refine ⟨_,res3 results104 (tV (.slice M H.length T) rfl) (tV (.slice Q y.length L) rfl) (tV (iv p) rfl),_,rfl,M,H.length,T,Q,y.length,L,rfl,a8,a1,hC.sE [1,0]⟩
end Go.Proofs.Yteajmbanlohncaa
