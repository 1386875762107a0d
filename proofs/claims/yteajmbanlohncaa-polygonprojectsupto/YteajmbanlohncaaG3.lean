import Derived.Test.YteajmbanlohncaaS
import Derived.Test.YteajmbanlohncaaG0
import Derived.Test.YteajmbanlohncaaG1
import Derived.Test.YteajmbanlohncaaG2
set_option linter.unusedVariables false
set_option linter.unusedSimpArgs false
namespace Go.Proofs.Yteajmbanlohncaa
open Ev Try
set_option maxRecDepth 100000
set_option maxHeartbeats 4000000
theorem polygon_cross_ok (n:Nat) {w:World} {O0:List Nat} (hO: ∀k∈O0,k<w.heap.size) {B:Option Addr} {L d:Nat} {c:List ((Int×(Int×Int))×((Int×(Int×Int))×(Int×Int)))} (M:Rep O0 w (.sl (.pr (.pr si (.pr si si)) (.pr (.pr si (.pr si si)) (.pr si si)))) [.slice B L d] c) {r:(List (List (Int×Bool)))×Bool} (hb:F.polygon_cross n c=some r):
    Calls prog 53 #[.slice B L d] w fun e w'=> ∃v,e=.returned v∧∃(A0:Option Addr) (m0 c0:Nat),v=.tuple #[.slice A0 m0 c0,.bool r.2]∧Cx (fun _=>False) O0 w w' [.ro (.sl (.sl (.pr si .bool))) [.slice A0 m0 c0] r.1]:=by
 unfold F.polygon_cross at hb
 have hC:=Cx.start hO
 replace hC:=hC.arg rfl M
 clear hO
 obtain ⟨rfl,R,S⟩:=M.sl_len
 replace hC:=hC.noT
 refine calls_of_Wc func53 rfl (by rw [ntmps53]; exact nb rfl) fun KR hKR=>?_
 refine Wc.seq fun _ hK2=>rg ?_
 replace hC:Cx (fun _=>False) O0 w w ([.ro (.sl (.pr (.pr si (.pr si si)) (.pr (.pr si (.pr si si)) (.pr si si)))) [.slice B c.length d] c]++([]:List Fact)):=hC
 refine lex.op (hC.box (cs:=[.slice B c.length d]) rfl rfl) ?_
 rintro _ w4 ⟨g3,rfl,hC,hF,-⟩
 replace hC:Cx (fun _=>False) O0 w w4 ([.box g3 68 [.slice B c.length d],.ro (.sl (.pr (.pr si (.pr si si)) (.pr (.pr si (.pr si si)) (.pr si si)))) [.slice B c.length d] c]++([]:List Fact)):=hC
 refine lp (.slice none 0 0) (pu_assign rfl)<|lp (.bool false) (pu_assign rfl)<|ln (hK2 _ _ ?_)
 refine Wc.seq fun _ hK6=>rg<|lv (.slice B c.length d) (ld_one isAgg68 rfl ((hC.bx (i:=0) rfl).cell (j:=0) rfl))<|lp (iv (c.length:Int)) (pu_len (A:=B) (n:=c.length) (m:=d) underlying68 rfl) ?_
 obtain ⟨u7,h8,hb⟩:=bd hb
 refine lex.op (hC.make (s:=.raw) (n:=(c.length:Int)) underlying70 type73 rfl rfl rfl rfl rfl (pos_some h8).1 (pos_some h8).2 (by decide)) ?_
 rintro _ w13 ⟨A9,c10,rfl,hl11,hc12,hC,-,-⟩
 replace hC:Cx (fun _=>False) O0 w w13 ([.own 73 .raw (.slice A9 (((List.replicate (c.length:Int).toNat (Value.slice none 0 0))).length) c10) (List.replicate (c.length:Int).toNat (Value.slice none 0 0)),.box g3 68 [.slice B c.length d],.ro (.sl (.pr (.pr si (.pr si si)) (.pr (.pr si (.pr si si)) (.pr si si)))) [.slice B c.length d] c]++([]:List Fact)):=hC
 replace hC:=hC.nilRows 107 (.pr si .bool) (c.length:Int).toNat
 replace hC:Cx (fun _=>False) O0 w w13 ([.own 73 .raw (.slice A9 (((List.replicate (c.length:Int).toNat (Value.slice none 0 0))).length) c10) (List.replicate (c.length:Int).toNat (Value.slice none 0 0)),.box g3 68 [.slice B c.length d],.ro (.sl (.pr (.pr si (.pr si si)) (.pr (.pr si (.pr si si)) (.pr si si)))) [.slice B c.length d] c]++(rowsF 107 (.pr si .bool) (List.replicate (c.length:Int).toNat (Value.slice none 0 0)) (List.replicate (c.length:Int).toNat ([]:List (Int×Bool)))++([]:List Fact))):=hC
 refine lp (.slice A9 (((List.replicate (c.length:Int).toNat (Value.slice none 0 0))).length) c10) (pu_assign rfl)<|ln (hK6 _ _ ?_)
 refine Wc.seq fun _ hK15=>?_
 refine Wc.seq fun _ hK16=>rg<|lv (.slice B c.length d) (ld_one isAgg68 rfl ((hC.bx (i:=1) rfl).cell (j:=0) rfl))<|lp (iv (c.length:Int)) (pu_len (A:=B) (n:=c.length) (m:=d) underlying68 rfl)<|lp (iv 0) (pu_move rfl)<|ln (hK16 _ _ ?_)
 refine Wc.fresh fun E17 hE=>?_
 have e1:E17 1=pg g3:=cg hE 1 rfl
 have e2:E17 2=.slice none 0 0:=cg hE 2 rfl
 have e3:E17 3=.bool false:=cg hE 3 rfl
 have e4:E17 4=.slice A9 (((List.replicate (c.length:Int).toNat (Value.slice none 0 0))).length) c10:=cg hE 4 rfl
 have e17:E17 17=.slice B c.length d:=cg hE 17 rfl
 have e18:E17 18=iv (c.length:Int):=cg hE 18 rfl
 have e19:E17 19=iv 0:=cg hE 19 rfl
 clear hE
 obtain ⟨o18,hl0,hb⟩:=bd hb
 refine Wc.cut (fun E wv=> ∃(p:Int) (D:List (List (Int×Bool))) (z:List Value),E 2=.slice none 0 0∧E 3=.bool false∧E 4=.slice A9 (((List.replicate (c.length:Int).toNat (Value.slice none 0 0))).length) c10∧I64 p∧z.length=D.length∧Cx (fun _=>False) O0 w wv ([.own 73 .raw (.slice A9 (((List.replicate (c.length:Int).toNat (Value.slice none 0 0))).length) c10) z]++(rowsF 107 (.pr si .bool) z D++([]:List Fact)))∧(some (D,true):Option ((List (List (Int×Bool)))×Bool))=some r) (fun _ hK19=>?_) ?_
 refine Wc.block ?_
 refine Wc.loop (fun m E wv=> ∃(p:Int) (D:List (List (Int×Bool))) (z:List Value),E 1=pg g3∧E 2=.slice none 0 0∧E 3=.bool false∧E 4=.slice A9 (((List.replicate (c.length:Int).toNat (Value.slice none 0 0))).length) c10∧E 17=.slice B c.length d∧E 18=iv (c.length:Int)∧E 19=iv p∧I64 p∧z.length=D.length∧Cx (fun _=>False) O0 w wv ([.box g3 68 [.slice B c.length d],.ro (.sl (.pr (.pr si (.pr si si)) (.pr (.pr si (.pr si si)) (.pr si si)))) [.slice B c.length d] c,.own 73 .raw (.slice A9 (((List.replicate (c.length:Int).toNat (Value.slice none 0 0))).length) c10) z]++(rowsF 107 (.pr si .bool) z D++([]:List Fact)))∧loopN m (F.polygon_cross_b0 n c) (p,D)=some o18) n ⟨0,(List.replicate (c.length:Int).toNat ([]:List (Int×Bool))),(List.replicate (c.length:Int).toNat (Value.slice none 0 0)),e1,e2,e3,e4,e17,e18,e19,(show I64 0 from by unfold I64; omega),(nilRows_len (c.length:Int).toNat (s:=(.pr si .bool))),hC.selT [1,2,0] (by decide),hl0⟩ ?_
 have hbK0:=hb
 clear hb hC hl0
 rintro m21 E23 w22 ⟨p,D,z,e1,e2,e3,e4,e17,e18,e19,N,H,hC,hl0⟩ K20 hK20
 obtain ⟨m21',o24,rfl,hb,hl0⟩:=loopN_some hl0
 unfold F.polygon_cross_b0 at hb
 refine Wc.seq fun _ hK25=>rg ?_
 replace hC:Cx (fun _=>False) O0 w w22 ([.box g3 68 [.slice B c.length d],.ro (.sl (.pr (.pr si (.pr si si)) (.pr (.pr si (.pr si si)) (.pr si si)))) [.slice B c.length d] c,.own 73 .raw (.slice A9 (((List.replicate (c.length:Int).toNat (Value.slice none 0 0))).length) c10) z]++(rowsF 107 (.pr si .bool) z D++([]:List Fact))):=hC
 refine lp _ (pu_lss e19 e18)<|ln (hK25 _ _ ?_)
 refine Wc.seq fun _ hK26=>?_
 refine Wc.cond (t:=(decide (p<(c.length:Int)))) (rfl) (fun hq27=>?_) (fun hq27=>?_)
 replace hb:=tt hq27 hb
 refine Wc.skip (hK26 _ _ ?_)
 refine Wc.seq fun _ hK28=>?_
 refine Wc.block<|Wc.seq fun _ hK29=>rg<|lp _ (pu_move e19) ?_
 obtain ⟨x30,h31,hb⟩:=bd hb
 obtain ⟨ad32,cs33,hA,hc34,hr35⟩:=hC.elr (i:=1) rfl (get_some h31).2
 subst hA
 refine lp (.pointer (some (ad32.add (p.toNat*8)))) (pu_index (a:=p) underlying68 sizeOf105 e17 e19 (get_some h31).1) ?_
 replace hC:Cx (fun _=>False) O0 w w22 ([.box g3 68 [.slice (some ad32) c.length d],.ro (.sl (.pr (.pr si (.pr si si)) (.pr (.pr si (.pr si si)) (.pr si si)))) [.slice (some ad32) c.length d] c,.own 73 .raw (.slice A9 (((List.replicate (c.length:Int).toNat (Value.slice none 0 0))).length) c10) z]++(rowsF 107 (.pr si .bool) z D++([]:List Fact))):=hC
 obtain ⟨k36,k37,rfl,hr38,hr39⟩:=hr35
 obtain ⟨k40,k41,rfl,hr42,hr43⟩:=hr38
 obtain ⟨rfl,hr42⟩:=hr42
 obtain ⟨k44,k45,rfl,hr46,hr47⟩:=hr43
 obtain ⟨rfl,hr46⟩:=hr46
 obtain ⟨rfl,hr47⟩:=hr47
 obtain ⟨k48,k49,rfl,hr50,hr51⟩:=hr39
 obtain ⟨k52,k53,rfl,hr54,hr55⟩:=hr50
 obtain ⟨rfl,hr54⟩:=hr54
 obtain ⟨k56,k57,rfl,hr58,hr59⟩:=hr55
 obtain ⟨rfl,hr58⟩:=hr58
 obtain ⟨rfl,hr59⟩:=hr59
 obtain ⟨k60,k61,rfl,hr62,hr63⟩:=hr51
 obtain ⟨rfl,hr62⟩:=hr62
 obtain ⟨rfl,hr63⟩:=hr63
 refine lv (.agg #[iv x30.1.1,iv x30.1.2.1,iv x30.1.2.2,iv x30.2.1.1,iv x30.2.1.2.1,iv x30.2.1.2.2,iv x30.2.2.1,iv x30.2.2.2]) (ld_agg isAgg105 sizeOf105 rfl rfl hc34)<|lex.op (hC.alloc (cs:=[iv 0,iv 0,iv 0,iv 0,iv 0,iv 0,iv 0,iv 0]) zeroValue105 rfl) ?_
 rintro _ w65 ⟨g64,rfl,hC,hF,-⟩
 replace hC:Cx (fun _=>False) O0 w w65 ([.box g64 105 [iv 0,iv 0,iv 0,iv 0,iv 0,iv 0,iv 0,iv 0],.box g3 68 [.slice (some ad32) c.length d],.ro (.sl (.pr (.pr si (.pr si si)) (.pr (.pr si (.pr si si)) (.pr si si)))) [.slice (some ad32) c.length d] c,.own 73 .raw (.slice A9 (((List.replicate (c.length:Int).toNat (Value.slice none 0 0))).length) c10) z]++(rowsF 107 (.pr si .bool) z D++([]:List Fact))):=hC
 refine lp (iv p) (pu_assign rfl)<|lex.sk (hC.seta (i:=0) (ds:=[iv x30.1.1,iv x30.1.2.1,iv x30.1.2.2,iv x30.2.1.1,iv x30.2.1.2.1,iv x30.2.1.2.2,iv x30.2.2.1,iv x30.2.2.2]) rfl type105 rfl rfl rfl rfl rfl) ?_
 rintro w67 ⟨hC,hF⟩
 refine ln (hK29 _ _ ?_)
 refine Wc.seq fun _ hK68=>?_
 refine Wc.seq fun _ hK69=>rg ?_
 replace hC:Cx (fun _=>False) O0 w w67 ([.box g64 105 [iv x30.1.1,iv x30.1.2.1,iv x30.1.2.2,iv x30.2.1.1,iv x30.2.1.2.1,iv x30.2.1.2.2,iv x30.2.2.1,iv x30.2.2.2],.box g3 68 [.slice (some ad32) c.length d],.ro (.sl (.pr (.pr si (.pr si si)) (.pr (.pr si (.pr si si)) (.pr si si)))) [.slice (some ad32) c.length d] c,.own 73 .raw (.slice A9 (((List.replicate (c.length:Int).toNat (Value.slice none 0 0))).length) c10) z]++(rowsF 107 (.pr si .bool) z D++([]:List Fact))):=hC
 refine lv (.slice (some ad32) c.length d) (ld_one isAgg68 e1 ((hC.bx (i:=1) rfl).cell (j:=0) rfl))<|lp (iv (c.length:Int)) (pu_len (A:=(some ad32)) (n:=c.length) (m:=d) underlying68 rfl)<|lp (iv 0) (pu_move rfl)<|ln (hK69 _ _ ?_)
 obtain ⟨o70,hl1,hb⟩:=bd hb
 refine Wc.cut (fun E wv=> ∃(y:Int) (x:List (List (Int×Bool))) (l:List Value),E 1=pg g3∧E 2=.slice none 0 0∧E 3=.bool false∧E 4=.slice A9 (((List.replicate (c.length:Int).toNat (Value.slice none 0 0))).length) c10∧E 5=iv p∧E 6=pg g64∧E 17=.slice (some ad32) c.length d∧E 18=iv (c.length:Int)∧E 19=iv p∧E 20=.bool (decide (p<(c.length:Int)))∧E 24=.slice (some ad32) c.length d∧E 25=iv (c.length:Int)∧E 26=iv y∧I64 y∧l.length=x.length∧Cx (fun _=>False) O0 w wv ([.box g3 68 [.slice (some ad32) c.length d],.ro (.sl (.pr (.pr si (.pr si si)) (.pr (.pr si (.pr si si)) (.pr si si)))) [.slice (some ad32) c.length d] c,.own 73 .raw (.slice A9 (((List.replicate (c.length:Int).toNat (Value.slice none 0 0))).length) c10) l,.box g64 105 [iv x30.1.1,iv x30.1.2.1,iv x30.1.2.2,iv x30.2.1.1,iv x30.2.1.2.1,iv x30.2.1.2.2,iv x30.2.2.1,iv x30.2.2.2]]++(rowsF 107 (.pr si .bool) l x++([]:List Fact)))∧((get x p).bind fun x219=>(F.slices_SortFunc_passage_passage_polygon_cross_c2 n x219 c x30.1.1 x30.1.2.1 x30.1.2.2 x30.2.1.1 x30.2.1.2.1 x30.2.1.2.2 x30.2.2.1 x30.2.2.2).bind fun y233=>((loopN n (F.polygon_cross_b4 n c p x30 x y233) 1).bind fun o239=>match o239 with | (.inl G)=>(chk (p+1)).bind fun z322=>some (.inl (z322,(x.set p.toNat y233))) | (.inr q)=>some (.inr (.inr q))):Option ((Int×(List (List (Int×Bool))))⊕((Int×(List (List (Int×Bool))))⊕((List (List (Int×Bool)))×Bool))))=some o24) (fun _ hK71=>?_) ?_
 refine Wc.block ?_
 refine Wc.loop (fun m E wv=> ∃(y:Int) (x:List (List (Int×Bool))) (l:List Value),E 1=pg g3∧E 2=.slice none 0 0∧E 3=.bool false∧E 4=.slice A9 (((List.replicate (c.length:Int).toNat (Value.slice none 0 0))).length) c10∧E 5=iv p∧E 6=pg g64∧E 17=.slice (some ad32) c.length d∧E 18=iv (c.length:Int)∧E 19=iv p∧E 20=.bool (decide (p<(c.length:Int)))∧E 24=.slice (some ad32) c.length d∧E 25=iv (c.length:Int)∧E 26=iv y∧I64 y∧l.length=x.length∧Cx (fun _=>False) O0 w wv ([.box g3 68 [.slice (some ad32) c.length d],.ro (.sl (.pr (.pr si (.pr si si)) (.pr (.pr si (.pr si si)) (.pr si si)))) [.slice (some ad32) c.length d] c,.own 73 .raw (.slice A9 (((List.replicate (c.length:Int).toNat (Value.slice none 0 0))).length) c10) l,.box g64 105 [iv x30.1.1,iv x30.1.2.1,iv x30.1.2.2,iv x30.2.1.1,iv x30.2.1.2.1,iv x30.2.1.2.2,iv x30.2.2.1,iv x30.2.2.2]]++(rowsF 107 (.pr si .bool) l x++([]:List Fact)))∧loopN m (F.polygon_cross_b1 n c p x30) (y,x)=some o70) n ⟨0,D,z,e1,e2,e3,e4,rfl,rfl,e17,e18,e19,rfl,rfl,rfl,rfl,(show I64 0 from by unfold I64; omega),H,hC.selT [1,2,3,0] (by decide),hl1⟩ ?_
 have hbK1:=hb
 clear hb hC hl1
 rintro m73 E75 w74 ⟨y,x,l,e1,e2,e3,e4,e5,e6,e17,e18,e19,e20,e24,e25,e26,J,C,hC,hl1⟩ K72 hK72
 obtain ⟨m73',o76,rfl,hb,hl1⟩:=loopN_some hl1
 unfold F.polygon_cross_b1 at hb
 refine Wc.seq fun _ hK77=>rg ?_
 replace hC:Cx (fun _=>False) O0 w w74 ([.box g3 68 [.slice (some ad32) c.length d],.ro (.sl (.pr (.pr si (.pr si si)) (.pr (.pr si (.pr si si)) (.pr si si)))) [.slice (some ad32) c.length d] c,.own 73 .raw (.slice A9 (((List.replicate (c.length:Int).toNat (Value.slice none 0 0))).length) c10) l,.box g64 105 [iv x30.1.1,iv x30.1.2.1,iv x30.1.2.2,iv x30.2.1.1,iv x30.2.1.2.1,iv x30.2.1.2.2,iv x30.2.2.1,iv x30.2.2.2]]++(rowsF 107 (.pr si .bool) l x++([]:List Fact))):=hC
 refine lp _ (pu_lss e26 e25)<|ln (hK77 _ _ ?_)
 refine Wc.seq fun _ hK78=>?_
 refine Wc.cond (t:=(decide (y<(c.length:Int)))) (rfl) (fun hq79=>?_) (fun hq79=>?_)
 replace hb:=tt hq79 hb
 refine Wc.skip (hK78 _ _ ?_)
 refine Wc.seq fun _ hK80=>?_
 refine Wc.block<|Wc.seq fun _ hK81=>rg<|lp _ (pu_move e26) ?_
 obtain ⟨x82,h83,hb⟩:=bd hb
 obtain ⟨ad84,cs85,hA,hc86,hr87⟩:=hC.elr (i:=1) rfl (get_some h83).2
 obtain rfl:=Option.some.inj hA
 refine lp (.pointer (some (ad32.add (y.toNat*8)))) (pu_index (a:=y) underlying68 sizeOf105 e24 e26 (get_some h83).1) ?_
 obtain ⟨k88,k89,rfl,hr90,hr91⟩:=hr87
 obtain ⟨k92,k93,rfl,hr94,hr95⟩:=hr90
 obtain ⟨rfl,hr94⟩:=hr94
 obtain ⟨k96,k97,rfl,hr98,hr99⟩:=hr95
 obtain ⟨rfl,hr98⟩:=hr98
 obtain ⟨rfl,hr99⟩:=hr99
 obtain ⟨k100,k101,rfl,hr102,hr103⟩:=hr91
 obtain ⟨k104,k105,rfl,hr106,hr107⟩:=hr102
 obtain ⟨rfl,hr106⟩:=hr106
 obtain ⟨k108,k109,rfl,hr110,hr111⟩:=hr107
 obtain ⟨rfl,hr110⟩:=hr110
 obtain ⟨rfl,hr111⟩:=hr111
 obtain ⟨k112,k113,rfl,hr114,hr115⟩:=hr103
 obtain ⟨rfl,hr114⟩:=hr114
 obtain ⟨rfl,hr115⟩:=hr115
 refine lv (.agg #[iv x82.1.1,iv x82.1.2.1,iv x82.1.2.2,iv x82.2.1.1,iv x82.2.1.2.1,iv x82.2.1.2.2,iv x82.2.2.1,iv x82.2.2.2]) (ld_agg isAgg105 sizeOf105 rfl rfl hc86)<|lex.op (hC.alloc (cs:=[iv 0,iv 0,iv 0,iv 0,iv 0,iv 0,iv 0,iv 0]) zeroValue105 rfl) ?_
 rintro _ w117 ⟨g116,rfl,hC,hF,-⟩
 replace hC:Cx (fun _=>False) O0 w w117 ([.box g116 105 [iv 0,iv 0,iv 0,iv 0,iv 0,iv 0,iv 0,iv 0],.box g3 68 [.slice (some ad32) c.length d],.ro (.sl (.pr (.pr si (.pr si si)) (.pr (.pr si (.pr si si)) (.pr si si)))) [.slice (some ad32) c.length d] c,.own 73 .raw (.slice A9 (((List.replicate (c.length:Int).toNat (Value.slice none 0 0))).length) c10) l,.box g64 105 [iv x30.1.1,iv x30.1.2.1,iv x30.1.2.2,iv x30.2.1.1,iv x30.2.1.2.1,iv x30.2.1.2.2,iv x30.2.2.1,iv x30.2.2.2]]++(rowsF 107 (.pr si .bool) l x++([]:List Fact))):=hC
 refine lp (iv y) (pu_assign rfl)<|lex.sk (hC.seta (i:=0) (ds:=[iv x82.1.1,iv x82.1.2.1,iv x82.1.2.2,iv x82.2.1.1,iv x82.2.1.2.1,iv x82.2.1.2.2,iv x82.2.2.1,iv x82.2.2.2]) rfl type105 rfl rfl rfl rfl rfl) ?_
 rintro w119 ⟨hC,hF⟩
 refine ln (hK81 _ _ ?_)
 refine Wc.seq fun _ hK120=>?_
 refine Wc.seq fun _ hK121=>rg ?_
 replace hC:Cx (fun _=>False) O0 w w119 ([.box g116 105 [iv x82.1.1,iv x82.1.2.1,iv x82.1.2.2,iv x82.2.1.1,iv x82.2.1.2.1,iv x82.2.1.2.2,iv x82.2.2.1,iv x82.2.2.2],.box g3 68 [.slice (some ad32) c.length d],.ro (.sl (.pr (.pr si (.pr si si)) (.pr (.pr si (.pr si si)) (.pr si si)))) [.slice (some ad32) c.length d] c,.own 73 .raw (.slice A9 (((List.replicate (c.length:Int).toNat (Value.slice none 0 0))).length) c10) l,.box g64 105 [iv x30.1.1,iv x30.1.2.1,iv x30.1.2.2,iv x30.2.1.1,iv x30.2.1.2.1,iv x30.2.1.2.2,iv x30.2.2.1,iv x30.2.2.2]]++(rowsF 107 (.pr si .bool) l x++([]:List Fact))):=hC
 refine lp (iv y) (pu_move rfl)<|lp _ (pu_move e5)<|lp (.bool (decide (y=p))) (pu_eql (k:=.i64) (a:=y) (b:=p) rfl rfl)<|ln (hK121 _ _ ?_)
 refine Wc.cond (t:=(decide (y=p))) (rfl) (fun hq122=>?_) (fun hq122=>?_)
 replace hb:=tt hq122 hb
 refine Wc.exit rfl ?_
 refine hK80 _ _<|rg ?_
 obtain ⟨z123,h124,hb⟩:=bd hb
 refine lp (iv z123) (pu_addc (a:=y) (b:=1) e26 rfl h124)<|lp (iv z123) (pu_move rfl)<|ln ?_
 obtain rfl:=os hb
 exact hK72 m73' _ _ (Nat.lt_succ_self _) ⟨z123,x,l,e1,e2,e3,e4,e5,e6,e17,e18,e19,e20,e24,e25,rfl,(chk_rng h124),C,hC.selT [1,2,3,4] (by decide),lN hl1⟩
 replace hb:=tf hq122 hb
 refine Wc.skip (hK120 _ _ ?_)
 refine Wc.seqJ (fun E wv=> ∃(K:Bool),E 1=pg g3∧E 2=.slice none 0 0∧E 3=.bool false∧E 4=.slice A9 (((List.replicate (c.length:Int).toNat (Value.slice none 0 0))).length) c10∧E 5=iv p∧E 6=pg g64∧E 7=iv y∧E 8=pg g116∧E 17=.slice (some ad32) c.length d∧E 18=iv (c.length:Int)∧E 19=iv p∧E 20=.bool (decide (p<(c.length:Int)))∧E 24=.slice (some ad32) c.length d∧E 25=iv (c.length:Int)∧E 26=iv y∧E 27=.bool (decide (y<(c.length:Int)))∧E 33=.bool (decide (y=p))∧E 49=.bool K∧Cx (fun _=>False) O0 w wv ([.box g3 68 [.slice (some ad32) c.length d],.ro (.sl (.pr (.pr si (.pr si si)) (.pr (.pr si (.pr si si)) (.pr si si)))) [.slice (some ad32) c.length d] c,.own 73 .raw (.slice A9 (((List.replicate (c.length:Int).toNat (Value.slice none 0 0))).length) c10) l,.box g64 105 [iv x30.1.1,iv x30.1.2.1,iv x30.1.2.2,iv x30.2.1.1,iv x30.2.1.2.1,iv x30.2.1.2.2,iv x30.2.2.1,iv x30.2.2.2],.box g116 105 [iv x82.1.1,iv x82.1.2.1,iv x82.1.2.2,iv x82.2.1.1,iv x82.2.1.2.1,iv x82.2.1.2.2,iv x82.2.2.1,iv x82.2.2.2]]++(rowsF 107 (.pr si .bool) l x++([]:List Fact)))∧F.polygon_cross_j2 n p x30 y x x82 K=some o76) (fun _ hK125=>?_) ?_
 refine Wc.seq fun _ hK126=>rg<|lp (.pointer (some ((⟨g64,0,none⟩:Addr).add 0))) (pu_field (sz:=3) underlying105 rfl sizeOf23 (by decide) rfl e6)<|lp (.pointer (some ((⟨g64,0,none⟩:Addr).add 0))) (pu_field (A:=((⟨g64,0,none⟩:Addr).add 0)) (off:=0) (sz:=1) underlying23 rfl sizeOf3 (by decide) rfl rfl)<|lv (iv x30.1.1) (ld_fld (hC.bx (i:=4) rfl) isAgg3 rfl rfl)<|lp (.pointer (some ((⟨g116,0,none⟩:Addr).add 0))) (pu_field (sz:=3) underlying105 rfl sizeOf23 (by decide) rfl rfl)<|lp (.pointer (some ((⟨g116,0,none⟩:Addr).add 0))) (pu_field (A:=((⟨g116,0,none⟩:Addr).add 0)) (off:=0) (sz:=1) underlying23 rfl sizeOf3 (by decide) rfl rfl)<|lv (iv x82.1.1) (ld_fld (hC.bx (i:=0) rfl) isAgg3 rfl rfl)<|lp (.bool (decide (x30.1.1=x82.1.1))) (pu_eql (k:=.i64) (a:=x30.1.1) (b:=x82.1.1) rfl rfl)<|lp (.bool (decide (x30.1.1=x82.1.1))) (pu_move rfl) ?_
 rcases bS (decide (x30.1.1=x82.1.1)) with hq127 | hq127
 replace hb:=tt hq127 hb
 refine gp rfl rfl (decide (x30.1.1=x82.1.1)) rfl hq127 (.pointer (some ((⟨g64,0,none⟩:Addr).add 0))) (pu_field (sz:=3) underlying105 rfl sizeOf23 (by decide) rfl e6)<|gp rfl rfl (decide (x30.1.1=x82.1.1)) rfl hq127 (.pointer (some ((⟨g64,0,none⟩:Addr).add 1))) (pu_field (A:=((⟨g64,0,none⟩:Addr).add 0)) (off:=1) (sz:=1) underlying23 rfl sizeOf3 (by decide) rfl rfl)<|gv rfl rfl (decide (x30.1.1=x82.1.1)) rfl hq127 (iv x30.1.2.1) (ld_fld (hC.bx (i:=4) rfl) isAgg3 rfl rfl)<|gp rfl rfl (decide (x30.1.1=x82.1.1)) rfl hq127 (.pointer (some ((⟨g116,0,none⟩:Addr).add 0))) (pu_field (sz:=3) underlying105 rfl sizeOf23 (by decide) rfl rfl)<|gp rfl rfl (decide (x30.1.1=x82.1.1)) rfl hq127 (.pointer (some ((⟨g116,0,none⟩:Addr).add 1))) (pu_field (A:=((⟨g116,0,none⟩:Addr).add 0)) (off:=1) (sz:=1) underlying23 rfl sizeOf3 (by decide) rfl rfl)<|gv rfl rfl (decide (x30.1.1=x82.1.1)) rfl hq127 (iv x82.1.2.1) (ld_fld (hC.bx (i:=0) rfl) isAgg3 rfl rfl)<|gp rfl rfl (decide (x30.1.1=x82.1.1)) rfl hq127 (.bool (decide (x30.1.2.1=x82.1.2.1))) (pu_eql (k:=.i64) (a:=x30.1.2.1) (b:=x82.1.2.1) rfl rfl)<|lp (.bool (decide (x30.1.2.1=x82.1.2.1))) (pu_pickT (q:=(decide (x30.1.1=x82.1.1))) rfl hq127 rfl)<|ln (hK126 _ _ ?_)
 refine Wc.fresh fun E128 hE=>?_
 have e1:=cg hE 1 e1
 have e2:=cg hE 2 e2
 have e3:=cg hE 3 e3
 have e4:=cg hE 4 e4
 have e5:=cg hE 5 e5
 have e6:=cg hE 6 e6
 have e7:E128 7=iv y:=cg hE 7 rfl
 have e8:E128 8=pg g116:=cg hE 8 rfl
 have e17:=cg hE 17 e17
 have e18:=cg hE 18 e18
 have e19:=cg hE 19 e19
 have e20:=cg hE 20 e20
 have e24:=cg hE 24 e24
 have e25:=cg hE 25 e25
 have e26:=cg hE 26 e26
 have e27:E128 27=.bool (decide (y<(c.length:Int))):=cg hE 27 rfl
 have e33:E128 33=.bool (decide (y=p)):=cg hE 33 rfl
 have e49:E128 49=.bool (decide (x30.1.2.1=x82.1.2.1)):=cg hE 49 rfl
 clear hE
 refine Wc.cond (t:=(decide (x30.1.2.1=x82.1.2.1))) (e49) (fun hq129=>?_) (fun hq129=>?_)
 replace hb:=tt hq129 hb
 refine Wc.seq fun _ hK130=>rg<|lp (.slice none 0 0) (pu_assign rfl)<|lp (.bool false) (pu_assign rfl)<|ln (hK130 _ _ ?_)
 obtain rfl:=os hb
 obtain rfl:=(lX hl1).symm
 replace hb:=hbK1
 obtain rfl:=os hb
 obtain rfl:=(lX hl0).symm
 replace hb:=hbK0
 replace hC:=hC.ro (show Rep _ _ (.sl (.sl (.pr si .bool))) [.slice none 0 0] [] from ⟨none,0,rfl,Nat.le_refl _,by omega,fun h=>absurd h (by simp)⟩)
 replace hC:Cx (fun _=>False) O0 w w119 ([.ro (.sl (.sl (.pr si .bool))) [.slice none 0 0] ([]:List (List (Int×Bool))),.box g116 105 [iv x82.1.1,iv x82.1.2.1,iv x82.1.2.2,iv x82.2.1.1,iv x82.2.1.2.1,iv x82.2.1.2.2,iv x82.2.2.1,iv x82.2.2.2],.box g3 68 [.slice (some ad32) c.length d],.ro (.sl (.pr (.pr si (.pr si si)) (.pr (.pr si (.pr si si)) (.pr si si)))) [.slice (some ad32) c.length d] c,.own 73 .raw (.slice A9 (((List.replicate (c.length:Int).toNat (Value.slice none 0 0))).length) c10) l,.box g64 105 [iv x30.1.1,iv x30.1.2.1,iv x30.1.2.2,iv x30.2.1.1,iv x30.2.1.2.1,iv x30.2.1.2.2,iv x30.2.2.1,iv x30.2.2.2]]++(rowsF 107 (.pr si .bool) l x++([]:List Fact))):=hC
 obtain rfl:=os hb
 refine Wc.ret (hKR _ _ ?_)
 refine ⟨_,res2 results53 (tV (.slice none 0 0) rfl) (tV (.bool false) rfl),_,rfl,none,0,0,rfl,hC.sE [0]⟩
 replace hb:=tf hq129 hb
 refine Wc.skip ?_
 exact hK125 _ _ ⟨(decide (x30.1.2.1=x82.1.2.1)),e1,e2,e3,e4,e5,e6,e7,e8,e17,e18,e19,e20,e24,e25,e26,e27,e33,e49,hC.selT [1,2,3,4,0] (by decide),hb⟩
 replace hb:=tf hq127 hb
 refine gs rfl rfl (decide (x30.1.1=x82.1.1)) rfl hq127<|gs rfl rfl (decide (x30.1.1=x82.1.1)) rfl hq127<|gs rfl rfl (decide (x30.1.1=x82.1.1)) rfl hq127<|gs rfl rfl (decide (x30.1.1=x82.1.1)) rfl hq127<|gs rfl rfl (decide (x30.1.1=x82.1.1)) rfl hq127<|gs rfl rfl (decide (x30.1.1=x82.1.1)) rfl hq127<|gs rfl rfl (decide (x30.1.1=x82.1.1)) rfl hq127<|lp (.bool false) (pu_pickF (q:=(decide (x30.1.1=x82.1.1))) rfl hq127 rfl)<|ln (hK126 _ _ ?_)
 refine Wc.fresh fun E132 hE=>?_
 have e1:=cg hE 1 e1
 have e2:=cg hE 2 e2
 have e3:=cg hE 3 e3
 have e4:=cg hE 4 e4
 have e5:=cg hE 5 e5
 have e6:=cg hE 6 e6
 have e7:E132 7=iv y:=cg hE 7 rfl
 have e8:E132 8=pg g116:=cg hE 8 rfl
 have e17:=cg hE 17 e17
 have e18:=cg hE 18 e18
 have e19:=cg hE 19 e19
 have e20:=cg hE 20 e20
 have e24:=cg hE 24 e24
 have e25:=cg hE 25 e25
 have e26:=cg hE 26 e26
 have e27:E132 27=.bool (decide (y<(c.length:Int))):=cg hE 27 rfl
 have e33:E132 33=.bool (decide (y=p)):=cg hE 33 rfl
 have e49:E132 49=.bool false:=cg hE 49 rfl
 clear hE
 refine Wc.cond_false (e49) ?_
 refine Wc.skip ?_
 exact hK125 _ _ ⟨false,e1,e2,e3,e4,e5,e6,e7,e8,e17,e18,e19,e20,e24,e25,e26,e27,e33,e49,hC.selT [1,2,3,4,0] (by decide),hb⟩
 clear hb hC
 rintro E134 w133 ⟨K,e1,e2,e3,e4,e5,e6,e7,e8,e17,e18,e19,e20,e24,e25,e26,e27,e33,e49,hC,hb⟩
 unfold F.polygon_cross_j2 at hb
 refine Wc.seqJ (fun E wv=> ∃(Q:Bool),E 1=pg g3∧E 2=.slice none 0 0∧E 3=.bool false∧E 4=.slice A9 (((List.replicate (c.length:Int).toNat (Value.slice none 0 0))).length) c10∧E 5=iv p∧E 6=pg g64∧E 7=iv y∧E 8=pg g116∧E 17=.slice (some ad32) c.length d∧E 18=iv (c.length:Int)∧E 19=iv p∧E 20=.bool (decide (p<(c.length:Int)))∧E 24=.slice (some ad32) c.length d∧E 25=iv (c.length:Int)∧E 26=iv y∧E 27=.bool (decide (y<(c.length:Int)))∧E 33=.bool (decide (y=p))∧E 49=.bool K∧E 63=.bool Q∧Cx (fun _=>False) O0 w wv ([.box g3 68 [.slice (some ad32) c.length d],.ro (.sl (.pr (.pr si (.pr si si)) (.pr (.pr si (.pr si si)) (.pr si si)))) [.slice (some ad32) c.length d] c,.own 73 .raw (.slice A9 (((List.replicate (c.length:Int).toNat (Value.slice none 0 0))).length) c10) l,.box g64 105 [iv x30.1.1,iv x30.1.2.1,iv x30.1.2.2,iv x30.2.1.1,iv x30.2.1.2.1,iv x30.2.1.2.2,iv x30.2.2.1,iv x30.2.2.2],.box g116 105 [iv x82.1.1,iv x82.1.2.1,iv x82.1.2.2,iv x82.2.1.1,iv x82.2.1.2.1,iv x82.2.1.2.2,iv x82.2.2.1,iv x82.2.2.2]]++(rowsF 107 (.pr si .bool) l x++([]:List Fact)))∧F.polygon_cross_j3 n p x30 y x x82 Q=some o76) (fun _ hK135=>?_) ?_
 refine Wc.seq fun _ hK136=>rg ?_
 replace hC:Cx (fun _=>False) O0 w w133 ([.box g3 68 [.slice (some ad32) c.length d],.ro (.sl (.pr (.pr si (.pr si si)) (.pr (.pr si (.pr si si)) (.pr si si)))) [.slice (some ad32) c.length d] c,.own 73 .raw (.slice A9 (((List.replicate (c.length:Int).toNat (Value.slice none 0 0))).length) c10) l,.box g64 105 [iv x30.1.1,iv x30.1.2.1,iv x30.1.2.2,iv x30.2.1.1,iv x30.2.1.2.1,iv x30.2.1.2.2,iv x30.2.2.1,iv x30.2.2.2],.box g116 105 [iv x82.1.1,iv x82.1.2.1,iv x82.1.2.2,iv x82.2.1.1,iv x82.2.1.2.1,iv x82.2.1.2.2,iv x82.2.2.1,iv x82.2.2.2]]++(rowsF 107 (.pr si .bool) l x++([]:List Fact))):=hC
 refine lp (.pointer (some ((⟨g116,0,none⟩:Addr).add 6))) (pu_field (sz:=1) underlying105 rfl sizeOf3 (by decide) rfl e8)<|lv (iv x82.2.2.1) (ld_fld (hC.bx (i:=4) rfl) isAgg3 rfl rfl)<|lp (.pointer (some ((⟨g64,0,none⟩:Addr).add 7))) (pu_field (sz:=1) underlying105 rfl sizeOf3 (by decide) rfl e6)<|lv (iv x30.2.2.2) (ld_fld (hC.bx (i:=3) rfl) isAgg3 rfl rfl)<|lp (.bool (!(decide (x82.2.2.1=x30.2.2.2)))) (pu_neq (k:=.i64) (a:=x82.2.2.1) (b:=x30.2.2.2) rfl rfl)<|lp (.bool (!(decide (x82.2.2.1=x30.2.2.2)))) (pu_move rfl) ?_
 rcases bS (!(decide (x82.2.2.1=x30.2.2.2))) with hq137 | hq137
 replace hb:=tt hq137 hb
 refine gp rfl rfl (!(decide (x82.2.2.1=x30.2.2.2))) rfl hq137 (.pointer (some ((⟨g64,0,none⟩:Addr).add 0))) (pu_field (sz:=3) underlying105 rfl sizeOf23 (by decide) rfl e6)<|gv rfl rfl (!(decide (x82.2.2.1=x30.2.2.2))) rfl hq137 (.agg #[iv x30.1.1,iv x30.1.2.1,iv x30.1.2.2]) (ld_part (o:=0) (hC.bx (i:=3) rfl) isAgg23 sizeOf23 rfl rfl rfl)<|gp rfl rfl (!(decide (x82.2.2.1=x30.2.2.2))) rfl hq137 (.pointer (some ((⟨g64,0,none⟩:Addr).add 3))) (pu_field (sz:=3) underlying105 rfl sizeOf23 (by decide) rfl e6)<|gv rfl rfl (!(decide (x82.2.2.1=x30.2.2.2))) rfl hq137 (.agg #[iv x30.2.1.1,iv x30.2.1.2.1,iv x30.2.1.2.2]) (ld_part (o:=3) (hC.bx (i:=3) rfl) isAgg23 sizeOf23 rfl rfl rfl)<|gp rfl rfl (!(decide (x82.2.2.1=x30.2.2.2))) rfl hq137 (.pointer (some ((⟨g116,0,none⟩:Addr).add 0))) (pu_field (sz:=3) underlying105 rfl sizeOf23 (by decide) rfl e8)<|gv rfl rfl (!(decide (x82.2.2.1=x30.2.2.2))) rfl hq137 (.agg #[iv x82.1.1,iv x82.1.2.1,iv x82.1.2.2]) (ld_part (o:=0) (hC.bx (i:=4) rfl) isAgg23 sizeOf23 rfl rfl rfl) ?_
 obtain ⟨y138,h139,hb⟩:=bd hb
 refine lex.gcl (want_t rfl rfl (show _=Value.bool (!(decide (x82.2.2.1=x30.2.2.2))) from rfl) hq137) (⟨_,_,op_call (vs:=[.agg #[iv x30.1.1,iv x30.1.2.1,iv x30.1.2.2],.agg #[iv x30.2.1.1,iv x30.2.1.2.1,iv x30.2.1.2.2],.agg #[iv x82.1.1,iv x82.1.2.1,iv x82.1.2.2]]) call46 rfl rfl rfl,polygon_on_ok n hC.lt (wrap_I64 hr42) (wrap_I64 hr46) (wrap_I64 hr47) (wrap_I64 hr54) (wrap_I64 hr58) (wrap_I64 hr59) (wrap_I64 hr94) (wrap_I64 hr98) (wrap_I64 hr99) h139⟩) ?_
 rintro _ w140 ⟨rfl,hK⟩
 replace hC:=hC.merge hK
 clear hK
 replace hC:Cx (fun _=>False) O0 w w140 ([.box g3 68 [.slice (some ad32) c.length d],.ro (.sl (.pr (.pr si (.pr si si)) (.pr (.pr si (.pr si si)) (.pr si si)))) [.slice (some ad32) c.length d] c,.own 73 .raw (.slice A9 (((List.replicate (c.length:Int).toNat (Value.slice none 0 0))).length) c10) l,.box g64 105 [iv x30.1.1,iv x30.1.2.1,iv x30.1.2.2,iv x30.2.1.1,iv x30.2.1.2.1,iv x30.2.1.2.2,iv x30.2.2.1,iv x30.2.2.2],.box g116 105 [iv x82.1.1,iv x82.1.2.1,iv x82.1.2.2,iv x82.2.1.1,iv x82.2.1.2.1,iv x82.2.1.2.2,iv x82.2.2.1,iv x82.2.2.2]]++(rowsF 107 (.pr si .bool) l x++([]:List Fact))):=hC
 refine lp (.bool y138) (pu_pickT (q:=(!(decide (x82.2.2.1=x30.2.2.2)))) rfl hq137 rfl)<|ln (hK136 _ _ ?_)
 refine Wc.fresh fun E141 hE=>?_
 have e1:=cg hE 1 e1
 have e2:=cg hE 2 e2
 have e3:=cg hE 3 e3
 have e4:=cg hE 4 e4
 have e5:=cg hE 5 e5
 have e6:=cg hE 6 e6
 have e7:=cg hE 7 e7
 have e8:=cg hE 8 e8
 have e17:=cg hE 17 e17
 have e18:=cg hE 18 e18
 have e19:=cg hE 19 e19
 have e20:=cg hE 20 e20
 have e24:=cg hE 24 e24
 have e25:=cg hE 25 e25
 have e26:=cg hE 26 e26
 have e27:=cg hE 27 e27
 have e33:=cg hE 33 e33
 have e49:=cg hE 49 e49
 have e63:E141 63=.bool y138:=cg hE 63 rfl
 clear hE
 refine Wc.cond (t:=y138) (e63) (fun hq142=>?_) (fun hq142=>?_)
 replace hb:=tt hq142 hb
 refine Wc.seq fun _ hK143=>rg<|lp (.slice none 0 0) (pu_assign rfl)<|lp (.bool false) (pu_assign rfl)<|ln (hK143 _ _ ?_)
 obtain rfl:=os hb
 obtain rfl:=(lX hl1).symm
 replace hb:=hbK1
 obtain rfl:=os hb
 obtain rfl:=(lX hl0).symm
 replace hb:=hbK0
 replace hC:=hC.ro (show Rep _ _ (.sl (.sl (.pr si .bool))) [.slice none 0 0] [] from ⟨none,0,rfl,Nat.le_refl _,by omega,fun h=>absurd h (by simp)⟩)
 replace hC:Cx (fun _=>False) O0 w w140 ([.ro (.sl (.sl (.pr si .bool))) [.slice none 0 0] ([]:List (List (Int×Bool))),.box g3 68 [.slice (some ad32) c.length d],.ro (.sl (.pr (.pr si (.pr si si)) (.pr (.pr si (.pr si si)) (.pr si si)))) [.slice (some ad32) c.length d] c,.own 73 .raw (.slice A9 (((List.replicate (c.length:Int).toNat (Value.slice none 0 0))).length) c10) l,.box g64 105 [iv x30.1.1,iv x30.1.2.1,iv x30.1.2.2,iv x30.2.1.1,iv x30.2.1.2.1,iv x30.2.1.2.2,iv x30.2.2.1,iv x30.2.2.2],.box g116 105 [iv x82.1.1,iv x82.1.2.1,iv x82.1.2.2,iv x82.2.1.1,iv x82.2.1.2.1,iv x82.2.1.2.2,iv x82.2.2.1,iv x82.2.2.2]]++(rowsF 107 (.pr si .bool) l x++([]:List Fact))):=hC
 obtain rfl:=os hb
 refine Wc.ret (hKR _ _ ?_)
 refine ⟨_,res2 results53 (tV (.slice none 0 0) rfl) (tV (.bool false) rfl),_,rfl,none,0,0,rfl,hC.sE [0]⟩
 replace hb:=tf hq142 hb
 refine Wc.skip ?_
 exact hK135 _ _ ⟨y138,e1,e2,e3,e4,e5,e6,e7,e8,e17,e18,e19,e20,e24,e25,e26,e27,e33,e49,e63,hC.selT [0,1,2,3,4] (by decide),hb⟩
 replace hb:=tf hq137 hb
 refine gs rfl rfl (!(decide (x82.2.2.1=x30.2.2.2))) rfl hq137<|gs rfl rfl (!(decide (x82.2.2.1=x30.2.2.2))) rfl hq137<|gs rfl rfl (!(decide (x82.2.2.1=x30.2.2.2))) rfl hq137<|gs rfl rfl (!(decide (x82.2.2.1=x30.2.2.2))) rfl hq137<|gs rfl rfl (!(decide (x82.2.2.1=x30.2.2.2))) rfl hq137<|gs rfl rfl (!(decide (x82.2.2.1=x30.2.2.2))) rfl hq137<|gs rfl rfl (!(decide (x82.2.2.1=x30.2.2.2))) rfl hq137<|lp (.bool false) (pu_pickF (q:=(!(decide (x82.2.2.1=x30.2.2.2)))) rfl hq137 rfl)<|ln (hK136 _ _ ?_)
 refine Wc.cond_false (rfl) ?_
 refine Wc.skip ?_
 exact hK135 _ _ ⟨false,e1,e2,e3,e4,e5,e6,e7,e8,e17,e18,e19,e20,e24,e25,e26,e27,e33,e49,rfl,hC.selT [0,1,2,3,4] (by decide),hb⟩
 clear hb hC
 rintro E146 w145 ⟨Q,e1,e2,e3,e4,e5,e6,e7,e8,e17,e18,e19,e20,e24,e25,e26,e27,e33,e49,e63,hC,hb⟩
 unfold F.polygon_cross_j3 at hb
 refine Wc.seq fun _ hK147=>?_
 refine Wc.seq fun _ hK148=>rg ?_
 replace hC:Cx (fun _=>False) O0 w w145 ([.box g3 68 [.slice (some ad32) c.length d],.ro (.sl (.pr (.pr si (.pr si si)) (.pr (.pr si (.pr si si)) (.pr si si)))) [.slice (some ad32) c.length d] c,.own 73 .raw (.slice A9 (((List.replicate (c.length:Int).toNat (Value.slice none 0 0))).length) c10) l,.box g64 105 [iv x30.1.1,iv x30.1.2.1,iv x30.1.2.2,iv x30.2.1.1,iv x30.2.1.2.1,iv x30.2.1.2.2,iv x30.2.2.1,iv x30.2.2.2],.box g116 105 [iv x82.1.1,iv x82.1.2.1,iv x82.1.2.2,iv x82.2.1.1,iv x82.2.1.2.1,iv x82.2.1.2.2,iv x82.2.2.1,iv x82.2.2.2]]++(rowsF 107 (.pr si .bool) l x++([]:List Fact))):=hC
 refine lp (.pointer (some ((⟨g116,0,none⟩:Addr).add 6))) (pu_field (sz:=1) underlying105 rfl sizeOf3 (by decide) rfl e8)<|lv (iv x82.2.2.1) (ld_fld (hC.bx (i:=4) rfl) isAgg3 rfl rfl)<|lp (.pointer (some ((⟨g64,0,none⟩:Addr).add 7))) (pu_field (sz:=1) underlying105 rfl sizeOf3 (by decide) rfl e6)<|lv (iv x30.2.2.2) (ld_fld (hC.bx (i:=3) rfl) isAgg3 rfl rfl)<|lp (.bool (decide (x82.2.2.1=x30.2.2.2))) (pu_eql (k:=.i64) (a:=x82.2.2.1) (b:=x30.2.2.2) rfl rfl)<|lp (.bool (decide (x82.2.2.1=x30.2.2.2))) (pu_move rfl) ?_
 rcases bS (decide (x82.2.2.1=x30.2.2.2)) with hq149 | hq149
 replace hb:=tt hq149 hb
 refine gs rfl rfl (decide (x82.2.2.1=x30.2.2.2)) rfl hq149<|gs rfl rfl (decide (x82.2.2.1=x30.2.2.2)) rfl hq149<|gs rfl rfl (decide (x82.2.2.1=x30.2.2.2)) rfl hq149<|gs rfl rfl (decide (x82.2.2.1=x30.2.2.2)) rfl hq149<|gs rfl rfl (decide (x82.2.2.1=x30.2.2.2)) rfl hq149<|lp (.bool true) (pu_pickT (q:=(decide (x82.2.2.1=x30.2.2.2))) rfl hq149 rfl)<|ln (hK148 _ _ ?_)
 refine Wc.cond_true (rfl) ?_
 refine Wc.exit rfl ?_
 refine hK80 _ _<|rg ?_
 obtain ⟨z150,h151,hb⟩:=bd hb
 refine lp (iv z150) (pu_addc (a:=y) (b:=1) e26 rfl h151)<|lp (iv z150) (pu_move rfl)<|ln ?_
 obtain rfl:=os hb
 exact hK72 m73' _ _ (Nat.lt_succ_self _) ⟨z150,x,l,e1,e2,e3,e4,e5,e6,e17,e18,e19,e20,e24,e25,rfl,(chk_rng h151),C,hC.selT [0,1,2,3] (by decide),lN hl1⟩
 replace hb:=tf hq149 hb
 refine gp rfl rfl (decide (x82.2.2.1=x30.2.2.2)) rfl hq149 (.pointer (some ((⟨g116,0,none⟩:Addr).add 7))) (pu_field (sz:=1) underlying105 rfl sizeOf3 (by decide) rfl e8)<|gv rfl rfl (decide (x82.2.2.1=x30.2.2.2)) rfl hq149 (iv x82.2.2.2) (ld_fld (hC.bx (i:=4) rfl) isAgg3 rfl rfl)<|gp rfl rfl (decide (x82.2.2.1=x30.2.2.2)) rfl hq149 (.pointer (some ((⟨g64,0,none⟩:Addr).add 6))) (pu_field (sz:=1) underlying105 rfl sizeOf3 (by decide) rfl e6)<|gv rfl rfl (decide (x82.2.2.1=x30.2.2.2)) rfl hq149 (iv x30.2.2.1) (ld_fld (hC.bx (i:=3) rfl) isAgg3 rfl rfl)<|gp rfl rfl (decide (x82.2.2.1=x30.2.2.2)) rfl hq149 (.bool (decide (x82.2.2.2=x30.2.2.1))) (pu_eql (k:=.i64) (a:=x82.2.2.2) (b:=x30.2.2.1) rfl rfl)<|lp (.bool (decide (x82.2.2.2=x30.2.2.1))) (pu_pickF (q:=(decide (x82.2.2.1=x30.2.2.2))) rfl hq149 rfl)<|ln (hK148 _ _ ?_)
 refine Wc.cond (t:=(decide (x82.2.2.2=x30.2.2.1))) (rfl) (fun hq152=>?_) (fun hq152=>?_)
 replace hb:=tt hq152 hb
 refine Wc.exit rfl ?_
 refine hK80 _ _<|rg ?_
 obtain ⟨z153,h154,hb⟩:=bd hb
 refine lp (iv z153) (pu_addc (a:=y) (b:=1) e26 rfl h154)<|lp (iv z153) (pu_move rfl)<|ln ?_
 obtain rfl:=os hb
 exact hK72 m73' _ _ (Nat.lt_succ_self _) ⟨z153,x,l,e1,e2,e3,e4,e5,e6,e17,e18,e19,e20,e24,e25,rfl,(chk_rng h154),C,hC.selT [0,1,2,3] (by decide),lN hl1⟩
 replace hb:=tf hq152 hb
 refine Wc.skip (hK147 _ _ ?_)
 refine Wc.fresh fun E155 hE=>?_
 have e1:=cg hE 1 e1
 have e2:=cg hE 2 e2
 have e3:=cg hE 3 e3
 have e4:=cg hE 4 e4
 have e5:=cg hE 5 e5
 have e6:=cg hE 6 e6
 have e7:=cg hE 7 e7
 have e8:=cg hE 8 e8
 have e17:=cg hE 17 e17
 have e18:=cg hE 18 e18
 have e19:=cg hE 19 e19
 have e20:=cg hE 20 e20
 have e24:=cg hE 24 e24
 have e25:=cg hE 25 e25
 have e26:=cg hE 26 e26
 have e27:=cg hE 27 e27
 have e33:=cg hE 33 e33
 have e49:=cg hE 49 e49
 have e63:=cg hE 63 e63
 have e75:E155 75=.bool (decide (x82.2.2.2=x30.2.2.1)):=cg hE 75 rfl
 clear hE
 refine Wc.seq fun _ hK156=>rg<|lp (.pointer (some ((⟨g64,0,none⟩:Addr).add 0))) (pu_field (sz:=3) underlying105 rfl sizeOf23 (by decide) rfl e6)<|lv (.agg #[iv x30.1.1,iv x30.1.2.1,iv x30.1.2.2]) (ld_part (o:=0) (hC.bx (i:=3) rfl) isAgg23 sizeOf23 rfl rfl rfl)<|lp (.pointer (some ((⟨g64,0,none⟩:Addr).add 3))) (pu_field (sz:=3) underlying105 rfl sizeOf23 (by decide) rfl e6)<|lv (.agg #[iv x30.2.1.1,iv x30.2.1.2.1,iv x30.2.1.2.2]) (ld_part (o:=3) (hC.bx (i:=3) rfl) isAgg23 sizeOf23 rfl rfl rfl)<|lp (.pointer (some ((⟨g116,0,none⟩:Addr).add 0))) (pu_field (sz:=3) underlying105 rfl sizeOf23 (by decide) rfl e8)<|lv (.agg #[iv x82.1.1,iv x82.1.2.1,iv x82.1.2.2]) (ld_part (o:=0) (hC.bx (i:=4) rfl) isAgg23 sizeOf23 rfl rfl rfl)<|lp (.pointer (some ((⟨g116,0,none⟩:Addr).add 3))) (pu_field (sz:=3) underlying105 rfl sizeOf23 (by decide) rfl e8)<|lv (.agg #[iv x82.2.1.1,iv x82.2.1.2.1,iv x82.2.1.2.2]) (ld_part (o:=3) (hC.bx (i:=4) rfl) isAgg23 sizeOf23 rfl rfl rfl) ?_
 obtain ⟨y157,h158,hb⟩:=bd hb
 refine lex.cl (⟨_,_,op_call (vs:=[.agg #[iv x30.1.1,iv x30.1.2.1,iv x30.1.2.2],.agg #[iv x30.2.1.1,iv x30.2.1.2.1,iv x30.2.1.2.2],.agg #[iv x82.1.1,iv x82.1.2.1,iv x82.1.2.2],.agg #[iv x82.2.1.1,iv x82.2.1.2.1,iv x82.2.1.2.2]]) call12 rfl rfl rfl,polygon_Cross_ok n hC.lt (wrap_I64 hr42) (wrap_I64 hr46) (wrap_I64 hr47) (wrap_I64 hr54) (wrap_I64 hr58) (wrap_I64 hr59) (wrap_I64 hr94) (wrap_I64 hr98) (wrap_I64 hr99) (wrap_I64 hr106) (wrap_I64 hr110) (wrap_I64 hr111) h158⟩) ?_
 rintro _ w160 ⟨rfl,hr159,hK⟩
 replace hC:=hC.merge hK
 clear hK
 replace hC:Cx (fun _=>False) O0 w w160 ([.box g3 68 [.slice (some ad32) c.length d],.ro (.sl (.pr (.pr si (.pr si si)) (.pr (.pr si (.pr si si)) (.pr si si)))) [.slice (some ad32) c.length d] c,.own 73 .raw (.slice A9 (((List.replicate (c.length:Int).toNat (Value.slice none 0 0))).length) c10) l,.box g64 105 [iv x30.1.1,iv x30.1.2.1,iv x30.1.2.2,iv x30.2.1.1,iv x30.2.1.2.1,iv x30.2.1.2.2,iv x30.2.2.1,iv x30.2.2.2],.box g116 105 [iv x82.1.1,iv x82.1.2.1,iv x82.1.2.2,iv x82.2.1.1,iv x82.2.1.2.1,iv x82.2.1.2.2,iv x82.2.2.1,iv x82.2.2.2]]++(rowsF 107 (.pr si .bool) l x++([]:List Fact))):=hC
 refine lp (.tuple #[iv y157.1,.bool y157.2]) (pu_move rfl)<|lp (iv y157.1) (pu_extract rfl rfl)<|lp (.bool y157.2) (pu_extract rfl rfl)<|lp (iv y157.1) (pu_assign rfl)<|lp (.bool y157.2) (pu_assign rfl)<|ln (hK156 _ _ ?_)
 refine Wc.fresh fun E161 hE=>?_
 have e1:=cg hE 1 e1
 have e2:=cg hE 2 e2
 have e3:=cg hE 3 e3
 have e4:=cg hE 4 e4
 have e5:=cg hE 5 e5
 have e6:=cg hE 6 e6
 have e7:=cg hE 7 e7
 have e8:=cg hE 8 e8
 have e9:E161 9=iv y157.1:=cg hE 9 rfl
 have e10:E161 10=.bool y157.2:=cg hE 10 rfl
 have e17:=cg hE 17 e17
 have e18:=cg hE 18 e18
 have e19:=cg hE 19 e19
 have e20:=cg hE 20 e20
 have e24:=cg hE 24 e24
 have e25:=cg hE 25 e25
 have e26:=cg hE 26 e26
 have e27:=cg hE 27 e27
 have e33:=cg hE 33 e33
 have e49:=cg hE 49 e49
 have e63:=cg hE 63 e63
 have e75:=cg hE 75 e75
 clear hE
 refine Wc.seq fun _ hK162=>rg<|lp _ (pu_move e9)<|ln (hK162 _ _ ?_)
 refine Wc.block<|Wc.seq fun _ hK163=>rg<|lp (.bool (decide (y157.1=2))) (pu_eql (k:=.i64) (a:=y157.1) (b:=2) rfl rfl)<|lp (.bool (decide (y157.1=2))) (pu_assign rfl)<|ln (hK163 _ _ ?_)
 refine Wc.cond (t:=(decide (y157.1=2))) (rfl) (fun hq164=>?_) (fun hq164=>?_)
 replace hb:=tt hq164 hb
 refine Wc.seq fun _ hK165=>rg<|lp (.slice none 0 0) (pu_assign rfl)<|lp (.bool false) (pu_assign rfl)<|ln (hK165 _ _ ?_)
 obtain rfl:=os hb
 obtain rfl:=(lX hl1).symm
 replace hb:=hbK1
 obtain rfl:=os hb
 obtain rfl:=(lX hl0).symm
 replace hb:=hbK0
 replace hC:=hC.ro (show Rep _ _ (.sl (.sl (.pr si .bool))) [.slice none 0 0] [] from ⟨none,0,rfl,Nat.le_refl _,by omega,fun h=>absurd h (by simp)⟩)
 replace hC:Cx (fun _=>False) O0 w w160 ([.ro (.sl (.sl (.pr si .bool))) [.slice none 0 0] ([]:List (List (Int×Bool))),.box g3 68 [.slice (some ad32) c.length d],.ro (.sl (.pr (.pr si (.pr si si)) (.pr (.pr si (.pr si si)) (.pr si si)))) [.slice (some ad32) c.length d] c,.own 73 .raw (.slice A9 (((List.replicate (c.length:Int).toNat (Value.slice none 0 0))).length) c10) l,.box g64 105 [iv x30.1.1,iv x30.1.2.1,iv x30.1.2.2,iv x30.2.1.1,iv x30.2.1.2.1,iv x30.2.1.2.2,iv x30.2.2.1,iv x30.2.2.2],.box g116 105 [iv x82.1.1,iv x82.1.2.1,iv x82.1.2.2,iv x82.2.1.1,iv x82.2.1.2.1,iv x82.2.1.2.2,iv x82.2.2.1,iv x82.2.2.2]]++(rowsF 107 (.pr si .bool) l x++([]:List Fact))):=hC
 obtain rfl:=os hb
 refine Wc.ret (hKR _ _ ?_)
 refine ⟨_,res2 results53 (tV (.slice none 0 0) rfl) (tV (.bool false) rfl),_,rfl,none,0,0,rfl,hC.sE [0]⟩
 replace hb:=tf hq164 hb
 refine Wc.seq fun _ hK167=>rg<|lp (.bool (decide (y157.1=1))) (pu_eql (k:=.i64) (a:=y157.1) (b:=1) rfl rfl)<|lp (.bool (decide (y157.1=1))) (pu_assign rfl)<|ln (hK167 _ _ ?_)
 refine Wc.cond (t:=(decide (y157.1=1))) (rfl) (fun hq168=>?_) (fun hq168=>?_)
 replace hb:=tt hq168 hb
 refine rg<|lp _ (pu_move e4)<|lp _ (pu_move e5)<|lp _ (pu_move e4)<|lp _ (pu_move e5) ?_
 obtain ⟨x169,h170,hb⟩:=bd hb
 obtain ⟨v175,hv176,-⟩:=rowsF_get (e:=107) (s:=(.pr si .bool)) C (get_some h170).2
 obtain ⟨ad171,cs172,hA,hc173,hr174⟩:=hC.elo (i:=2) rfl hv176
 subst hA
 refine lp (.pointer (some (ad171.add (p.toNat*1)))) (pu_index (a:=p) underlying70 sizeOf73 rfl rfl (by rw [(hC.ow (i:=2) rfl).sl_len.1,C]; exact (get_some h170).1)) ?_
 replace hC:Cx (fun _=>False) O0 w w160 ([.box g3 68 [.slice (some ad32) c.length d],.ro (.sl (.pr (.pr si (.pr si si)) (.pr (.pr si (.pr si si)) (.pr si si)))) [.slice (some ad32) c.length d] c,.own 73 .raw (.slice (some ad171) (((List.replicate (c.length:Int).toNat (Value.slice none 0 0))).length) c10) l,.box g64 105 [iv x30.1.1,iv x30.1.2.1,iv x30.1.2.2,iv x30.2.1.1,iv x30.2.1.2.1,iv x30.2.1.2.2,iv x30.2.2.1,iv x30.2.2.2],.box g116 105 [iv x82.1.1,iv x82.1.2.1,iv x82.1.2.2,iv x82.2.1.1,iv x82.2.1.2.1,iv x82.2.1.2.2,iv x82.2.2.1,iv x82.2.2.2]]++(rowsF 107 (.pr si .bool) l x++([]:List Fact))):=hC
 replace hC:=Cx.takeRow hC hv176 (get_some h170).2
 obtain ⟨A177,c178,hvf181,hl179,hc180⟩:=(hC.ow (i:=0) rfl).form
 subst hvf181
 obtain ⟨rfl,-⟩:=hr174
 replace hC:Cx (fun _=>False) O0 w w160 ([.own 107 (.pr si .bool) (.slice A177 x169.length c178) x169,.box g3 68 [.slice (some ad32) c.length d],.ro (.sl (.pr (.pr si (.pr si si)) (.pr (.pr si (.pr si si)) (.pr si si)))) [.slice (some ad32) c.length d] c,.own 73 .raw (.slice (some ad171) (((List.replicate (c.length:Int).toNat (Value.slice none 0 0))).length) c10) l,.box g64 105 [iv x30.1.1,iv x30.1.2.1,iv x30.1.2.2,iv x30.2.1.1,iv x30.2.1.2.1,iv x30.2.1.2.2,iv x30.2.2.1,iv x30.2.2.2],.box g116 105 [iv x82.1.1,iv x82.1.2.1,iv x82.1.2.2,iv x82.2.1.1,iv x82.2.1.2.1,iv x82.2.1.2.2,iv x82.2.2.1,iv x82.2.2.2]]++((rowsF 107 (.pr si .bool) l x).eraseIdx p.toNat++([]:List Fact))):=hC
 refine lv (.slice A177 x169.length c178) (ld_one isAgg73 rfl (hc173 0 _ rfl))<|lp _ (pu_move e7)<|lp _ (pu_move e10)<|lp (.agg #[iv y,.bool y157.2]) (pu_builds (places:=[(0,1),(1,1)]) (pv:=[(0,iv y),(1,.bool y157.2)]) type107 underlying107 rfl (mp_cons type3 (mp_cons type4 mp_nil rfl rfl) rfl rfl) rfl (by simp [Instr.fill,Value.cells]))<|lex.op (hC.lit (s:=(.pr si .bool)) (vs:=[.agg #[iv y,.bool y157.2]]) (xs:=[(y,y157.2)]) underlying73 type107 rfl rfl (nb rfl) rfl rfl (by simp [Value.cells,Sh.n]) rfl (show Elems _ _ (.pr si .bool) ([iv y,.bool y157.2]++([])) ([(y,y157.2)]:List (Int×Bool)) from Elems.cons (⟨[iv y],[.bool y157.2],rfl,⟨rfl,I64.wr J⟩,show Rep _ _ .bool _ _ from rfl⟩) (Elems.nil _ _ _))) ?_
 rintro _ w187 ⟨A183,c184,rfl,hl185,hc186,hC,-,-⟩
 replace hC:Cx (fun _=>False) O0 w w187 ([.own 107 (.pr si .bool) (.slice A183 ((([(y,y157.2)]:List (Int×Bool))).length) c184) ([(y,y157.2)]:List (Int×Bool)),.own 107 (.pr si .bool) (.slice A177 x169.length c178) x169,.box g3 68 [.slice (some ad32) c.length d],.ro (.sl (.pr (.pr si (.pr si si)) (.pr (.pr si (.pr si si)) (.pr si si)))) [.slice (some ad32) c.length d] c,.own 73 .raw (.slice (some ad171) (((List.replicate (c.length:Int).toNat (Value.slice none 0 0))).length) c10) l,.box g64 105 [iv x30.1.1,iv x30.1.2.1,iv x30.1.2.2,iv x30.2.1.1,iv x30.2.1.2.1,iv x30.2.1.2.2,iv x30.2.2.1,iv x30.2.2.2],.box g116 105 [iv x82.1.1,iv x82.1.2.1,iv x82.1.2.2,iv x82.2.1.1,iv x82.2.1.2.1,iv x82.2.1.2.2,iv x82.2.2.1,iv x82.2.2.2]]++((rowsF 107 (.pr si .bool) l x).eraseIdx p.toNat++([]:List Fact))):=hC
 obtain ⟨u189,h190,hb⟩:=bd hb
 refine lex.op (hC.app (i:=1) (s:=(.pr si .bool)) (xs:=x169) (ys:=([(y,y157.2)]:List (Int×Bool))) (m:=((([(y,y157.2)]:List (Int×Bool))).length)) rfl underlying73 underlying73 type107 rfl rfl rfl (hC.srco (i:=0) rfl) rfl rfl (by have:=lim_some h190; simp at this⊢ <;>omega) (by decide)) ?_
 rintro _ w195 ⟨A191,c192,rfl,hl193,hc194,hC,-,-⟩
 replace hC:Cx (fun _=>False) O0 w w195 ([.own 107 (.pr si .bool) (.slice A183 ((([(y,y157.2)]:List (Int×Bool))).length) c184) ([(y,y157.2)]:List (Int×Bool)),.own 107 (.pr si .bool) (.slice A191 ((x169++([(y,y157.2)]:List (Int×Bool))).length) c192) (x169++([(y,y157.2)]:List (Int×Bool))),.box g3 68 [.slice (some ad32) c.length d],.ro (.sl (.pr (.pr si (.pr si si)) (.pr (.pr si (.pr si si)) (.pr si si)))) [.slice (some ad32) c.length d] c,.own 73 .raw (.slice (some ad171) (((List.replicate (c.length:Int).toNat (Value.slice none 0 0))).length) c10) l,.box g64 105 [iv x30.1.1,iv x30.1.2.1,iv x30.1.2.2,iv x30.2.1.1,iv x30.2.1.2.1,iv x30.2.1.2.2,iv x30.2.2.1,iv x30.2.2.2],.box g116 105 [iv x82.1.1,iv x82.1.2.1,iv x82.1.2.2,iv x82.2.1.1,iv x82.2.1.2.1,iv x82.2.1.2.2,iv x82.2.2.1,iv x82.2.2.2]]++((rowsF 107 (.pr si .bool) l x).eraseIdx p.toNat++([]:List Fact))):=hC
 obtain ⟨x196,h197,hb⟩:=bd hb
 obtain ⟨v202,hv203,-⟩:=rowsF_get (e:=107) (s:=(.pr si .bool)) C (get_some h197).2
 obtain ⟨ad198,cs199,hA,hc200,hr201⟩:=hC.elo (i:=4) rfl hv203
 obtain rfl:=Option.some.inj hA
 refine lp (.pointer (some (ad171.add (p.toNat*1)))) (pu_index (a:=p) underlying70 sizeOf73 rfl rfl (by rw [(hC.ow (i:=4) rfl).sl_len.1,C]; exact (get_some h197).1))<|lex.sk (hC.put (i:=4) (s:=.raw) rfl rfl sizeOf73 (k:=p.toNat) (a:=Value.slice A191 ((x169++([(y,y157.2)]:List (Int×Bool))).length) c192) (by rw [C]; exact (List.getElem?_eq_some_iff.1 (get_some h197).2).1) (show Rep _ _ .raw [Value.slice A191 ((x169++([(y,y157.2)]:List (Int×Bool))).length) c192] (Value.slice A191 ((x169++([(y,y157.2)]:List (Int×Bool))).length) c192) from ⟨rfl,rfl⟩) rfl rfl rfl) ?_
 rintro w204 ⟨hC,-⟩
 replace hC:Cx (fun _=>False) O0 w w204 ([.own 107 (.pr si .bool) (.slice A183 ((([(y,y157.2)]:List (Int×Bool))).length) c184) ([(y,y157.2)]:List (Int×Bool)),.own 107 (.pr si .bool) (.slice A191 ((x169++([(y,y157.2)]:List (Int×Bool))).length) c192) (x169++([(y,y157.2)]:List (Int×Bool))),.box g3 68 [.slice (some ad32) c.length d],.ro (.sl (.pr (.pr si (.pr si si)) (.pr (.pr si (.pr si si)) (.pr si si)))) [.slice (some ad32) c.length d] c,.own 73 .raw (.slice (some ad171) (((List.replicate (c.length:Int).toNat (Value.slice none 0 0))).length) c10) (l.set p.toNat (Value.slice A191 ((x169++([(y,y157.2)]:List (Int×Bool))).length) c192)),.box g64 105 [iv x30.1.1,iv x30.1.2.1,iv x30.1.2.2,iv x30.2.1.1,iv x30.2.1.2.1,iv x30.2.1.2.2,iv x30.2.2.1,iv x30.2.2.2],.box g116 105 [iv x82.1.1,iv x82.1.2.1,iv x82.1.2.2,iv x82.2.1.1,iv x82.2.1.2.1,iv x82.2.1.2.2,iv x82.2.2.1,iv x82.2.2.2]]++((rowsF 107 (.pr si .bool) l x).eraseIdx p.toNat++([]:List Fact))):=hC
 replace hC:=hC.selT [1,0,2,3,4,5,6] (by decide)
 replace hC:=Cx.putRow hC C (List.getElem?_eq_some_iff.1 (get_some h197).2).1
 have hN205:(l.set p.toNat (Value.slice A191 ((x169++([(y,y157.2)]:List (Int×Bool))).length) c192)).length=(x.set p.toNat (x169++([(y,y157.2)]:List (Int×Bool)))).length:=lenset C _ _ _ _
 replace hC:Cx (fun _=>False) O0 w w204 ([.own 107 (.pr si .bool) (.slice A183 ((([(y,y157.2)]:List (Int×Bool))).length) c184) ([(y,y157.2)]:List (Int×Bool)),.box g3 68 [.slice (some ad32) c.length d],.ro (.sl (.pr (.pr si (.pr si si)) (.pr (.pr si (.pr si si)) (.pr si si)))) [.slice (some ad32) c.length d] c,.own 73 .raw (.slice (some ad171) (((List.replicate (c.length:Int).toNat (Value.slice none 0 0))).length) c10) (l.set p.toNat (Value.slice A191 ((x169++([(y,y157.2)]:List (Int×Bool))).length) c192)),.box g64 105 [iv x30.1.1,iv x30.1.2.1,iv x30.1.2.2,iv x30.2.1.1,iv x30.2.1.2.1,iv x30.2.1.2.2,iv x30.2.2.1,iv x30.2.2.2],.box g116 105 [iv x82.1.1,iv x82.1.2.1,iv x82.1.2.2,iv x82.2.1.1,iv x82.2.1.2.1,iv x82.2.1.2.2,iv x82.2.2.1,iv x82.2.2.2]]++(rowsF 107 (.pr si .bool) (l.set p.toNat (Value.slice A191 ((x169++([(y,y157.2)]:List (Int×Bool))).length) c192)) (x.set p.toNat (x169++([(y,y157.2)]:List (Int×Bool))))++([]:List Fact))):=hC
 refine ln (hK80 _ _ ?_)
 refine rg ?_
 obtain ⟨z206,h207,hb⟩:=bd hb
 refine lp (iv z206) (pu_addc (a:=y) (b:=1) e26 rfl h207)<|lp (iv z206) (pu_move rfl)<|ln ?_
 obtain rfl:=os hb
 exact hK72 m73' _ _ (Nat.lt_succ_self _) ⟨z206,(x.set p.toNat (x169++([(y,y157.2)]:List (Int×Bool)))),(l.set p.toNat (Value.slice A191 ((x169++([(y,y157.2)]:List (Int×Bool))).length) c192)),e1,e2,e3,e4,e5,e6,e17,e18,e19,e20,e24,e25,rfl,(chk_rng h207),hN205,hC.selT [1,2,3,4] (by decide),lN hl1⟩
 replace hb:=tf hq168 hb
 refine Wc.skip (hK80 _ _ ?_)
 refine rg ?_
 obtain ⟨z208,h209,hb⟩:=bd hb
 refine lp (iv z208) (pu_addc (a:=y) (b:=1) e26 rfl h209)<|lp (iv z208) (pu_move rfl)<|ln ?_
 obtain rfl:=os hb
 exact hK72 m73' _ _ (Nat.lt_succ_self _) ⟨z208,x,l,e1,e2,e3,e4,e5,e6,e17,e18,e19,e20,e24,e25,rfl,(chk_rng h209),C,hC.selT [0,1,2,3] (by decide),lN hl1⟩
 replace hb:=tf hq79 hb
 refine Wc.exit rfl ?_
 obtain rfl:=os hb
 obtain rfl:=(lX hl1).symm
 exact hK71 _ _ ⟨y,x,l,e1,e2,e3,e4,e5,e6,e17,e18,e19,e20,e24,e25,e26,J,C,hC.selT [0,1,2,3] (by decide),hbK1⟩
 clear hb hC hl1
 rintro E211 w210 ⟨y,x,l,e1,e2,e3,e4,e5,e6,e17,e18,e19,e20,e24,e25,e26,J,C,hC,hb⟩
 refine hK68 _ _<|Wc.seq fun _ hK212=>rg ?_
 replace hC:Cx (fun _=>False) O0 w w210 ([.box g3 68 [.slice (some ad32) c.length d],.ro (.sl (.pr (.pr si (.pr si si)) (.pr (.pr si (.pr si si)) (.pr si si)))) [.slice (some ad32) c.length d] c,.own 73 .raw (.slice A9 (((List.replicate (c.length:Int).toNat (Value.slice none 0 0))).length) c10) l,.box g64 105 [iv x30.1.1,iv x30.1.2.1,iv x30.1.2.2,iv x30.2.1.1,iv x30.2.1.2.1,iv x30.2.1.2.2,iv x30.2.2.1,iv x30.2.2.2]]++(rowsF 107 (.pr si .bool) l x++([]:List Fact))):=hC
 refine lp (.func (.func 80) #[] #[pg g3,pg g64]) (pu_funcc (map_of (m2_cons e1 (m2_cons e6 m2_nil))))<|lex.op (hC.alloc (cs:=[.nilFunc]) zeroValue108 rfl) ?_
 rintro _ w214 ⟨g213,rfl,hC,hF,-⟩
 replace hC:Cx (fun _=>False) O0 w w214 ([.box g213 108 [.nilFunc],.box g3 68 [.slice (some ad32) c.length d],.ro (.sl (.pr (.pr si (.pr si si)) (.pr (.pr si (.pr si si)) (.pr si si)))) [.slice (some ad32) c.length d] c,.own 73 .raw (.slice A9 (((List.replicate (c.length:Int).toNat (Value.slice none 0 0))).length) c10) l,.box g64 105 [iv x30.1.1,iv x30.1.2.1,iv x30.1.2.2,iv x30.2.1.1,iv x30.2.1.2.1,iv x30.2.1.2.2,iv x30.2.2.1,iv x30.2.2.2]]++(rowsF 107 (.pr si .bool) l x++([]:List Fact))):=hC
 refine lex.sk (hC.setf (i:=0) (k:=0) (v:=.func (.func 80) #[] #[pg g3,pg g64]) rfl sizeOf108 rfl (by rw [Addr.add_zero']; exact rfl) rfl rfl) ?_
 rintro w216 ⟨hC,hF⟩
 refine ln (hK212 _ _ ?_)
 refine Wc.seq fun _ hK217=>rg ?_
 replace hC:Cx (fun _=>False) O0 w w216 ([.box g213 108 [.func (.func 80) #[] #[pg g3,pg g64]],.box g3 68 [.slice (some ad32) c.length d],.ro (.sl (.pr (.pr si (.pr si si)) (.pr (.pr si (.pr si si)) (.pr si si)))) [.slice (some ad32) c.length d] c,.own 73 .raw (.slice A9 (((List.replicate (c.length:Int).toNat (Value.slice none 0 0))).length) c10) l,.box g64 105 [iv x30.1.1,iv x30.1.2.1,iv x30.1.2.2,iv x30.2.1.1,iv x30.2.1.2.1,iv x30.2.1.2.2,iv x30.2.2.1,iv x30.2.2.2]]++(rowsF 107 (.pr si .bool) l x++([]:List Fact))):=hC
 refine lp (.func (.func 81) #[] #[pg g213]) (pu_funcc rfl)<|lp (.func (.func 81) #[] #[pg g213]) (pu_assign rfl)<|ln (hK217 _ _ ?_)
 refine Wc.seq fun _ hK218=>rg<|lp _ (pu_move e4)<|lp _ (pu_move e5) ?_
 obtain ⟨x219,h220,hb⟩:=bd hb
 obtain ⟨v225,hv226,-⟩:=rowsF_get (e:=107) (s:=(.pr si .bool)) C (get_some h220).2
 obtain ⟨ad221,cs222,hA,hc223,hr224⟩:=hC.elo (i:=3) rfl hv226
 subst hA
 refine lp (.pointer (some (ad221.add (p.toNat*1)))) (pu_index (a:=p) underlying70 sizeOf73 rfl rfl (by rw [(hC.ow (i:=3) rfl).sl_len.1,C]; exact (get_some h220).1)) ?_
 replace hC:Cx (fun _=>False) O0 w w216 ([.box g213 108 [.func (.func 80) #[] #[pg g3,pg g64]],.box g3 68 [.slice (some ad32) c.length d],.ro (.sl (.pr (.pr si (.pr si si)) (.pr (.pr si (.pr si si)) (.pr si si)))) [.slice (some ad32) c.length d] c,.own 73 .raw (.slice (some ad221) (((List.replicate (c.length:Int).toNat (Value.slice none 0 0))).length) c10) l,.box g64 105 [iv x30.1.1,iv x30.1.2.1,iv x30.1.2.2,iv x30.2.1.1,iv x30.2.1.2.1,iv x30.2.1.2.2,iv x30.2.2.1,iv x30.2.2.2]]++(rowsF 107 (.pr si .bool) l x++([]:List Fact))):=hC
 replace hC:=Cx.takeRow hC hv226 (get_some h220).2
 obtain ⟨A227,c228,hvf231,hl229,hc230⟩:=(hC.ow (i:=0) rfl).form
 subst hvf231
 obtain ⟨rfl,-⟩:=hr224
 replace hC:Cx (fun _=>False) O0 w w216 ([.own 107 (.pr si .bool) (.slice A227 x219.length c228) x219,.box g213 108 [.func (.func 80) #[] #[pg g3,pg g64]],.box g3 68 [.slice (some ad32) c.length d],.ro (.sl (.pr (.pr si (.pr si si)) (.pr (.pr si (.pr si si)) (.pr si si)))) [.slice (some ad32) c.length d] c,.own 73 .raw (.slice (some ad221) (((List.replicate (c.length:Int).toNat (Value.slice none 0 0))).length) c10) l,.box g64 105 [iv x30.1.1,iv x30.1.2.1,iv x30.1.2.2,iv x30.2.1.1,iv x30.2.1.2.1,iv x30.2.1.2.2,iv x30.2.2.1,iv x30.2.2.2]]++((rowsF 107 (.pr si .bool) l x).eraseIdx p.toNat++([]:List Fact))):=hC
 refine lv (.slice A227 x219.length c228) (ld_one isAgg73 rfl (hc223 0 _ rfl))<|lp (.func (.func 81) #[] #[pg g213]) (pu_move rfl) ?_
 replace hC:=hC.selT [0,1,2,5,3,4] (by decide)
 replace hC:Cx (fun _=>False) O0 w w216 ([.own 107 (.pr si .bool) (.slice A227 x219.length c228) x219,.box g213 108 [.func (.func 80) #[] #[pg g3,pg g64]],.box g3 68 [.slice (some ad32) c.length d],.box g64 105 [iv x30.1.1,iv x30.1.2.1,iv x30.1.2.2,iv x30.2.1.1,iv x30.2.1.2.1,iv x30.2.1.2.2,iv x30.2.2.1,iv x30.2.2.2]]++([.ro (.sl (.pr (.pr si (.pr si si)) (.pr (.pr si (.pr si si)) (.pr si si)))) [.slice (some ad32) c.length d] c,.own 73 .raw (.slice (some ad221) (((List.replicate (c.length:Int).toNat (Value.slice none 0 0))).length) c10) l]++((rowsF 107 (.pr si .bool) l x).eraseIdx p.toNat++([]:List Fact)))):=hC
 obtain ⟨y233,h234,hb⟩:=bd hb
 refine lex.cl (⟨_,_,op_call (vs:=[.slice A227 x219.length c228,.func (.func 81) #[] #[pg g213]]) call82 rfl rfl rfl,slices_SortFunc_passage_passage_polygon_cross_c2_ok n hC.lt (hC.rd (i:=4) rfl) (wrap_I64 hr42) (wrap_I64 hr46) (wrap_I64 hr47) (wrap_I64 hr54) (wrap_I64 hr58) (wrap_I64 hr59) (wrap_I64 hr62) (wrap_I64 hr63) hC.give h234⟩) ?_
 rintro _ w235 ⟨rfl,hK⟩
 replace hC:=hC.back hK
 clear hK
 refine ln (hK218 _ _ ?_)
 refine Wc.fresh fun E236 hE=>?_
 have e1:=cg hE 1 e1
 have e2:=cg hE 2 e2
 have e3:=cg hE 3 e3
 have e4:=cg hE 4 e4
 have e5:=cg hE 5 e5
 have e6:=cg hE 6 e6
 have e11:E236 11=pg g213:=cg hE 11 rfl
 have e12:E236 12=.func (.func 81) #[] #[pg g213]:=cg hE 12 rfl
 have e17:=cg hE 17 e17
 have e18:=cg hE 18 e18
 have e19:=cg hE 19 e19
 have e20:=cg hE 20 e20
 have e24:=cg hE 24 e24
 have e25:=cg hE 25 e25
 have e26:=cg hE 26 e26
 clear hE
 refine Wc.seq fun _ hK237=>rg ?_
 replace hC:Cx (fun _=>False) O0 w w235 ([.own 107 (.pr si .bool) (.slice A227 x219.length c228) y233,.box g213 108 [.func (.func 80) #[] #[pg g3,pg g64]],.box g3 68 [.slice (some ad32) c.length d],.box g64 105 [iv x30.1.1,iv x30.1.2.1,iv x30.1.2.2,iv x30.2.1.1,iv x30.2.1.2.1,iv x30.2.1.2.2,iv x30.2.2.1,iv x30.2.2.2],.ro (.sl (.pr (.pr si (.pr si si)) (.pr (.pr si (.pr si si)) (.pr si si)))) [.slice (some ad32) c.length d] c,.own 73 .raw (.slice (some ad221) (((List.replicate (c.length:Int).toNat (Value.slice none 0 0))).length) c10) l]++((rowsF 107 (.pr si .bool) l x).eraseIdx p.toNat++([]:List Fact))):=hC
 refine lp (iv 1) (pu_assign rfl)<|ln (hK237 _ _ ?_)
 replace hC:=hC.selT [0,1,2,3,4,5] (by decide)
 replace hC:=Cx.putSame hC C (List.getElem?_eq_some_iff.1 (get_some h220).2).1 hv226
 have hN238:l.length=(x.set p.toNat y233).length:=by rw [List.length_set]; exact C
 replace hC:Cx (fun _=>False) O0 w w235 ([.box g213 108 [.func (.func 80) #[] #[pg g3,pg g64]],.box g3 68 [.slice (some ad32) c.length d],.box g64 105 [iv x30.1.1,iv x30.1.2.1,iv x30.1.2.2,iv x30.2.1.1,iv x30.2.1.2.1,iv x30.2.1.2.2,iv x30.2.2.1,iv x30.2.2.2],.ro (.sl (.pr (.pr si (.pr si si)) (.pr (.pr si (.pr si si)) (.pr si si)))) [.slice (some ad32) c.length d] c,.own 73 .raw (.slice (some ad221) (((List.replicate (c.length:Int).toNat (Value.slice none 0 0))).length) c10) l]++(rowsF 107 (.pr si .bool) l (x.set p.toNat y233)++([]:List Fact))):=hC
 obtain ⟨o239,hl4,hb⟩:=bd hb
 refine Wc.cut (fun E wv=> ∃(G:Int),E 1=pg g3∧E 2=.slice none 0 0∧E 3=.bool false∧E 4=.slice (some ad221) (((List.replicate (c.length:Int).toNat (Value.slice none 0 0))).length) c10∧E 5=iv p∧E 6=pg g64∧E 11=pg g213∧E 12=.func (.func 81) #[] #[pg g213]∧E 13=iv G∧E 17=.slice (some ad32) c.length d∧E 18=iv (c.length:Int)∧E 19=iv p∧E 20=.bool (decide (p<(c.length:Int)))∧E 24=.slice (some ad32) c.length d∧E 25=iv (c.length:Int)∧E 26=iv y∧I64 G∧Cx (fun _=>False) O0 w wv ([.box g3 68 [.slice (some ad32) c.length d],.ro (.sl (.pr (.pr si (.pr si si)) (.pr (.pr si (.pr si si)) (.pr si si)))) [.slice (some ad32) c.length d] c,.own 73 .raw (.slice (some ad221) (((List.replicate (c.length:Int).toNat (Value.slice none 0 0))).length) c10) l,.box g64 105 [iv x30.1.1,iv x30.1.2.1,iv x30.1.2.2,iv x30.2.1.1,iv x30.2.1.2.1,iv x30.2.1.2.2,iv x30.2.2.1,iv x30.2.2.2],.box g213 108 [.func (.func 80) #[] #[pg g3,pg g64]]]++(rowsF 107 (.pr si .bool) l (x.set p.toNat y233)++([]:List Fact)))∧((chk (p+1)).bind fun z322=>some (.inl (z322,(x.set p.toNat y233))):Option ((Int×(List (List (Int×Bool))))⊕((Int×(List (List (Int×Bool))))⊕((List (List (Int×Bool)))×Bool))))=some o24) (fun _ hK240=>?_) ?_
 refine Wc.block ?_
 refine Wc.loop (fun m E wv=> ∃(G:Int),E 1=pg g3∧E 2=.slice none 0 0∧E 3=.bool false∧E 4=.slice (some ad221) (((List.replicate (c.length:Int).toNat (Value.slice none 0 0))).length) c10∧E 5=iv p∧E 6=pg g64∧E 11=pg g213∧E 12=.func (.func 81) #[] #[pg g213]∧E 13=iv G∧E 17=.slice (some ad32) c.length d∧E 18=iv (c.length:Int)∧E 19=iv p∧E 20=.bool (decide (p<(c.length:Int)))∧E 24=.slice (some ad32) c.length d∧E 25=iv (c.length:Int)∧E 26=iv y∧I64 G∧Cx (fun _=>False) O0 w wv ([.box g3 68 [.slice (some ad32) c.length d],.ro (.sl (.pr (.pr si (.pr si si)) (.pr (.pr si (.pr si si)) (.pr si si)))) [.slice (some ad32) c.length d] c,.own 73 .raw (.slice (some ad221) (((List.replicate (c.length:Int).toNat (Value.slice none 0 0))).length) c10) l,.box g64 105 [iv x30.1.1,iv x30.1.2.1,iv x30.1.2.2,iv x30.2.1.1,iv x30.2.1.2.1,iv x30.2.1.2.2,iv x30.2.2.1,iv x30.2.2.2],.box g213 108 [.func (.func 80) #[] #[pg g3,pg g64]]]++(rowsF 107 (.pr si .bool) l (x.set p.toNat y233)++([]:List Fact)))∧loopN m (F.polygon_cross_b4 n c p x30 x y233) G=some o239) n ⟨1,e1,e2,e3,e4,e5,e6,e11,e12,rfl,e17,e18,e19,e20,e24,e25,e26,(show I64 1 from by unfold I64; omega),hC.selT [1,3,4,2,0] (by decide),hl4⟩ ?_
 have hbK4:=hb
 clear hb hC hl4
 rintro m242 E244 w243 ⟨G,e1,e2,e3,e4,e5,e6,e11,e12,e13,e17,e18,e19,e20,e24,e25,e26,P,hC,hl4⟩ K241 hK241
 obtain ⟨m242',o245,rfl,hb,hl4⟩:=loopN_some hl4
 unfold F.polygon_cross_b4 at hb
 refine Wc.seq fun _ hK246=>?_
 refine Wc.seq fun _ hK247=>rg ?_
 replace hC:Cx (fun _=>False) O0 w w243 ([.box g3 68 [.slice (some ad32) c.length d],.ro (.sl (.pr (.pr si (.pr si si)) (.pr (.pr si (.pr si si)) (.pr si si)))) [.slice (some ad32) c.length d] c,.own 73 .raw (.slice (some ad221) (((List.replicate (c.length:Int).toNat (Value.slice none 0 0))).length) c10) l,.box g64 105 [iv x30.1.1,iv x30.1.2.1,iv x30.1.2.2,iv x30.2.1.1,iv x30.2.1.2.1,iv x30.2.1.2.2,iv x30.2.2.1,iv x30.2.2.2],.box g213 108 [.func (.func 80) #[] #[pg g3,pg g64]]]++(rowsF 107 (.pr si .bool) l (x.set p.toNat y233)++([]:List Fact))):=hC
 refine lp _ (pu_move e13)<|lp _ (pu_move e4)<|lp _ (pu_move e5) ?_
 obtain ⟨x248,h249,hb⟩:=bd hb
 obtain ⟨v254,hv255,-⟩:=rowsF_get (e:=107) (s:=(.pr si .bool)) hN238 (get_some h249).2
 obtain ⟨ad250,cs251,hA,hc252,hr253⟩:=hC.elo (i:=2) rfl hv255
 obtain rfl:=Option.some.inj hA
 refine lp (.pointer (some (ad221.add (p.toNat*1)))) (pu_index (a:=p) underlying70 sizeOf73 rfl rfl (by rw [(hC.ow (i:=2) rfl).sl_len.1,hN238]; exact (get_some h249).1)) ?_
 replace hC:=Cx.takeRow hC hv255 (get_some h249).2
 obtain ⟨A256,c257,hvf260,hl258,hc259⟩:=(hC.ow (i:=0) rfl).form
 subst hvf260
 obtain ⟨rfl,-⟩:=hr253
 replace hC:Cx (fun _=>False) O0 w w243 ([.own 107 (.pr si .bool) (.slice A256 x248.length c257) x248,.box g3 68 [.slice (some ad32) c.length d],.ro (.sl (.pr (.pr si (.pr si si)) (.pr (.pr si (.pr si si)) (.pr si si)))) [.slice (some ad32) c.length d] c,.own 73 .raw (.slice (some ad221) (((List.replicate (c.length:Int).toNat (Value.slice none 0 0))).length) c10) l,.box g64 105 [iv x30.1.1,iv x30.1.2.1,iv x30.1.2.2,iv x30.2.1.1,iv x30.2.1.2.1,iv x30.2.1.2.2,iv x30.2.2.1,iv x30.2.2.2],.box g213 108 [.func (.func 80) #[] #[pg g3,pg g64]]]++((rowsF 107 (.pr si .bool) l (x.set p.toNat y233)).eraseIdx p.toNat++([]:List Fact))):=hC
 refine lv (.slice A256 x248.length c257) (ld_one isAgg73 rfl (hc252 0 _ rfl))<|lp (iv (x248.length:Int)) (pu_len (A:=A256) (n:=x248.length) (m:=c257) underlying73 rfl)<|lp (.bool (decide (G<(x248.length:Int)))) (pu_lss (k:=.i64) (a:=G) (b:=(x248.length:Int)) rfl rfl)<|ln (hK247 _ _ ?_)
 refine Wc.cond (t:=(decide (G<(x248.length:Int)))) (rfl) (fun hq262=>?_) (fun hq262=>?_)
 replace hb:=tt hq262 hb
 refine Wc.skip (hK246 _ _ ?_)
 refine Wc.seq fun _ hK263=>?_
 refine Wc.block ?_
 refine Wc.seq fun _ hK264=>?_
 refine Wc.regionMix [] (frm [] [.box g213 108 [.func (.func 80) #[] #[pg g3,pg g64]],.box g3 68 [.slice (some ad32) c.length d],.box g64 105 [iv x30.1.1,iv x30.1.2.1,iv x30.1.2.2,iv x30.2.1.1,iv x30.2.1.2.1,iv x30.2.1.2.2,iv x30.2.2.1,iv x30.2.2.2]] ([]:List Fact)) (fun _=>rfl) mixed (by decide+kernel) (by decide+kernel) fun w266 hw265=>?_
 replace hC:=hC.step (Fr.of_drew hw265)
 have hM:=Fr.refl (fun k=>k∈blocks [.box g213 108 [.func (.func 80) #[] #[pg g3,pg g64]],.box g3 68 [.slice (some ad32) c.length d],.box g64 105 [iv x30.1.1,iv x30.1.2.1,iv x30.1.2.2,iv x30.2.1.1,iv x30.2.1.2.1,iv x30.2.1.2.2,iv x30.2.2.1,iv x30.2.2.2]]) w266
 clear hw265
 have hS:=hC
 have hBf215: ∀g,g<w266.heap.size→some g213=some g→g∈blocks [.box g213 108 [.func (.func 80) #[] #[pg g3,pg g64]],.box g3 68 [.slice (some ad32) c.length d],.box g64 105 [iv x30.1.1,iv x30.1.2.1,iv x30.1.2.2,iv x30.2.1.1,iv x30.2.1.2.1,iv x30.2.1.2.2,iv x30.2.2.1,iv x30.2.2.2]]:=fun g _ hg=>Option.some.inj hg▸box_in (i:=0) rfl
 have hBf5: ∀g,g<w266.heap.size→some g3=some g→g∈blocks [.box g213 108 [.func (.func 80) #[] #[pg g3,pg g64]],.box g3 68 [.slice (some ad32) c.length d],.box g64 105 [iv x30.1.1,iv x30.1.2.1,iv x30.1.2.2,iv x30.2.1.1,iv x30.2.1.2.1,iv x30.2.1.2.2,iv x30.2.2.1,iv x30.2.2.2]]:=fun g _ hg=>Option.some.inj hg▸box_in (i:=1) rfl
 have hBf66: ∀g,g<w266.heap.size→some g64=some g→g∈blocks [.box g213 108 [.func (.func 80) #[] #[pg g3,pg g64]],.box g3 68 [.slice (some ad32) c.length d],.box g64 105 [iv x30.1.1,iv x30.1.2.1,iv x30.1.2.2,iv x30.2.1.1,iv x30.2.1.2.1,iv x30.2.1.2.2,iv x30.2.2.1,iv x30.2.2.2]]:=fun g _ hg=>Option.some.inj hg▸box_in (i:=2) rfl
 replace hC:Cx (fun _=>False) O0 w w266 ([.own 107 (.pr si .bool) (.slice A256 x248.length c257) x248,.box g3 68 [.slice (some ad32) c.length d],.ro (.sl (.pr (.pr si (.pr si si)) (.pr (.pr si (.pr si si)) (.pr si si)))) [.slice (some ad32) c.length d] c,.own 73 .raw (.slice (some ad221) (((List.replicate (c.length:Int).toNat (Value.slice none 0 0))).length) c10) l,.box g64 105 [iv x30.1.1,iv x30.1.2.1,iv x30.1.2.2,iv x30.2.1.1,iv x30.2.1.2.1,iv x30.2.1.2.2,iv x30.2.2.1,iv x30.2.2.2],.box g213 108 [.func (.func 80) #[] #[pg g3,pg g64]]]++((rowsF 107 (.pr si .bool) l (x.set p.toNat y233)).eraseIdx p.toNat++([]:List Fact))):=hC
 refine mp (.func (.func 81) #[] #[pg g213]) (pu_move e12)<|mp (.slice (some ad221) (((List.replicate (c.length:Int).toNat (Value.slice none 0 0))).length) c10) (pu_move e4)<|mp (iv p) (pu_move e5) ?_
 obtain ⟨x267,h268,hb⟩:=bd hb
 obtain ⟨v273,hv274,-⟩:=rowsF_get (e:=107) (s:=(.pr si .bool)) hN238 (get_some h268).2
 obtain ⟨ad269,cs270,hA,ho275,hc271,hr272⟩:=hS.elo2 (i:=3) rfl hv274 [5,1,4] (by decide)
 obtain rfl:=Option.some.inj hA
 refine mp (.pointer (some (ad221.add (p.toNat*1)))) (pu_index (a:=p) underlying70 sizeOf73 rfl rfl (by rw [(hC.ow (i:=3) rfl).sl_len.1,hN238]; exact (get_some h268).1)) ?_
 obtain rfl:=Option.some.inj (hv274.symm.trans hv255)
 obtain ⟨rfl,-⟩:=hr272
 refine mixE.load hM (v:=.slice A256 x248.length c257) (fun _ hF=>ld_one isAgg73 rfl (hF.cell (hc271 0 _ rfl) (off1 ho275)))<|mp (iv G) (pu_move e13) ?_
 obtain ⟨z276,h277,hb⟩:=bd hb
 refine mp (iv z276) (pu_subc (a:=G) (b:=1) rfl rfl h277) ?_
 obtain ⟨x278,h279,hb⟩:=bd hb
 obtain ⟨ad280,cs281,hA,ho284,hc282,hr283⟩:=hS.elo2 (i:=0) rfl (get_some h279).2 [5,1,4] (by decide)
 subst hA
 refine mp (.pointer (some (ad280.add (z276.toNat*2)))) (pu_index (a:=z276) underlying73 sizeOf107 rfl rfl (get_some h279).1) ?_
 replace hC:Cx (fun _=>False) O0 w w266 ([.own 107 (.pr si .bool) (.slice (some ad280) x248.length c257) x248,.box g3 68 [.slice (some ad32) c.length d],.ro (.sl (.pr (.pr si (.pr si si)) (.pr (.pr si (.pr si si)) (.pr si si)))) [.slice (some ad32) c.length d] c,.own 73 .raw (.slice (some ad221) (((List.replicate (c.length:Int).toNat (Value.slice none 0 0))).length) c10) l,.box g64 105 [iv x30.1.1,iv x30.1.2.1,iv x30.1.2.2,iv x30.2.1.1,iv x30.2.1.2.1,iv x30.2.1.2.2,iv x30.2.2.1,iv x30.2.2.2],.box g213 108 [.func (.func 80) #[] #[pg g3,pg g64]]]++((rowsF 107 (.pr si .bool) l (x.set p.toNat y233)).eraseIdx p.toNat++([]:List Fact))):=hC
 obtain ⟨k285,k286,rfl,hr287,hr288⟩:=hr283
 obtain ⟨rfl,hr287⟩:=hr287
 obtain rfl:=(show _=_ from hr288)
 refine mixE.load hM (v:=.agg #[iv x278.1,.bool x278.2]) (fun _ hF=>ld_agg isAgg107 sizeOf107 rfl rfl (fun j u hu=>hF.cell (hc282 j u hu) (off2 ho284)))<|mp (.slice (some ad221) (((List.replicate (c.length:Int).toNat (Value.slice none 0 0))).length) c10) (pu_move e4)<|mp (iv p) (pu_move e5) ?_
 obtain ⟨x289,h290,hb⟩:=bd hb
 obtain ⟨v295,hv296,-⟩:=rowsF_get (e:=107) (s:=(.pr si .bool)) hN238 (get_some h290).2
 obtain ⟨ad291,cs292,hA,ho297,hc293,hr294⟩:=hS.elo2 (i:=3) rfl hv296 [5,1,4] (by decide)
 obtain rfl:=Option.some.inj hA
 refine mp (.pointer (some (ad221.add (p.toNat*1)))) (pu_index (a:=p) underlying70 sizeOf73 rfl rfl (by rw [(hC.ow (i:=3) rfl).sl_len.1,hN238]; exact (get_some h290).1)) ?_
 obtain rfl:=Option.some.inj (hv296.symm.trans hv255)
 obtain ⟨rfl,-⟩:=hr294
 refine mixE.load hM (v:=.slice (some ad280) x248.length c257) (fun _ hF=>ld_one isAgg73 rfl (hF.cell (hc293 0 _ rfl) (off1 ho297)))<|mp (iv G) (pu_move e13) ?_
 obtain ⟨x298,h299,hb⟩:=bd hb
 obtain ⟨ad300,cs301,hA,ho304,hc302,hr303⟩:=hS.elo2 (i:=0) rfl (get_some h299).2 [5,1,4] (by decide)
 obtain rfl:=Option.some.inj hA
 refine mp (.pointer (some (ad280.add (G.toNat*2)))) (pu_index (a:=G) underlying73 sizeOf107 rfl rfl (get_some h299).1) ?_
 obtain ⟨k305,k306,rfl,hr307,hr308⟩:=hr303
 obtain ⟨rfl,hr307⟩:=hr307
 obtain rfl:=(show _=_ from hr308)
 refine mixE.load hM (v:=.agg #[iv x298.1,.bool x298.2]) (fun _ hF=>ld_agg isAgg107 sizeOf107 rfl rfl (fun j u hu=>hF.cell (hc302 j u hu) (off2 ho304))) ?_
 replace hC:=hC.selT [5,1,4,0,2,3] (by decide)
 replace hC:Cx (fun _=>False) O0 w w266 ([.box g213 108 [.func (.func 80) #[] #[pg g3,pg g64]],.box g3 68 [.slice (some ad32) c.length d],.box g64 105 [iv x30.1.1,iv x30.1.2.1,iv x30.1.2.2,iv x30.2.1.1,iv x30.2.1.2.1,iv x30.2.1.2.2,iv x30.2.2.1,iv x30.2.2.2]]++([.own 107 (.pr si .bool) (.slice (some ad280) x248.length c257) x248,.ro (.sl (.pr (.pr si (.pr si si)) (.pr (.pr si (.pr si si)) (.pr si si)))) [.slice (some ad32) c.length d] c,.own 73 .raw (.slice (some ad221) (((List.replicate (c.length:Int).toNat (Value.slice none 0 0))).length) c10) l]++((rowsF 107 (.pr si .bool) l (x.set p.toNat y233)).eraseIdx p.toNat++([]:List Fact)))):=hC
 obtain ⟨y309,h310,hb⟩:=bd hb
 refine mixE.cl hM (⟨_,_,op_callv (vs:=[.agg #[iv x278.1,.bool x278.2],.agg #[iv x298.1,.bool x298.2],pg g213]) (ca:=#[pg g213]) call81 rfl rfl rfl,polygon_cross_c2_ok n hC.lt (wrap_I64 hr287) (wrap_I64 hr307) (hC.rd (i:=4) rfl) (wrap_I64 hr42) (wrap_I64 hr46) (wrap_I64 hr47) (wrap_I64 hr54) (wrap_I64 hr58) (wrap_I64 hr59) (wrap_I64 hr62) (wrap_I64 hr63) hC.give h310⟩) ?_
 rintro _ w312 ⟨rfl,hr311,hK⟩
 have hL313: ∀f∈([.box g213 108 [.func (.func 80) #[] #[pg g3,pg g64]],.box g3 68 [.slice (some ad32) c.length d],.box g64 105 [iv x30.1.1,iv x30.1.2.1,iv x30.1.2.2,iv x30.2.1.1,iv x30.2.1.2.1,iv x30.2.1.2.2,iv x30.2.2.1,iv x30.2.2.2]]:List Fact),∀g,g<w266.heap.size→f.blk=some g→g∈blocks [.box g213 108 [.func (.func 80) #[] #[pg g3,pg g64]],.box g3 68 [.slice (some ad32) c.length d],.box g64 105 [iv x30.1.1,iv x30.1.2.1,iv x30.1.2.2,iv x30.2.1.1,iv x30.2.1.2.1,iv x30.2.1.2.2,iv x30.2.2.1,iv x30.2.2.2]]:=List.forall_mem_cons.2 ⟨hBf215,List.forall_mem_cons.2 ⟨hBf5,List.forall_mem_cons.2 ⟨hBf66,fun _ h=>absurd h List.not_mem_nil⟩⟩⟩
 replace hM:=hM.besideL hL313 hK.fr
 refine ⟨hM,?_⟩
 replace hC:=hC.back hK
 clear hK
 replace hC:Cx (fun _=>False) O0 w w312 ([.box g213 108 [.func (.func 80) #[] #[pg g3,pg g64]],.box g3 68 [.slice (some ad32) c.length d],.box g64 105 [iv x30.1.1,iv x30.1.2.1,iv x30.1.2.2,iv x30.2.1.1,iv x30.2.1.2.1,iv x30.2.1.2.2,iv x30.2.2.1,iv x30.2.2.2],.own 107 (.pr si .bool) (.slice (some ad280) x248.length c257) x248,.ro (.sl (.pr (.pr si (.pr si si)) (.pr (.pr si (.pr si si)) (.pr si si)))) [.slice (some ad32) c.length d] c,.own 73 .raw (.slice (some ad221) (((List.replicate (c.length:Int).toNat (Value.slice none 0 0))).length) c10) l]++((rowsF 107 (.pr si .bool) l (x.set p.toNat y233)).eraseIdx p.toNat++([]:List Fact))):=hC
 refine mp (.bool (decide (y309=0))) (pu_eql (k:=.i64) (a:=y309) (b:=0) rfl rfl)<|mixE.nil ?_
 clear hS hM
 refine hK264 _ _<|Wc.fresh fun E314 hE=>?_
 have e1:=cg hE 1 e1
 have e2:=cg hE 2 e2
 have e3:=cg hE 3 e3
 have e4:=cg hE 4 e4
 have e5:=cg hE 5 e5
 have e6:=cg hE 6 e6
 have e11:=cg hE 11 e11
 have e12:=cg hE 12 e12
 have e13:=cg hE 13 e13
 have e17:=cg hE 17 e17
 have e18:=cg hE 18 e18
 have e19:=cg hE 19 e19
 have e20:=cg hE 20 e20
 have e24:=cg hE 24 e24
 have e25:=cg hE 25 e25
 have e26:=cg hE 26 e26
 have e120:E314 120=.bool (decide (G<(x248.length:Int))):=cg hE 120 rfl
 have e140:E314 140=.bool (decide (y309=0)):=cg hE 140 rfl
 clear hE
 refine Wc.cond (t:=(decide (y309=0))) (e140) (fun hq315=>?_) (fun hq315=>?_)
 replace hb:=tt hq315 hb
 refine Wc.seq fun _ hK316=>rg<|lp (.slice none 0 0) (pu_assign rfl)<|lp (.bool false) (pu_assign rfl)<|ln (hK316 _ _ ?_)
 replace hC:=hC.selT [3,0,1,2,4,5] (by decide)
 replace hC:=Cx.putOld hC hN238 hv255 (get_some h249).2
 replace hC:Cx (fun _=>False) O0 w w312 ([.box g213 108 [.func (.func 80) #[] #[pg g3,pg g64]],.box g3 68 [.slice (some ad32) c.length d],.box g64 105 [iv x30.1.1,iv x30.1.2.1,iv x30.1.2.2,iv x30.2.1.1,iv x30.2.1.2.1,iv x30.2.1.2.2,iv x30.2.2.1,iv x30.2.2.2],.ro (.sl (.pr (.pr si (.pr si si)) (.pr (.pr si (.pr si si)) (.pr si si)))) [.slice (some ad32) c.length d] c,.own 73 .raw (.slice (some ad221) (((List.replicate (c.length:Int).toNat (Value.slice none 0 0))).length) c10) l]++(rowsF 107 (.pr si .bool) l (x.set p.toNat y233)++([]:List Fact))):=hC
 obtain rfl:=os hb
 obtain rfl:=(lX hl4).symm
 replace hb:=hbK4
 obtain rfl:=os hb
 obtain rfl:=(lX hl0).symm
 replace hb:=hbK0
 replace hC:=hC.ro (show Rep _ _ (.sl (.sl (.pr si .bool))) [.slice none 0 0] [] from ⟨none,0,rfl,Nat.le_refl _,by omega,fun h=>absurd h (by simp)⟩)
 replace hC:Cx (fun _=>False) O0 w w312 ([.ro (.sl (.sl (.pr si .bool))) [.slice none 0 0] ([]:List (List (Int×Bool))),.box g213 108 [.func (.func 80) #[] #[pg g3,pg g64]],.box g3 68 [.slice (some ad32) c.length d],.box g64 105 [iv x30.1.1,iv x30.1.2.1,iv x30.1.2.2,iv x30.2.1.1,iv x30.2.1.2.1,iv x30.2.1.2.2,iv x30.2.2.1,iv x30.2.2.2],.ro (.sl (.pr (.pr si (.pr si si)) (.pr (.pr si (.pr si si)) (.pr si si)))) [.slice (some ad32) c.length d] c,.own 73 .raw (.slice (some ad221) (((List.replicate (c.length:Int).toNat (Value.slice none 0 0))).length) c10) l]++(rowsF 107 (.pr si .bool) l (x.set p.toNat y233)++([]:List Fact))):=hC
 obtain rfl:=os hb
 refine Wc.ret (hKR _ _ ?_)
 refine ⟨_,res2 results53 (tV (.slice none 0 0) rfl) (tV (.bool false) rfl),_,rfl,none,0,0,rfl,hC.sE [0]⟩
 replace hb:=tf hq315 hb
 refine Wc.skip (hK263 _ _ ?_)
 refine rg<|lp _ (pu_move e13) ?_
 obtain ⟨z318,h319,hb⟩:=bd hb
 refine lp (iv z318) (pu_addc (a:=G) (b:=1) rfl rfl h319)<|lp (iv z318) (pu_assign rfl)<|ln ?_
 replace hC:=hC.selT [3,0,1,2,4,5] (by decide)
 replace hC:=Cx.putOld hC hN238 hv255 (get_some h249).2
 replace hC:Cx (fun _=>False) O0 w w312 ([.box g213 108 [.func (.func 80) #[] #[pg g3,pg g64]],.box g3 68 [.slice (some ad32) c.length d],.box g64 105 [iv x30.1.1,iv x30.1.2.1,iv x30.1.2.2,iv x30.2.1.1,iv x30.2.1.2.1,iv x30.2.1.2.2,iv x30.2.2.1,iv x30.2.2.2],.ro (.sl (.pr (.pr si (.pr si si)) (.pr (.pr si (.pr si si)) (.pr si si)))) [.slice (some ad32) c.length d] c,.own 73 .raw (.slice (some ad221) (((List.replicate (c.length:Int).toNat (Value.slice none 0 0))).length) c10) l]++(rowsF 107 (.pr si .bool) l (x.set p.toNat y233)++([]:List Fact))):=hC
 obtain rfl:=os hb
 exact hK241 m242' _ _ (Nat.lt_succ_self _) ⟨z318,e1,e2,e3,e4,e5,e6,e11,e12,rfl,e17,e18,e19,e20,e24,e25,e26,(chk_rng h319),hC.selT [1,3,4,2,0] (by decide),lN hl4⟩
 replace hb:=tf hq262 hb
 refine Wc.exit rfl ?_
 replace hC:=hC.selT [0,1,2,3,4,5] (by decide)
 replace hC:=Cx.putOld hC hN238 hv255 (get_some h249).2
 replace hC:Cx (fun _=>False) O0 w w243 ([.box g3 68 [.slice (some ad32) c.length d],.ro (.sl (.pr (.pr si (.pr si si)) (.pr (.pr si (.pr si si)) (.pr si si)))) [.slice (some ad32) c.length d] c,.own 73 .raw (.slice (some ad221) (((List.replicate (c.length:Int).toNat (Value.slice none 0 0))).length) c10) l,.box g64 105 [iv x30.1.1,iv x30.1.2.1,iv x30.1.2.2,iv x30.2.1.1,iv x30.2.1.2.1,iv x30.2.1.2.2,iv x30.2.2.1,iv x30.2.2.2],.box g213 108 [.func (.func 80) #[] #[pg g3,pg g64]]]++(rowsF 107 (.pr si .bool) l (x.set p.toNat y233)++([]:List Fact))):=hC
 obtain rfl:=os hb
 obtain rfl:=(lX hl4).symm
 exact hK240 _ _ ⟨G,e1,e2,e3,e4,e5,e6,e11,e12,e13,e17,e18,e19,e20,e24,e25,e26,P,hC.selT [0,1,2,3,4] (by decide),hbK4⟩
 clear hb hC hl4
 rintro E321 w320 ⟨G,e1,e2,e3,e4,e5,e6,e11,e12,e13,e17,e18,e19,e20,e24,e25,e26,P,hC,hb⟩
 refine hK28 _ _<|rg ?_
 replace hC:Cx (fun _=>False) O0 w w320 ([.box g3 68 [.slice (some ad32) c.length d],.ro (.sl (.pr (.pr si (.pr si si)) (.pr (.pr si (.pr si si)) (.pr si si)))) [.slice (some ad32) c.length d] c,.own 73 .raw (.slice (some ad221) (((List.replicate (c.length:Int).toNat (Value.slice none 0 0))).length) c10) l,.box g64 105 [iv x30.1.1,iv x30.1.2.1,iv x30.1.2.2,iv x30.2.1.1,iv x30.2.1.2.1,iv x30.2.1.2.2,iv x30.2.2.1,iv x30.2.2.2],.box g213 108 [.func (.func 80) #[] #[pg g3,pg g64]]]++(rowsF 107 (.pr si .bool) l (x.set p.toNat y233)++([]:List Fact))):=hC
 obtain ⟨z322,h323,hb⟩:=bd hb
 refine lp (iv z322) (pu_addc (a:=p) (b:=1) e19 rfl h323)<|lp (iv z322) (pu_move rfl)<|ln ?_
 obtain rfl:=os hb
 exact hK20 m21' _ _ (Nat.lt_succ_self _) ⟨z322,(x.set p.toNat y233),l,e1,e2,e3,e4,e17,e18,rfl,(chk_rng h323),hN238,hC.selT [0,1,2] (by decide),lN hl0⟩
 replace hb:=tf hq27 hb
 refine Wc.exit rfl ?_
 obtain rfl:=os hb
 obtain rfl:=(lX hl0).symm
 exact hK19 _ _ ⟨p,D,z,e2,e3,e4,N,H,hC.selT [2] (by decide),hbK0⟩
 clear hb hC hl0
 rintro E325 w324 ⟨p,D,z,e2,e3,e4,N,H,hC,hb⟩
 refine hK15 _ _<|Wc.seq fun _ hK326=>rg ?_
 replace hC:Cx (fun _=>False) O0 w w324 ([.own 73 .raw (.slice A9 (((List.replicate (c.length:Int).toNat (Value.slice none 0 0))).length) c10) z]++(rowsF 107 (.pr si .bool) z D++([]:List Fact))):=hC
 refine lp _ (pu_move e4)<|lp (.slice A9 (((List.replicate (c.length:Int).toNat (Value.slice none 0 0))).length) c10) (pu_assign rfl)<|lp (.bool true) (pu_assign rfl)<|ln (hK326 _ _ ?_)
 replace hC:=hC.selT [0] (by decide)
 replace hC:=Cx.freezeR hC H
 replace hC:Cx (fun _=>False) O0 w w324 ([.ro (.sl (.sl (.pr si .bool))) [.slice A9 (((List.replicate (c.length:Int).toNat (Value.slice none 0 0))).length) c10] D]++([]:List Fact)):=hC
 obtain rfl:=os hb
 refine Wc.ret (hKR _ _ ?_)
 refine ⟨_,res2 results53 (tV (.slice A9 (((List.replicate (c.length:Int).toNat (Value.slice none 0 0))).length) c10) rfl) (tV (.bool true) rfl),_,rfl,A9,((List.replicate (c.length:Int).toNat (Value.slice none 0 0))).length,c10,rfl,hC.sE [0]⟩
end Go.Proofs.Yteajmbanlohncaa
