import Derived.Test.YteajmbanlohncaaS
import Derived.Test.YteajmbanlohncaaG14
set_option linter.unusedVariables false
set_option linter.unusedSimpArgs false
namespace Go.Proofs.Yteajmbanlohncaa
open Ev Try
set_option maxRecDepth 100000
set_option maxHeartbeats 4000000
theorem ref02_Diagram_ok (n:Nat) {w:World} {O0:List Nat} (hO: ∀k∈O0,k<w.heap.size) {K:Option Addr} {N D:Nat} {f:List (List (Int×Bool))} (P:Rep O0 w (.sl (.sl (.pr si .bool))) [.slice K N D] f) {y:Option Addr} {Q z:Nat} {c:List Int} (R:Rep O0 w (.sl si) [.slice y Q z] c) {d:Int} (U:I64 d) {r:(List Int)×(List Int)×Int} (hb:F.ref02_Diagram n f c d=some r):
    Calls prog 22 #[.agg #[.slice K N D,.slice y Q z,iv d]] w fun e w'=> ∃v,e=.returned v∧∃(A0:Option Addr) (m0 c0:Nat) (A1:Option Addr) (m1 c1:Nat),v=.agg #[.slice A0 m0 c0,.slice A1 m1 c1,iv r.2.2]∧I64 r.2.2∧Cx (fun _=>False) O0 w w' [.own 3 si (.slice A0 m0 c0) r.1,.own 3 si (.slice A1 m1 c1) r.2.1]:=by
 unfold F.ref02_Diagram at hb
 have hC:=Cx.start hO
 replace hC:=hC.arg rfl P
 replace hC:=hC.arg rfl R
 clear hO
 obtain ⟨rfl,a0,a1⟩:=P.sl_len
 obtain ⟨rfl,a2,a3⟩:=R.sl_len
 refine calls_of_Wc func22 rfl (by rw [ntmps22]; exact nb rfl) fun KR hKR=>?_
 refine Wc.seq fun _ hK3=>rg<|lex.op (hC.box (cs:=[.slice K f.length D,.slice y c.length z,iv d]) rfl rfl) ?_
 rintro _ w5 ⟨g4,rfl,hC,hF,-⟩
 refine lex.op (hC.alloc (cs:=[.slice none 0 0,.slice none 0 0,iv 0]) zeroValue32 rfl) ?_
 rintro _ w8 ⟨g7,rfl,hC,hF,-⟩
 refine ln (hK3 _ _ ?_)
 refine Wc.seqJ (fun E wv=> ∃(gP3:Nat) (l:List Int) (p:List Int) (q:Option Addr) (L x:Nat) (o:Option Addr) (M g:Nat),E 1=pg g4∧E 2=pg g7∧E 3=pg gP3∧Cx (fun _=>False) O0 w wv [.box g4 39 [.slice K f.length D,.slice y c.length z,iv d],.ro (.sl (.sl (.pr si .bool))) [.slice K f.length D] f,.ro (.sl si) [.slice y c.length z] c,.box g7 32 [.slice none 0 0,.slice none 0 0,iv 0],.box gP3 32 [.slice q L x,.slice o M g,iv d],.own 3 si (.slice q L x) l,.own 3 si (.slice o M g) p]∧F.ref02_Diagram_j0 n f c d l p=some r) (fun _ hK10=>?_) ?_
 refine Wc.regionPlan [13,16,21] (frm [13,16,21] ([]:List Fact) ([]:List Fact)) (chainP [1,2,4,5,6,7,9,10] (.alt (chainP [0] (.alt (chainP [3] (.alt (chainP [8] (chainP [11,12,13] .done)) (chainP [12] (chainP [8,11,13] .done)))) (.alt (chainP [8] (.alt (chainP [3] (chainP [11,12,13] .done)) (chainP [12] (chainP [3,11,13] .done)))) (chainP [12] (.alt (chainP [3] (chainP [8,11,13] .done)) (chainP [8] (chainP [3,11,13] .done))))))) (.alt (chainP [8] (.alt (chainP [0] (.alt (chainP [3] (chainP [11,12,13] .done)) (chainP [12] (chainP [3,11,13] .done)))) (chainP [12] (chainP [0,3,11,13] .done)))) (chainP [12] (.alt (chainP [0] (.alt (chainP [3] (chainP [8,11,13] .done)) (chainP [8] (chainP [3,11,13] .done)))) (chainP [8] (chainP [0,3,11,13] .done))))))) (fun _=>rfl) mixed (by decide+kernel) (by decide+kernel) fun w12 hw11=>?_
 replace hC:=hC.step (Fr.of_drew hw11)
 have hM:=Fr.refl (fun k=>k∈blocks ([]:List Fact)) w12
 clear hw11
 have hS:=hC
 have hD:Fr (fun k=>k∈blocks (([]:List Fact)++([]:List Fact))) w12 w12:=hM.wide
 refine mixPE_chain ?_
 refine mp (.pointer (some ((⟨g4,0,none⟩:Addr).add 1))) (pu_field (sz:=1) underlying39 rfl sizeOf30 (by decide) rfl rfl)<|mixE.steady hD (v:=.slice y c.length z) (fun _ hF=>ld_fld (hS.bx2 (i:=1) rfl [] (by decide) hF) isAgg30 rfl rfl)<|mp (.pointer (some ((⟨g4,0,none⟩:Addr).add 1))) (pu_field (sz:=1) underlying39 rfl sizeOf30 (by decide) rfl rfl)<|mixE.steady hD (v:=.slice y c.length z) (fun _ hF=>ld_fld (hS.bx2 (i:=1) rfl [] (by decide) hF) isAgg30 rfl rfl)<|mp (iv (c.length:Int)) (pu_len (A:=y) (n:=c.length) (m:=z) underlying30 rfl) ?_
 obtain ⟨z13,h14,hb⟩:=bd hb
 refine mp (iv z13) (pu_mulc (a:=4) (b:=(c.length:Int)) rfl rfl h14)<|mp (.pointer (some ((⟨g4,0,none⟩:Addr).add 2))) (pu_field (sz:=1) underlying39 rfl sizeOf3 (by decide) rfl rfl)<|mixE.steady hD (v:=iv d) (fun _ hF=>ld_fld (hS.bx2 (i:=1) rfl [] (by decide) hF) isAgg3 rfl rfl)<|mixE.nil ?_
 refine mixPE_alt ?_ ?_
 refine mixPE_chain ?_
 refine mixE.op hM (hC.lit (s:=si) (vs:=[]) (xs:=[]) underlying30 type3 rfl rfl (nb rfl) rfl rfl (by simp [Value.cells,Sh.n]) rfl (show Elems _ _ si ([]) ([]:List Int) from Elems.nil _ _ _)) ?_
 rintro _ w19 ⟨A15,c16,rfl,hl17,hc18,hC,hF,hN⟩
 have hBf20:=Beside.new hM hN
 have hUf20:=Beside.new (hM.wide (H:=([]:List Fact))) hN
 replace hM:=hM.none hF
 replace hD:=hM.wide (H:=([]:List Fact))
 refine ⟨hM,?_⟩
 clear hF hN
 refine mixE.nil ?_
 refine mixPE_alt ?_ ?_
 refine mixPE_chain ?_
 obtain ⟨u21,h22,hb⟩:=bd hb
 refine mixE.op hM (hC.app (i:=0) (s:=si) (xs:=([]:List Int)) (ys:=c) (m:=c.length) rfl underlying30 underlying30 type3 rfl rfl rfl (hC.srcr (i:=3) rfl) rfl rfl (by have:=lim_some h22; simp at this⊢ <;>omega) (by decide)) ?_
 rintro _ w27 ⟨A23,c24,rfl,hl25,hc26,hC,hF,hN⟩
 have hB:=hBf20
 replace hBf20:=hB.app hM hN
 replace hM:=hM.beside hB hF
 clear hB
 replace hD:=hM.wide (H:=([]:List Fact))
 refine ⟨hM,?_⟩
 clear hF hN
 refine mixE.nil ?_
 refine mixPE_alt ?_ ?_
 refine mixPE_chain ?_
 obtain ⟨u28,h29,hb⟩:=bd hb
 refine mixE.op hM (hC.make (s:=si) (n:=z13) underlying30 type3 rfl rfl rfl rfl rfl (pos_some h29).1 (pos_some h29).2 (by decide)) ?_
 rintro _ w34 ⟨A30,c31,rfl,hl32,hc33,hC,hF,hN⟩
 have hBf35:=Beside.new hM hN
 have hUf35:=Beside.new (hM.wide (H:=([]:List Fact))) hN
 replace hM:=hM.none hF
 replace hD:=hM.wide (H:=([]:List Fact))
 refine ⟨hM,?_⟩
 clear hF hN
 refine mixE.nil ?_
 refine mixPE_chain ?_
 refine mp (.agg #[.slice A23 ((([]:List Int)++c).length) c24,.slice A30 (((rZ z13)).length) c31,iv d]) (pu_builds (places:=[(0,1),(1,1),(2,1)]) (pv:=[(0,.slice A23 ((([]:List Int)++c).length) c24),(1,.slice A30 (((rZ z13)).length) c31),(2,iv d)]) type32 underlying32 rfl (mp_cons type30 (mp_cons type30 (mp_cons type3 mp_nil rfl rfl) rfl rfl) rfl rfl) rfl (by simp [Instr.fill,Value.cells]))<|mixE.op hM (hC.alloc (cs:=[.slice none 0 0,.slice none 0 0,iv 0]) zeroValue32 rfl) ?_
 rintro _ w37 ⟨g36,rfl,hC,hF,hG⟩
 have hUf38:g36<w12.heap.size→g36∈blocks (([]:List Fact)++([]:List Fact)):=fun h=>absurd (Nat.lt_of_lt_of_le h (Nat.le_trans hM.size hG)) (Nat.lt_irrefl _)
 have hVf38:g36<w12.heap.size→g36∈blocks ([]:List Fact):=fun h=>absurd (Nat.lt_of_lt_of_le h (Nat.le_trans hM.size hG)) (Nat.lt_irrefl _)
 clear hG
 replace hM:=hM.none hF
 replace hD:=hM.wide (H:=([]:List Fact))
 refine ⟨hM,?_⟩
 refine mixE.sk hD (hC.seta (i:=0) (ds:=[.slice A23 ((([]:List Int)++c).length) c24,.slice A30 (((rZ z13)).length) c31,iv d]) rfl type32 rfl rfl rfl rfl rfl) ?_
 rintro w39 ⟨hC,hF⟩
 replace hD:=hD.besideG hUf38 hF
 replace hM:=hM.besideG hVf38 hF
 clear hF
 refine ⟨hD,?_⟩
 refine mixE.nil ?_
 clear hS hM
 clear hD
 exact hK10 _ _ ⟨g36,(([]:List Int)++c),(rZ z13),A23,(([]:List Int)++c).length,c24,A30,((rZ z13)).length,c31,rfl,rfl,rfl,hC.sE [4,6,5,3,0,2,1],hb⟩
 refine mixPE_chain ?_
 refine mixE.op hM (hC.alloc (cs:=[.slice none 0 0,.slice none 0 0,iv 0]) zeroValue32 rfl) ?_
 rintro _ w41 ⟨g40,rfl,hC,hF,hG⟩
 have hUf42:g40<w12.heap.size→g40∈blocks (([]:List Fact)++([]:List Fact)):=fun h=>absurd (Nat.lt_of_lt_of_le h (Nat.le_trans hM.size hG)) (Nat.lt_irrefl _)
 have hVf42:g40<w12.heap.size→g40∈blocks ([]:List Fact):=fun h=>absurd (Nat.lt_of_lt_of_le h (Nat.le_trans hM.size hG)) (Nat.lt_irrefl _)
 clear hG
 replace hM:=hM.none hF
 replace hD:=hM.wide (H:=([]:List Fact))
 refine ⟨hM,?_⟩
 refine mixE.nil ?_
 refine mixPE_chain ?_
 obtain ⟨u28,h44,hb⟩:=bd hb
 refine mixE.op hM (hC.make (s:=si) (n:=z13) underlying30 type3 rfl rfl rfl rfl rfl (pos_some h44).1 (pos_some h44).2 (by decide)) ?_
 rintro _ w49 ⟨A45,c46,rfl,hl47,hc48,hC,hF,hN⟩
 have hBf50:=Beside.new hM hN
 have hUf50:=Beside.new (hM.wide (H:=([]:List Fact))) hN
 replace hM:=hM.none hF
 replace hD:=hM.wide (H:=([]:List Fact))
 refine ⟨hM,?_⟩
 clear hF hN
 refine mp (.agg #[.slice A23 ((([]:List Int)++c).length) c24,.slice A45 (((rZ z13)).length) c46,iv d]) (pu_builds (places:=[(0,1),(1,1),(2,1)]) (pv:=[(0,.slice A23 ((([]:List Int)++c).length) c24),(1,.slice A45 (((rZ z13)).length) c46),(2,iv d)]) type32 underlying32 rfl (mp_cons type30 (mp_cons type30 (mp_cons type3 mp_nil rfl rfl) rfl rfl) rfl rfl) rfl (by simp [Instr.fill,Value.cells]))<|mixE.sk hD (hC.seta (i:=1) (ds:=[.slice A23 ((([]:List Int)++c).length) c24,.slice A45 (((rZ z13)).length) c46,iv d]) rfl type32 rfl rfl rfl rfl rfl) ?_
 rintro w51 ⟨hC,hF⟩
 replace hD:=hD.besideG hUf42 hF
 replace hM:=hM.besideG hVf42 hF
 clear hF
 refine ⟨hD,?_⟩
 refine mixE.nil ?_
 clear hS hM
 clear hD
 exact hK10 _ _ ⟨g40,(([]:List Int)++c),(rZ z13),A23,(([]:List Int)++c).length,c24,A45,((rZ z13)).length,c46,rfl,rfl,rfl,hC.sE [4,6,5,3,1,2,0],hb⟩
 replace hb:=(gcomm0 _ _ _).symm.trans hb
 refine mixPE_alt ?_ ?_
 refine mixPE_chain ?_
 obtain ⟨u28,h53,hb⟩:=bd hb
 refine mixE.op hM (hC.make (s:=si) (n:=z13) underlying30 type3 rfl rfl rfl rfl rfl (pos_some h53).1 (pos_some h53).2 (by decide)) ?_
 rintro _ w58 ⟨A54,c55,rfl,hl56,hc57,hC,hF,hN⟩
 have hBf59:=Beside.new hM hN
 have hUf59:=Beside.new (hM.wide (H:=([]:List Fact))) hN
 replace hM:=hM.none hF
 replace hD:=hM.wide (H:=([]:List Fact))
 refine ⟨hM,?_⟩
 clear hF hN
 refine mixE.nil ?_
 refine mixPE_alt ?_ ?_
 refine mixPE_chain ?_
 obtain ⟨u21,h61,hb⟩:=bd hb
 refine mixE.op hM (hC.app (i:=1) (s:=si) (xs:=([]:List Int)) (ys:=c) (m:=c.length) rfl underlying30 underlying30 type3 rfl rfl rfl (hC.srcr (i:=4) rfl) rfl rfl (by have:=lim_some h61; simp at this⊢ <;>omega) (by decide)) ?_
 rintro _ w66 ⟨A62,c63,rfl,hl64,hc65,hC,hF,hN⟩
 have hB:=hBf20
 replace hBf20:=hB.app hM hN
 replace hM:=hM.beside hB hF
 clear hB
 replace hD:=hM.wide (H:=([]:List Fact))
 refine ⟨hM,?_⟩
 clear hF hN
 refine mixE.nil ?_
 refine mixPE_chain ?_
 refine mp (.agg #[.slice A62 ((([]:List Int)++c).length) c63,.slice A54 (((rZ z13)).length) c55,iv d]) (pu_builds (places:=[(0,1),(1,1),(2,1)]) (pv:=[(0,.slice A62 ((([]:List Int)++c).length) c63),(1,.slice A54 (((rZ z13)).length) c55),(2,iv d)]) type32 underlying32 rfl (mp_cons type30 (mp_cons type30 (mp_cons type3 mp_nil rfl rfl) rfl rfl) rfl rfl) rfl (by simp [Instr.fill,Value.cells]))<|mixE.op hM (hC.alloc (cs:=[.slice none 0 0,.slice none 0 0,iv 0]) zeroValue32 rfl) ?_
 rintro _ w68 ⟨g67,rfl,hC,hF,hG⟩
 have hUf69:g67<w12.heap.size→g67∈blocks (([]:List Fact)++([]:List Fact)):=fun h=>absurd (Nat.lt_of_lt_of_le h (Nat.le_trans hM.size hG)) (Nat.lt_irrefl _)
 have hVf69:g67<w12.heap.size→g67∈blocks ([]:List Fact):=fun h=>absurd (Nat.lt_of_lt_of_le h (Nat.le_trans hM.size hG)) (Nat.lt_irrefl _)
 clear hG
 replace hM:=hM.none hF
 replace hD:=hM.wide (H:=([]:List Fact))
 refine ⟨hM,?_⟩
 refine mixE.sk hD (hC.seta (i:=0) (ds:=[.slice A62 ((([]:List Int)++c).length) c63,.slice A54 (((rZ z13)).length) c55,iv d]) rfl type32 rfl rfl rfl rfl rfl) ?_
 rintro w70 ⟨hC,hF⟩
 replace hD:=hD.besideG hUf69 hF
 replace hM:=hM.besideG hVf69 hF
 clear hF
 refine ⟨hD,?_⟩
 refine mixE.nil ?_
 clear hS hM
 clear hD
 exact hK10 _ _ ⟨g67,(([]:List Int)++c),(rZ z13),A62,(([]:List Int)++c).length,c63,A54,((rZ z13)).length,c55,rfl,rfl,rfl,hC.sE [4,6,5,3,0,2,1],hb⟩
 refine mixPE_chain ?_
 refine mixE.op hM (hC.alloc (cs:=[.slice none 0 0,.slice none 0 0,iv 0]) zeroValue32 rfl) ?_
 rintro _ w72 ⟨g71,rfl,hC,hF,hG⟩
 have hUf73:g71<w12.heap.size→g71∈blocks (([]:List Fact)++([]:List Fact)):=fun h=>absurd (Nat.lt_of_lt_of_le h (Nat.le_trans hM.size hG)) (Nat.lt_irrefl _)
 have hVf73:g71<w12.heap.size→g71∈blocks ([]:List Fact):=fun h=>absurd (Nat.lt_of_lt_of_le h (Nat.le_trans hM.size hG)) (Nat.lt_irrefl _)
 clear hG
 replace hM:=hM.none hF
 replace hD:=hM.wide (H:=([]:List Fact))
 refine ⟨hM,?_⟩
 refine mixE.nil ?_
 refine mixPE_chain ?_
 obtain ⟨u21,h75,hb⟩:=bd hb
 refine mixE.op hM (hC.app (i:=2) (s:=si) (xs:=([]:List Int)) (ys:=c) (m:=c.length) rfl underlying30 underlying30 type3 rfl rfl rfl (hC.srcr (i:=5) rfl) rfl rfl (by have:=lim_some h75; simp at this⊢ <;>omega) (by decide)) ?_
 rintro _ w80 ⟨A76,c77,rfl,hl78,hc79,hC,hF,hN⟩
 have hB:=hBf20
 replace hBf20:=hB.app hM hN
 replace hM:=hM.beside hB hF
 clear hB
 replace hD:=hM.wide (H:=([]:List Fact))
 refine ⟨hM,?_⟩
 clear hF hN
 refine mp (.agg #[.slice A76 ((([]:List Int)++c).length) c77,.slice A54 (((rZ z13)).length) c55,iv d]) (pu_builds (places:=[(0,1),(1,1),(2,1)]) (pv:=[(0,.slice A76 ((([]:List Int)++c).length) c77),(1,.slice A54 (((rZ z13)).length) c55),(2,iv d)]) type32 underlying32 rfl (mp_cons type30 (mp_cons type30 (mp_cons type3 mp_nil rfl rfl) rfl rfl) rfl rfl) rfl (by simp [Instr.fill,Value.cells]))<|mixE.sk hD (hC.seta (i:=0) (ds:=[.slice A76 ((([]:List Int)++c).length) c77,.slice A54 (((rZ z13)).length) c55,iv d]) rfl type32 rfl rfl rfl rfl rfl) ?_
 rintro w81 ⟨hC,hF⟩
 replace hD:=hD.besideG hUf73 hF
 replace hM:=hM.besideG hVf73 hF
 clear hF
 refine ⟨hD,?_⟩
 refine mixE.nil ?_
 clear hS hM
 clear hD
 exact hK10 _ _ ⟨g71,(([]:List Int)++c),(rZ z13),A76,(([]:List Int)++c).length,c77,A54,((rZ z13)).length,c55,rfl,rfl,rfl,hC.sE [4,6,5,3,0,2,1],hb⟩
 replace hb:=(gcomm0 _ _ _).symm.trans hb
 refine mixPE_chain ?_
 refine mixE.op hM (hC.alloc (cs:=[.slice none 0 0,.slice none 0 0,iv 0]) zeroValue32 rfl) ?_
 rintro _ w83 ⟨g82,rfl,hC,hF,hG⟩
 have hUf84:g82<w12.heap.size→g82∈blocks (([]:List Fact)++([]:List Fact)):=fun h=>absurd (Nat.lt_of_lt_of_le h (Nat.le_trans hM.size hG)) (Nat.lt_irrefl _)
 have hVf84:g82<w12.heap.size→g82∈blocks ([]:List Fact):=fun h=>absurd (Nat.lt_of_lt_of_le h (Nat.le_trans hM.size hG)) (Nat.lt_irrefl _)
 clear hG
 replace hM:=hM.none hF
 replace hD:=hM.wide (H:=([]:List Fact))
 refine ⟨hM,?_⟩
 refine mixE.nil ?_
 refine mixPE_alt ?_ ?_
 refine mixPE_chain ?_
 obtain ⟨u21,h86,hb⟩:=bd hb
 refine mixE.op hM (hC.app (i:=1) (s:=si) (xs:=([]:List Int)) (ys:=c) (m:=c.length) rfl underlying30 underlying30 type3 rfl rfl rfl (hC.srcr (i:=4) rfl) rfl rfl (by have:=lim_some h86; simp at this⊢ <;>omega) (by decide)) ?_
 rintro _ w91 ⟨A87,c88,rfl,hl89,hc90,hC,hF,hN⟩
 have hB:=hBf20
 replace hBf20:=hB.app hM hN
 replace hM:=hM.beside hB hF
 clear hB
 replace hD:=hM.wide (H:=([]:List Fact))
 refine ⟨hM,?_⟩
 clear hF hN
 refine mixE.nil ?_
 refine mixPE_chain ?_
 obtain ⟨u28,h93,hb⟩:=bd hb
 refine mixE.op hM (hC.make (s:=si) (n:=z13) underlying30 type3 rfl rfl rfl rfl rfl (pos_some h93).1 (pos_some h93).2 (by decide)) ?_
 rintro _ w98 ⟨A94,c95,rfl,hl96,hc97,hC,hF,hN⟩
 have hBf99:=Beside.new hM hN
 have hUf99:=Beside.new (hM.wide (H:=([]:List Fact))) hN
 replace hM:=hM.none hF
 replace hD:=hM.wide (H:=([]:List Fact))
 refine ⟨hM,?_⟩
 clear hF hN
 refine mp (.agg #[.slice A87 ((([]:List Int)++c).length) c88,.slice A94 (((rZ z13)).length) c95,iv d]) (pu_builds (places:=[(0,1),(1,1),(2,1)]) (pv:=[(0,.slice A87 ((([]:List Int)++c).length) c88),(1,.slice A94 (((rZ z13)).length) c95),(2,iv d)]) type32 underlying32 rfl (mp_cons type30 (mp_cons type30 (mp_cons type3 mp_nil rfl rfl) rfl rfl) rfl rfl) rfl (by simp [Instr.fill,Value.cells]))<|mixE.sk hD (hC.seta (i:=1) (ds:=[.slice A87 ((([]:List Int)++c).length) c88,.slice A94 (((rZ z13)).length) c95,iv d]) rfl type32 rfl rfl rfl rfl rfl) ?_
 rintro w100 ⟨hC,hF⟩
 replace hD:=hD.besideG hUf84 hF
 replace hM:=hM.besideG hVf84 hF
 clear hF
 refine ⟨hD,?_⟩
 refine mixE.nil ?_
 clear hS hM
 clear hD
 exact hK10 _ _ ⟨g82,(([]:List Int)++c),(rZ z13),A87,(([]:List Int)++c).length,c88,A94,((rZ z13)).length,c95,rfl,rfl,rfl,hC.sE [4,6,5,3,1,2,0],hb⟩
 replace hb:=(gcomm0 _ _ _).symm.trans hb
 refine mixPE_chain ?_
 obtain ⟨u28,h102,hb⟩:=bd hb
 refine mixE.op hM (hC.make (s:=si) (n:=z13) underlying30 type3 rfl rfl rfl rfl rfl (pos_some h102).1 (pos_some h102).2 (by decide)) ?_
 rintro _ w107 ⟨A103,c104,rfl,hl105,hc106,hC,hF,hN⟩
 have hBf108:=Beside.new hM hN
 have hUf108:=Beside.new (hM.wide (H:=([]:List Fact))) hN
 replace hM:=hM.none hF
 replace hD:=hM.wide (H:=([]:List Fact))
 refine ⟨hM,?_⟩
 clear hF hN
 refine mixE.nil ?_
 refine mixPE_chain ?_
 obtain ⟨u21,h110,hb⟩:=bd hb
 refine mixE.op hM (hC.app (i:=2) (s:=si) (xs:=([]:List Int)) (ys:=c) (m:=c.length) rfl underlying30 underlying30 type3 rfl rfl rfl (hC.srcr (i:=5) rfl) rfl rfl (by have:=lim_some h110; simp at this⊢ <;>omega) (by decide)) ?_
 rintro _ w115 ⟨A111,c112,rfl,hl113,hc114,hC,hF,hN⟩
 have hB:=hBf20
 replace hBf20:=hB.app hM hN
 replace hM:=hM.beside hB hF
 clear hB
 replace hD:=hM.wide (H:=([]:List Fact))
 refine ⟨hM,?_⟩
 clear hF hN
 refine mp (.agg #[.slice A111 ((([]:List Int)++c).length) c112,.slice A103 (((rZ z13)).length) c104,iv d]) (pu_builds (places:=[(0,1),(1,1),(2,1)]) (pv:=[(0,.slice A111 ((([]:List Int)++c).length) c112),(1,.slice A103 (((rZ z13)).length) c104),(2,iv d)]) type32 underlying32 rfl (mp_cons type30 (mp_cons type30 (mp_cons type3 mp_nil rfl rfl) rfl rfl) rfl rfl) rfl (by simp [Instr.fill,Value.cells]))<|mixE.sk hD (hC.seta (i:=1) (ds:=[.slice A111 ((([]:List Int)++c).length) c112,.slice A103 (((rZ z13)).length) c104,iv d]) rfl type32 rfl rfl rfl rfl rfl) ?_
 rintro w116 ⟨hC,hF⟩
 replace hD:=hD.besideG hUf84 hF
 replace hM:=hM.besideG hVf84 hF
 clear hF
 refine ⟨hD,?_⟩
 refine mixE.nil ?_
 clear hS hM
 clear hD
 exact hK10 _ _ ⟨g82,(([]:List Int)++c),(rZ z13),A111,(([]:List Int)++c).length,c112,A103,((rZ z13)).length,c104,rfl,rfl,rfl,hC.sE [4,6,5,3,1,2,0],hb⟩
 replace hb:=(gcomm0 _ _ _).symm.trans hb
 refine mixPE_alt ?_ ?_
 refine mixPE_chain ?_
 obtain ⟨u28,h118,hb⟩:=bd hb
 refine mixE.op hM (hC.make (s:=si) (n:=z13) underlying30 type3 rfl rfl rfl rfl rfl (pos_some h118).1 (pos_some h118).2 (by decide)) ?_
 rintro _ w123 ⟨A119,c120,rfl,hl121,hc122,hC,hF,hN⟩
 have hBf124:=Beside.new hM hN
 have hUf124:=Beside.new (hM.wide (H:=([]:List Fact))) hN
 replace hM:=hM.none hF
 replace hD:=hM.wide (H:=([]:List Fact))
 refine ⟨hM,?_⟩
 clear hF hN
 refine mixE.nil ?_
 refine mixPE_alt ?_ ?_
 refine mixPE_chain ?_
 refine mixE.op hM (hC.lit (s:=si) (vs:=[]) (xs:=[]) underlying30 type3 rfl rfl (nb rfl) rfl rfl (by simp [Value.cells,Sh.n]) rfl (show Elems _ _ si ([]) ([]:List Int) from Elems.nil _ _ _)) ?_
 rintro _ w129 ⟨A125,c126,rfl,hl127,hc128,hC,hF,hN⟩
 have hBf130:=Beside.new hM hN
 have hUf130:=Beside.new (hM.wide (H:=([]:List Fact))) hN
 replace hM:=hM.none hF
 replace hD:=hM.wide (H:=([]:List Fact))
 refine ⟨hM,?_⟩
 clear hF hN
 refine mixE.nil ?_
 refine mixPE_alt ?_ ?_
 refine mixPE_chain ?_
 obtain ⟨u21,h132,hb⟩:=bd hb
 refine mixE.op hM (hC.app (i:=0) (s:=si) (xs:=([]:List Int)) (ys:=c) (m:=c.length) rfl underlying30 underlying30 type3 rfl rfl rfl (hC.srcr (i:=4) rfl) rfl rfl (by have:=lim_some h132; simp at this⊢ <;>omega) (by decide)) ?_
 rintro _ w137 ⟨A133,c134,rfl,hl135,hc136,hC,hF,hN⟩
 have hB:=hBf130
 replace hBf130:=hB.app hM hN
 replace hM:=hM.beside hB hF
 clear hB
 replace hD:=hM.wide (H:=([]:List Fact))
 refine ⟨hM,?_⟩
 clear hF hN
 refine mixE.nil ?_
 refine mixPE_chain ?_
 refine mp (.agg #[.slice A133 ((([]:List Int)++c).length) c134,.slice A119 (((rZ z13)).length) c120,iv d]) (pu_builds (places:=[(0,1),(1,1),(2,1)]) (pv:=[(0,.slice A133 ((([]:List Int)++c).length) c134),(1,.slice A119 (((rZ z13)).length) c120),(2,iv d)]) type32 underlying32 rfl (mp_cons type30 (mp_cons type30 (mp_cons type3 mp_nil rfl rfl) rfl rfl) rfl rfl) rfl (by simp [Instr.fill,Value.cells]))<|mixE.op hM (hC.alloc (cs:=[.slice none 0 0,.slice none 0 0,iv 0]) zeroValue32 rfl) ?_
 rintro _ w139 ⟨g138,rfl,hC,hF,hG⟩
 have hUf140:g138<w12.heap.size→g138∈blocks (([]:List Fact)++([]:List Fact)):=fun h=>absurd (Nat.lt_of_lt_of_le h (Nat.le_trans hM.size hG)) (Nat.lt_irrefl _)
 have hVf140:g138<w12.heap.size→g138∈blocks ([]:List Fact):=fun h=>absurd (Nat.lt_of_lt_of_le h (Nat.le_trans hM.size hG)) (Nat.lt_irrefl _)
 clear hG
 replace hM:=hM.none hF
 replace hD:=hM.wide (H:=([]:List Fact))
 refine ⟨hM,?_⟩
 refine mixE.sk hD (hC.seta (i:=0) (ds:=[.slice A133 ((([]:List Int)++c).length) c134,.slice A119 (((rZ z13)).length) c120,iv d]) rfl type32 rfl rfl rfl rfl rfl) ?_
 rintro w141 ⟨hC,hF⟩
 replace hD:=hD.besideG hUf140 hF
 replace hM:=hM.besideG hVf140 hF
 clear hF
 refine ⟨hD,?_⟩
 refine mixE.nil ?_
 clear hS hM
 clear hD
 exact hK10 _ _ ⟨g138,(([]:List Int)++c),(rZ z13),A133,(([]:List Int)++c).length,c134,A119,((rZ z13)).length,c120,rfl,rfl,rfl,hC.sE [4,6,5,3,0,1,2],hb⟩
 refine mixPE_chain ?_
 refine mixE.op hM (hC.alloc (cs:=[.slice none 0 0,.slice none 0 0,iv 0]) zeroValue32 rfl) ?_
 rintro _ w143 ⟨g142,rfl,hC,hF,hG⟩
 have hUf144:g142<w12.heap.size→g142∈blocks (([]:List Fact)++([]:List Fact)):=fun h=>absurd (Nat.lt_of_lt_of_le h (Nat.le_trans hM.size hG)) (Nat.lt_irrefl _)
 have hVf144:g142<w12.heap.size→g142∈blocks ([]:List Fact):=fun h=>absurd (Nat.lt_of_lt_of_le h (Nat.le_trans hM.size hG)) (Nat.lt_irrefl _)
 clear hG
 replace hM:=hM.none hF
 replace hD:=hM.wide (H:=([]:List Fact))
 refine ⟨hM,?_⟩
 refine mixE.nil ?_
 refine mixPE_chain ?_
 obtain ⟨u21,h146,hb⟩:=bd hb
 refine mixE.op hM (hC.app (i:=1) (s:=si) (xs:=([]:List Int)) (ys:=c) (m:=c.length) rfl underlying30 underlying30 type3 rfl rfl rfl (hC.srcr (i:=5) rfl) rfl rfl (by have:=lim_some h146; simp at this⊢ <;>omega) (by decide)) ?_
 rintro _ w151 ⟨A147,c148,rfl,hl149,hc150,hC,hF,hN⟩
 have hB:=hBf130
 replace hBf130:=hB.app hM hN
 replace hM:=hM.beside hB hF
 clear hB
 replace hD:=hM.wide (H:=([]:List Fact))
 refine ⟨hM,?_⟩
 clear hF hN
 refine mp (.agg #[.slice A147 ((([]:List Int)++c).length) c148,.slice A119 (((rZ z13)).length) c120,iv d]) (pu_builds (places:=[(0,1),(1,1),(2,1)]) (pv:=[(0,.slice A147 ((([]:List Int)++c).length) c148),(1,.slice A119 (((rZ z13)).length) c120),(2,iv d)]) type32 underlying32 rfl (mp_cons type30 (mp_cons type30 (mp_cons type3 mp_nil rfl rfl) rfl rfl) rfl rfl) rfl (by simp [Instr.fill,Value.cells]))<|mixE.sk hD (hC.seta (i:=0) (ds:=[.slice A147 ((([]:List Int)++c).length) c148,.slice A119 (((rZ z13)).length) c120,iv d]) rfl type32 rfl rfl rfl rfl rfl) ?_
 rintro w152 ⟨hC,hF⟩
 replace hD:=hD.besideG hUf144 hF
 replace hM:=hM.besideG hVf144 hF
 clear hF
 refine ⟨hD,?_⟩
 refine mixE.nil ?_
 clear hS hM
 clear hD
 exact hK10 _ _ ⟨g142,(([]:List Int)++c),(rZ z13),A147,(([]:List Int)++c).length,c148,A119,((rZ z13)).length,c120,rfl,rfl,rfl,hC.sE [4,6,5,3,0,1,2],hb⟩
 refine mixPE_chain ?_
 refine mixE.op hM (hC.alloc (cs:=[.slice none 0 0,.slice none 0 0,iv 0]) zeroValue32 rfl) ?_
 rintro _ w154 ⟨g153,rfl,hC,hF,hG⟩
 have hUf155:g153<w12.heap.size→g153∈blocks (([]:List Fact)++([]:List Fact)):=fun h=>absurd (Nat.lt_of_lt_of_le h (Nat.le_trans hM.size hG)) (Nat.lt_irrefl _)
 have hVf155:g153<w12.heap.size→g153∈blocks ([]:List Fact):=fun h=>absurd (Nat.lt_of_lt_of_le h (Nat.le_trans hM.size hG)) (Nat.lt_irrefl _)
 clear hG
 replace hM:=hM.none hF
 replace hD:=hM.wide (H:=([]:List Fact))
 refine ⟨hM,?_⟩
 refine mixE.nil ?_
 refine mixPE_chain ?_
 refine mixE.op hM (hC.lit (s:=si) (vs:=[]) (xs:=[]) underlying30 type3 rfl rfl (nb rfl) rfl rfl (by simp [Value.cells,Sh.n]) rfl (show Elems _ _ si ([]) ([]:List Int) from Elems.nil _ _ _)) ?_
 rintro _ w160 ⟨A156,c157,rfl,hl158,hc159,hC,hF,hN⟩
 have hBf161:=Beside.new hM hN
 have hUf161:=Beside.new (hM.wide (H:=([]:List Fact))) hN
 replace hM:=hM.none hF
 replace hD:=hM.wide (H:=([]:List Fact))
 refine ⟨hM,?_⟩
 clear hF hN
 obtain ⟨u21,h163,hb⟩:=bd hb
 refine mixE.op hM (hC.app (i:=0) (s:=si) (xs:=([]:List Int)) (ys:=c) (m:=c.length) rfl underlying30 underlying30 type3 rfl rfl rfl (hC.srcr (i:=5) rfl) rfl rfl (by have:=lim_some h163; simp at this⊢ <;>omega) (by decide)) ?_
 rintro _ w168 ⟨A164,c165,rfl,hl166,hc167,hC,hF,hN⟩
 have hB:=hBf161
 replace hBf161:=hB.app hM hN
 replace hM:=hM.beside hB hF
 clear hB
 replace hD:=hM.wide (H:=([]:List Fact))
 refine ⟨hM,?_⟩
 clear hF hN
 refine mp (.agg #[.slice A164 ((([]:List Int)++c).length) c165,.slice A119 (((rZ z13)).length) c120,iv d]) (pu_builds (places:=[(0,1),(1,1),(2,1)]) (pv:=[(0,.slice A164 ((([]:List Int)++c).length) c165),(1,.slice A119 (((rZ z13)).length) c120),(2,iv d)]) type32 underlying32 rfl (mp_cons type30 (mp_cons type30 (mp_cons type3 mp_nil rfl rfl) rfl rfl) rfl rfl) rfl (by simp [Instr.fill,Value.cells]))<|mixE.sk hD (hC.seta (i:=1) (ds:=[.slice A164 ((([]:List Int)++c).length) c165,.slice A119 (((rZ z13)).length) c120,iv d]) rfl type32 rfl rfl rfl rfl rfl) ?_
 rintro w169 ⟨hC,hF⟩
 replace hD:=hD.besideG hUf155 hF
 replace hM:=hM.besideG hVf155 hF
 clear hF
 refine ⟨hD,?_⟩
 refine mixE.nil ?_
 clear hS hM
 clear hD
 exact hK10 _ _ ⟨g153,(([]:List Int)++c),(rZ z13),A164,(([]:List Int)++c).length,c165,A119,((rZ z13)).length,c120,rfl,rfl,rfl,hC.sE [4,6,5,3,1,0,2],hb⟩
 replace hb:=(gcomm0 _ _ _).symm.trans hb
 refine mixPE_chain ?_
 refine mixE.op hM (hC.alloc (cs:=[.slice none 0 0,.slice none 0 0,iv 0]) zeroValue32 rfl) ?_
 rintro _ w171 ⟨g170,rfl,hC,hF,hG⟩
 have hUf172:g170<w12.heap.size→g170∈blocks (([]:List Fact)++([]:List Fact)):=fun h=>absurd (Nat.lt_of_lt_of_le h (Nat.le_trans hM.size hG)) (Nat.lt_irrefl _)
 have hVf172:g170<w12.heap.size→g170∈blocks ([]:List Fact):=fun h=>absurd (Nat.lt_of_lt_of_le h (Nat.le_trans hM.size hG)) (Nat.lt_irrefl _)
 clear hG
 replace hM:=hM.none hF
 replace hD:=hM.wide (H:=([]:List Fact))
 refine ⟨hM,?_⟩
 refine mixE.nil ?_
 refine mixPE_alt ?_ ?_
 refine mixPE_chain ?_
 refine mixE.op hM (hC.lit (s:=si) (vs:=[]) (xs:=[]) underlying30 type3 rfl rfl (nb rfl) rfl rfl (by simp [Value.cells,Sh.n]) rfl (show Elems _ _ si ([]) ([]:List Int) from Elems.nil _ _ _)) ?_
 rintro _ w177 ⟨A173,c174,rfl,hl175,hc176,hC,hF,hN⟩
 have hBf178:=Beside.new hM hN
 have hUf178:=Beside.new (hM.wide (H:=([]:List Fact))) hN
 replace hM:=hM.none hF
 replace hD:=hM.wide (H:=([]:List Fact))
 refine ⟨hM,?_⟩
 clear hF hN
 refine mixE.nil ?_
 refine mixPE_alt ?_ ?_
 refine mixPE_chain ?_
 obtain ⟨u21,h180,hb⟩:=bd hb
 refine mixE.op hM (hC.app (i:=0) (s:=si) (xs:=([]:List Int)) (ys:=c) (m:=c.length) rfl underlying30 underlying30 type3 rfl rfl rfl (hC.srcr (i:=4) rfl) rfl rfl (by have:=lim_some h180; simp at this⊢ <;>omega) (by decide)) ?_
 rintro _ w185 ⟨A181,c182,rfl,hl183,hc184,hC,hF,hN⟩
 have hB:=hBf178
 replace hBf178:=hB.app hM hN
 replace hM:=hM.beside hB hF
 clear hB
 replace hD:=hM.wide (H:=([]:List Fact))
 refine ⟨hM,?_⟩
 clear hF hN
 refine mixE.nil ?_
 refine mixPE_chain ?_
 obtain ⟨u28,h187,hb⟩:=bd hb
 refine mixE.op hM (hC.make (s:=si) (n:=z13) underlying30 type3 rfl rfl rfl rfl rfl (pos_some h187).1 (pos_some h187).2 (by decide)) ?_
 rintro _ w192 ⟨A188,c189,rfl,hl190,hc191,hC,hF,hN⟩
 have hBf193:=Beside.new hM hN
 have hUf193:=Beside.new (hM.wide (H:=([]:List Fact))) hN
 replace hM:=hM.none hF
 replace hD:=hM.wide (H:=([]:List Fact))
 refine ⟨hM,?_⟩
 clear hF hN
 refine mp (.agg #[.slice A181 ((([]:List Int)++c).length) c182,.slice A188 (((rZ z13)).length) c189,iv d]) (pu_builds (places:=[(0,1),(1,1),(2,1)]) (pv:=[(0,.slice A181 ((([]:List Int)++c).length) c182),(1,.slice A188 (((rZ z13)).length) c189),(2,iv d)]) type32 underlying32 rfl (mp_cons type30 (mp_cons type30 (mp_cons type3 mp_nil rfl rfl) rfl rfl) rfl rfl) rfl (by simp [Instr.fill,Value.cells]))<|mixE.sk hD (hC.seta (i:=2) (ds:=[.slice A181 ((([]:List Int)++c).length) c182,.slice A188 (((rZ z13)).length) c189,iv d]) rfl type32 rfl rfl rfl rfl rfl) ?_
 rintro w194 ⟨hC,hF⟩
 replace hD:=hD.besideG hUf172 hF
 replace hM:=hM.besideG hVf172 hF
 clear hF
 refine ⟨hD,?_⟩
 refine mixE.nil ?_
 clear hS hM
 clear hD
 exact hK10 _ _ ⟨g170,(([]:List Int)++c),(rZ z13),A181,(([]:List Int)++c).length,c182,A188,((rZ z13)).length,c189,rfl,rfl,rfl,hC.sE [4,6,5,3,2,1,0],hb⟩
 replace hb:=(gcomm0 _ _ _).symm.trans hb
 refine mixPE_chain ?_
 obtain ⟨u28,h196,hb⟩:=bd hb
 refine mixE.op hM (hC.make (s:=si) (n:=z13) underlying30 type3 rfl rfl rfl rfl rfl (pos_some h196).1 (pos_some h196).2 (by decide)) ?_
 rintro _ w201 ⟨A197,c198,rfl,hl199,hc200,hC,hF,hN⟩
 have hBf202:=Beside.new hM hN
 have hUf202:=Beside.new (hM.wide (H:=([]:List Fact))) hN
 replace hM:=hM.none hF
 replace hD:=hM.wide (H:=([]:List Fact))
 refine ⟨hM,?_⟩
 clear hF hN
 refine mixE.nil ?_
 refine mixPE_chain ?_
 obtain ⟨u21,h204,hb⟩:=bd hb
 refine mixE.op hM (hC.app (i:=1) (s:=si) (xs:=([]:List Int)) (ys:=c) (m:=c.length) rfl underlying30 underlying30 type3 rfl rfl rfl (hC.srcr (i:=5) rfl) rfl rfl (by have:=lim_some h204; simp at this⊢ <;>omega) (by decide)) ?_
 rintro _ w209 ⟨A205,c206,rfl,hl207,hc208,hC,hF,hN⟩
 have hB:=hBf178
 replace hBf178:=hB.app hM hN
 replace hM:=hM.beside hB hF
 clear hB
 replace hD:=hM.wide (H:=([]:List Fact))
 refine ⟨hM,?_⟩
 clear hF hN
 refine mp (.agg #[.slice A205 ((([]:List Int)++c).length) c206,.slice A197 (((rZ z13)).length) c198,iv d]) (pu_builds (places:=[(0,1),(1,1),(2,1)]) (pv:=[(0,.slice A205 ((([]:List Int)++c).length) c206),(1,.slice A197 (((rZ z13)).length) c198),(2,iv d)]) type32 underlying32 rfl (mp_cons type30 (mp_cons type30 (mp_cons type3 mp_nil rfl rfl) rfl rfl) rfl rfl) rfl (by simp [Instr.fill,Value.cells]))<|mixE.sk hD (hC.seta (i:=2) (ds:=[.slice A205 ((([]:List Int)++c).length) c206,.slice A197 (((rZ z13)).length) c198,iv d]) rfl type32 rfl rfl rfl rfl rfl) ?_
 rintro w210 ⟨hC,hF⟩
 replace hD:=hD.besideG hUf172 hF
 replace hM:=hM.besideG hVf172 hF
 clear hF
 refine ⟨hD,?_⟩
 refine mixE.nil ?_
 clear hS hM
 clear hD
 exact hK10 _ _ ⟨g170,(([]:List Int)++c),(rZ z13),A205,(([]:List Int)++c).length,c206,A197,((rZ z13)).length,c198,rfl,rfl,rfl,hC.sE [4,6,5,3,2,1,0],hb⟩
 replace hb:=(gcomm0 _ _ _).symm.trans hb
 refine mixPE_chain ?_
 obtain ⟨u28,h212,hb⟩:=bd hb
 refine mixE.op hM (hC.make (s:=si) (n:=z13) underlying30 type3 rfl rfl rfl rfl rfl (pos_some h212).1 (pos_some h212).2 (by decide)) ?_
 rintro _ w217 ⟨A213,c214,rfl,hl215,hc216,hC,hF,hN⟩
 have hBf218:=Beside.new hM hN
 have hUf218:=Beside.new (hM.wide (H:=([]:List Fact))) hN
 replace hM:=hM.none hF
 replace hD:=hM.wide (H:=([]:List Fact))
 refine ⟨hM,?_⟩
 clear hF hN
 refine mixE.nil ?_
 refine mixPE_chain ?_
 refine mixE.op hM (hC.lit (s:=si) (vs:=[]) (xs:=[]) underlying30 type3 rfl rfl (nb rfl) rfl rfl (by simp [Value.cells,Sh.n]) rfl (show Elems _ _ si ([]) ([]:List Int) from Elems.nil _ _ _)) ?_
 rintro _ w223 ⟨A219,c220,rfl,hl221,hc222,hC,hF,hN⟩
 have hBf224:=Beside.new hM hN
 have hUf224:=Beside.new (hM.wide (H:=([]:List Fact))) hN
 replace hM:=hM.none hF
 replace hD:=hM.wide (H:=([]:List Fact))
 refine ⟨hM,?_⟩
 clear hF hN
 obtain ⟨u21,h226,hb⟩:=bd hb
 refine mixE.op hM (hC.app (i:=0) (s:=si) (xs:=([]:List Int)) (ys:=c) (m:=c.length) rfl underlying30 underlying30 type3 rfl rfl rfl (hC.srcr (i:=5) rfl) rfl rfl (by have:=lim_some h226; simp at this⊢ <;>omega) (by decide)) ?_
 rintro _ w231 ⟨A227,c228,rfl,hl229,hc230,hC,hF,hN⟩
 have hB:=hBf224
 replace hBf224:=hB.app hM hN
 replace hM:=hM.beside hB hF
 clear hB
 replace hD:=hM.wide (H:=([]:List Fact))
 refine ⟨hM,?_⟩
 clear hF hN
 refine mp (.agg #[.slice A227 ((([]:List Int)++c).length) c228,.slice A213 (((rZ z13)).length) c214,iv d]) (pu_builds (places:=[(0,1),(1,1),(2,1)]) (pv:=[(0,.slice A227 ((([]:List Int)++c).length) c228),(1,.slice A213 (((rZ z13)).length) c214),(2,iv d)]) type32 underlying32 rfl (mp_cons type30 (mp_cons type30 (mp_cons type3 mp_nil rfl rfl) rfl rfl) rfl rfl) rfl (by simp [Instr.fill,Value.cells]))<|mixE.sk hD (hC.seta (i:=2) (ds:=[.slice A227 ((([]:List Int)++c).length) c228,.slice A213 (((rZ z13)).length) c214,iv d]) rfl type32 rfl rfl rfl rfl rfl) ?_
 rintro w232 ⟨hC,hF⟩
 replace hD:=hD.besideG hUf172 hF
 replace hM:=hM.besideG hVf172 hF
 clear hF
 refine ⟨hD,?_⟩
 refine mixE.nil ?_
 clear hS hM
 clear hD
 exact hK10 _ _ ⟨g170,(([]:List Int)++c),(rZ z13),A227,(([]:List Int)++c).length,c228,A213,((rZ z13)).length,c214,rfl,rfl,rfl,hC.sE [4,6,5,3,2,0,1],hb⟩
 clear hb hC
 rintro E234 w233 ⟨gP3,l,p,q,L,x,o,M,g,e1,e2,e3,hC,hb⟩
 unfold F.ref02_Diagram_j0 at hb
 obtain ⟨rfl,V,X⟩:=(hC.ow (i:=5) rfl).sl_len
 obtain ⟨rfl,Y,Z⟩:=(hC.ow (i:=6) rfl).sl_len
 refine Wc.seq fun _ hK235=>?_
 refine Wc.seq fun _ hK236=>rg<|lp (iv 0) (pu_assign rfl)<|ln (hK236 _ _ ?_)
 obtain ⟨o237,hl1,f237,hf237,hb⟩:=bn hb
 refine Wc.cut (fun E wv=> ∃(G:Int) (C:List Int),E 2=pg g7∧E 3=pg gP3∧I64 G∧Cx (fun _=>False) O0 w wv [.box g7 32 [.slice none 0 0,.slice none 0 0,iv 0],.box gP3 32 [.slice q l.length x,.slice o p.length g,iv d],.own 3 si (.slice q l.length x) l,.own 3 si (.slice o p.length g) C]∧f237 (G,C)=some r) (fun _ hK238=>?_) ?_
 refine Wc.block ?_
 refine Wc.loop (fun m E wv=> ∃(G:Int) (C:List Int),E 1=pg g4∧E 2=pg g7∧E 3=pg gP3∧E 4=iv G∧I64 G∧Cx (fun _=>False) O0 w wv [.box g4 39 [.slice K f.length D,.slice y c.length z,iv d],.ro (.sl (.sl (.pr si .bool))) [.slice K f.length D] f,.ro (.sl si) [.slice y c.length z] c,.box g7 32 [.slice none 0 0,.slice none 0 0,iv 0],.box gP3 32 [.slice q l.length x,.slice o p.length g,iv d],.own 3 si (.slice q l.length x) l,.own 3 si (.slice o p.length g) C]∧loopN m (F.ref02_Diagram_b1 n f c) (G,C)=some o237) n ⟨0,p,e1,e2,e3,rfl,(show I64 0 from by unfold I64; omega),hC.sE [0,1,2,3,4,5,6],hl1⟩ ?_
 have hbK1:=hb
 clear hb hC hl1
 rintro m240 E242 w241 ⟨G,C,e1,e2,e3,e4,S,hC,hl1⟩ K239 hK239
 obtain ⟨m240',o243,rfl,hb,hl1⟩:=loopN_some hl1
 unfold F.ref02_Diagram_b1 at hb
 refine Wc.seq fun _ hK244=>?_
 refine Wc.seq fun _ hK245=>rg<|lp _ (pu_move e4)<|lp (.pointer (some ((⟨g4,0,none⟩:Addr).add 0))) (pu_field (sz:=1) underlying39 rfl sizeOf37 (by decide) rfl e1)<|lv (.slice K f.length D) (ld_fld (hC.bx (i:=0) rfl) isAgg37 rfl rfl)<|lp (iv (f.length:Int)) (pu_len (A:=K) (n:=f.length) (m:=D) underlying37 rfl)<|lp (.bool (decide (G<(f.length:Int)))) (pu_lss (k:=.i64) (a:=G) (b:=(f.length:Int)) rfl rfl)<|ln (hK245 _ _ ?_)
 refine Wc.cond (t:=(decide (G<(f.length:Int)))) (rfl) (fun hq246=>?_) (fun hq246=>?_)
 replace hb:=tt hq246 hb
 refine Wc.skip (hK244 _ _ ?_)
 refine Wc.seq fun _ hK247=>?_
 refine Wc.block<|Wc.seq fun _ hK248=>rg<|lp (.pointer (some ((⟨g4,0,none⟩:Addr).add 0))) (pu_field (sz:=1) underlying39 rfl sizeOf37 (by decide) rfl e1)<|lv (.slice K f.length D) (ld_fld (hC.bx (i:=0) rfl) isAgg37 rfl rfl)<|lp _ (pu_move e4) ?_
 obtain ⟨x249,h250,hb⟩:=bd hb
 obtain ⟨ad251,cs252,hA,hc253,hr254⟩:=hC.elr (i:=1) rfl (get_some h250).2
 subst hA
 refine lp (.pointer (some (ad251.add (G.toNat*1)))) (pu_index (a:=G) underlying37 sizeOf87 rfl rfl (get_some h250).1) ?_
 have hR:=hr254
 obtain ⟨A255,c256,rfl,hl257,hc258,_⟩:=hr254
 replace hC:=hC.ro hR
 clear hR
 refine lv (.slice A255 x249.length c256) (ld_one isAgg87 rfl (hc253 0 _ rfl))<|lp (.slice A255 x249.length c256) (pu_assign rfl)<|ln (hK248 _ _ ?_)
 refine Wc.fresh fun E260 hE=>?_
 have e1:=cg hE 1 e1
 have e2:=cg hE 2 e2
 have e3:=cg hE 3 e3
 have e4:=cg hE 4 e4
 have e5:E260 5=.slice A255 x249.length c256:=cg hE 5 rfl
 have e27:E260 27=.bool (decide (G<(f.length:Int))):=cg hE 27 rfl
 clear hE
 refine Wc.seq fun _ hK261=>rg<|lp (iv 0) (pu_assign rfl)<|ln (hK261 _ _ ?_)
 obtain ⟨o262,hl2,hb⟩:=bd hb
 refine Wc.cut (fun E wv=> ∃(J:Int) (B:List Int),E 1=pg g4∧E 2=pg g7∧E 3=pg gP3∧E 4=iv G∧E 5=.slice A255 x249.length c256∧E 6=iv J∧E 27=.bool (decide (G<(f.length:Int)))∧I64 J∧Cx (fun _=>False) O0 w wv [.box g4 39 [.slice (some ad251) f.length D,.slice y c.length z,iv d],.ro (.sl (.sl (.pr si .bool))) [.slice (some ad251) f.length D] f,.ro (.sl si) [.slice y c.length z] c,.box g7 32 [.slice none 0 0,.slice none 0 0,iv 0],.box gP3 32 [.slice q l.length x,.slice o p.length g,iv d],.own 3 si (.slice q l.length x) l,.own 3 si (.slice o p.length g) B,.ro (.sl (.pr si .bool)) [.slice A255 x249.length c256] x249]∧((chk (G+1)).bind fun z336=>some (.inl (z336,B)):Option ((Int×(List Int))⊕((Int×(List Int)))))=some o243) (fun _ hK263=>?_) ?_
 refine Wc.block ?_
 refine Wc.loop (fun m E wv=> ∃(J:Int) (B:List Int),E 1=pg g4∧E 2=pg g7∧E 3=pg gP3∧E 4=iv G∧E 5=.slice A255 x249.length c256∧E 6=iv J∧E 27=.bool (decide (G<(f.length:Int)))∧I64 J∧Cx (fun _=>False) O0 w wv [.box g4 39 [.slice (some ad251) f.length D,.slice y c.length z,iv d],.ro (.sl (.sl (.pr si .bool))) [.slice (some ad251) f.length D] f,.ro (.sl si) [.slice y c.length z] c,.box g7 32 [.slice none 0 0,.slice none 0 0,iv 0],.box gP3 32 [.slice q l.length x,.slice o p.length g,iv d],.own 3 si (.slice q l.length x) l,.own 3 si (.slice o p.length g) B,.ro (.sl (.pr si .bool)) [.slice A255 x249.length c256] x249]∧loopN m (F.ref02_Diagram_b2 n c x249) (J,B)=some o262) n ⟨0,C,e1,e2,e3,e4,e5,rfl,e27,(show I64 0 from by unfold I64; omega),hC.sE [1,2,3,4,5,6,7,0],hl2⟩ ?_
 have hbK2:=hb
 clear hb hC hl2
 rintro m265 E267 w266 ⟨J,B,e1,e2,e3,e4,e5,e6,e27,T,hC,hl2⟩ K264 hK264
 obtain ⟨m265',o268,rfl,hb,hl2⟩:=loopN_some hl2
 unfold F.ref02_Diagram_b2 at hb
 refine Wc.seq fun _ hK269=>?_
 refine Wc.seq fun _ hK270=>rg<|lp _ (pu_move e6)<|lp _ (pu_move e5)<|lp (iv (x249.length:Int)) (pu_len (A:=A255) (n:=x249.length) (m:=c256) underlying87 rfl)<|lp (.bool (decide (J<(x249.length:Int)))) (pu_lss (k:=.i64) (a:=J) (b:=(x249.length:Int)) rfl rfl)<|ln (hK270 _ _ ?_)
 refine Wc.cond (t:=(decide (J<(x249.length:Int)))) (rfl) (fun hq271=>?_) (fun hq271=>?_)
 replace hb:=tt hq271 hb
 refine Wc.skip (hK269 _ _ ?_)
 refine Wc.seq fun _ hK272=>?_
 refine Wc.block ?_
 refine Wc.seq fun _ hK273=>?_
 refine Wc.regionMix [] (frm [] ([]:List Fact) ([]:List Fact)) (fun _=>rfl) mixed (by decide+kernel) (by decide+kernel) fun w275 hw274=>?_
 replace hC:=hC.step (Fr.of_drew hw274)
 have hM:=Fr.refl (fun k=>k∈blocks ([]:List Fact)) w275
 clear hw274
 have hS:=hC
 refine mp (.pointer (some ((⟨g4,0,none⟩:Addr).add 1))) (pu_field (sz:=1) underlying39 rfl sizeOf30 (by decide) rfl e1)<|mixE.load hM (v:=.slice y c.length z) (fun _ hF=>ld_fld (hS.bx2 (i:=0) rfl [] (by decide) hF) isAgg30 rfl rfl)<|mp (.slice A255 x249.length c256) (pu_move e5)<|mp (iv J) (pu_move e6) ?_
 obtain ⟨x276,h277,hb⟩:=bd hb
 obtain ⟨ad278,cs279,hA,ho282,hc280,hr281⟩:=hS.elr2 (i:=7) rfl (get_some h277).2 []
 subst hA
 refine mp (.pointer (some (ad278.add (J.toNat*2)))) (pu_index (a:=J) underlying87 sizeOf89 rfl rfl (get_some h277).1) ?_
 obtain ⟨k283,k284,rfl,hr285,hr286⟩:=hr281
 obtain ⟨rfl,hr285⟩:=hr285
 obtain rfl:=(show _=_ from hr286)
 refine mixE.load hM (v:=.agg #[iv x276.1,.bool x276.2]) (fun _ hF=>ld_agg isAgg89 sizeOf89 rfl rfl (fun j u hu=>hF.cell (hc280 j u hu) (off2 ho282))) ?_
 obtain ⟨y287,h288,hb⟩:=bd hb
 refine mixE.cl hM (⟨_,_,op_call (vs:=[.slice y c.length z,.agg #[iv x276.1,.bool x276.2]]) call63 rfl rfl rfl,ref02_ends_ok n hC.lt (hC.rd (i:=2) rfl) (wrap_I64 hr285) h288⟩) ?_
 rintro _ w291 ⟨rfl,hr289,hr290,hK⟩
 replace hM:=hM.none hK.fr
 refine ⟨hM,?_⟩
 replace hC:=hC.merge hK
 clear hK
 refine mp (.tuple #[iv y287.1,iv y287.2]) (pu_move rfl)<|mp (iv y287.1) (pu_extract rfl rfl)<|mp (iv y287.2) (pu_extract rfl rfl)<|mp (iv y287.1) (pu_assign rfl)<|mp (iv y287.2) (pu_assign rfl)<|mixE.nil ?_
 clear hS hM
 refine hK273 _ _<|Wc.fresh fun E292 hE=>?_
 have e1:=cg hE 1 e1
 have e2:=cg hE 2 e2
 have e3:=cg hE 3 e3
 have e4:=cg hE 4 e4
 have e5:=cg hE 5 e5
 have e6:=cg hE 6 e6
 have e7:E292 7=iv y287.1:=cg hE 7 rfl
 have e27:=cg hE 27 e27
 have e38:E292 38=.bool (decide (J<(x249.length:Int))):=cg hE 38 rfl
 clear hE
 refine Wc.seq fun _ hK293=>?_
 refine Wc.regionMix [] (frm [] ([]:List Fact) ([]:List Fact)) (fun _=>rfl) mixed (by decide+kernel) (by decide+kernel) fun w295 hw294=>?_
 replace hC:=hC.step (Fr.of_drew hw294)
 have hM:=Fr.refl (fun k=>k∈blocks ([]:List Fact)) w295
 clear hw294
 have hS:=hC
 refine mp (.pointer (some ((⟨g4,0,none⟩:Addr).add 1))) (pu_field (sz:=1) underlying39 rfl sizeOf30 (by decide) rfl e1)<|mixE.load hM (v:=.slice y c.length z) (fun _ hF=>ld_fld (hS.bx2 (i:=0) rfl [] (by decide) hF) isAgg30 rfl rfl)<|mp (.slice (some ad278) x249.length c256) (pu_move e5)<|mp (iv J) (pu_move e6) ?_
 obtain ⟨z296,h297,hb⟩:=bd hb
 refine mp (iv z296) (pu_addc (a:=J) (b:=1) rfl rfl h297)<|mp (.slice (some ad278) x249.length c256) (pu_move e5)<|mp (iv (x249.length:Int)) (pu_len (A:=(some ad278)) (n:=x249.length) (m:=c256) underlying87 rfl) ?_
 obtain ⟨u298,h299,hb⟩:=bd hb
 refine mp (iv (Int.tmod z296 (x249.length:Int))) (pu_remc (a:=z296) (b:=(x249.length:Int)) rfl rfl h299) ?_
 obtain ⟨x300,h301,hb⟩:=bd hb
 obtain ⟨ad302,cs303,hA,ho306,hc304,hr305⟩:=hS.elr2 (i:=7) rfl (get_some h301).2 []
 obtain rfl:=Option.some.inj hA
 refine mp (.pointer (some (ad278.add ((Int.tmod z296 (x249.length:Int)).toNat*2)))) (pu_index (a:=(Int.tmod z296 (x249.length:Int))) underlying87 sizeOf89 rfl rfl (get_some h301).1) ?_
 obtain ⟨k307,k308,rfl,hr309,hr310⟩:=hr305
 obtain ⟨rfl,hr309⟩:=hr309
 obtain rfl:=(show _=_ from hr310)
 refine mixE.load hM (v:=.agg #[iv x300.1,.bool x300.2]) (fun _ hF=>ld_agg isAgg89 sizeOf89 rfl rfl (fun j u hu=>hF.cell (hc304 j u hu) (off2 ho306))) ?_
 obtain ⟨y311,h312,hb⟩:=bd hb
 refine mixE.cl hM (⟨_,_,op_call (vs:=[.slice y c.length z,.agg #[iv x300.1,.bool x300.2]]) call63 rfl rfl rfl,ref02_ends_ok n hC.lt (hC.rd (i:=2) rfl) (wrap_I64 hr309) h312⟩) ?_
 rintro _ w315 ⟨rfl,hr313,hr314,hK⟩
 replace hM:=hM.none hK.fr
 refine ⟨hM,?_⟩
 replace hC:=hC.merge hK
 clear hK
 refine mp (.tuple #[iv y311.1,iv y311.2]) (pu_move rfl)<|mp (iv y311.1) (pu_extract rfl rfl)<|mp (iv y311.2) (pu_extract rfl rfl)<|mp (iv y311.1) (pu_assign rfl)<|mp (iv y311.2) (pu_assign rfl)<|mixE.nil ?_
 clear hS hM
 refine hK293 _ _<|Wc.fresh fun E316 hE=>?_
 have e1:=cg hE 1 e1
 have e2:=cg hE 2 e2
 have e3:=cg hE 3 e3
 have e4:=cg hE 4 e4
 have e5:=cg hE 5 e5
 have e6:=cg hE 6 e6
 have e7:=cg hE 7 e7
 have e10:E316 10=iv y311.2:=cg hE 10 rfl
 have e27:=cg hE 27 e27
 have e38:=cg hE 38 e38
 clear hE
 refine Wc.seq fun _ hK317=>rg<|lp (.pointer (some ((⟨gP3,0,none⟩:Addr).add 1))) (pu_field (sz:=1) underlying32 rfl sizeOf30 (by decide) rfl e3)<|lv (.slice o p.length g) (ld_fld (hC.bx (i:=4) rfl) isAgg30 rfl rfl)<|lp _ (pu_move e7)<|lp _ (pu_move e10) ?_
 obtain ⟨x318,h319,hb⟩:=bd hb
 obtain ⟨ad320,cs321,hA,hc322,hr323⟩:=hC.elo (i:=6) rfl (get_some h319).2
 subst hA
 refine lp (.pointer (some (ad320.add (y287.1.toNat*1)))) (pu_index (a:=y287.1) underlying30 sizeOf3 rfl rfl (by rw [(hC.ow (i:=6) rfl).sl_len.1]; exact (get_some h319).1))<|lex.sk (hC.put (i:=6) rfl rfl sizeOf3 (k:=y287.1.toNat) (a:=y311.2) (by have:=(get_some h319).1; simp at this⊢; omega) (⟨rfl,I64.wr hr314⟩) rfl rfl rfl) ?_
 rintro w324 ⟨hC,hF⟩
 refine ln (hK317 _ _ ?_)
 refine rg<|lp (.pointer (some ((⟨gP3,0,none⟩:Addr).add 1))) (pu_field (sz:=1) underlying32 rfl sizeOf30 (by decide) rfl e3)<|lv (.slice (some ad320) p.length g) (ld_fld (hC.bx (i:=4) rfl) isAgg30 rfl rfl)<|lp _ (pu_move e10)<|lp _ (pu_move e7) ?_
 obtain ⟨x325,h326,hb⟩:=bd hb
 obtain ⟨ad327,cs328,hA,hc329,hr330⟩:=hC.elo (i:=6) rfl (get_some h326).2
 obtain rfl:=Option.some.inj hA
 refine lp (.pointer (some (ad320.add (y311.2.toNat*1)))) (pu_index (a:=y311.2) underlying30 sizeOf3 rfl rfl (by rw [(hC.ow (i:=6) rfl).sl_len.1]; exact (get_some h326).1))<|lex.sk (hC.put (i:=6) rfl rfl sizeOf3 (k:=y311.2.toNat) (a:=y287.1) (by have:=(get_some h326).1; simp at this⊢; omega) (⟨rfl,I64.wr hr289⟩) rfl rfl rfl) ?_
 rintro w331 ⟨hC,hF⟩
 refine ln (hK272 _ _ ?_)
 refine rg<|lp _ (pu_move e6) ?_
 obtain ⟨z332,h333,hb⟩:=bd hb
 refine lp (iv z332) (pu_addc (a:=J) (b:=1) rfl rfl h333)<|lp (iv z332) (pu_assign rfl)<|ln ?_
 obtain rfl:=os hb
 exact hK264 m265' _ _ (Nat.lt_succ_self _) ⟨z332,((B.set y287.1.toNat y311.2).set y311.2.toNat y287.1),e1,e2,e3,e4,e5,rfl,e27,(chk_rng h333),hC.sE [0,1,2,3,4,5,6,7],lN hl2⟩
 replace hb:=tf hq271 hb
 refine Wc.exit rfl ?_
 obtain rfl:=os hb
 obtain rfl:=(lX hl2).symm
 exact hK263 _ _ ⟨J,B,e1,e2,e3,e4,e5,e6,e27,T,hC.sE [0,1,2,3,4,5,6,7],hbK2⟩
 clear hb hC hl2
 rintro E335 w334 ⟨J,B,e1,e2,e3,e4,e5,e6,e27,T,hC,hb⟩
 refine hK247 _ _<|rg<|lp _ (pu_move e4) ?_
 obtain ⟨z336,h337,hb⟩:=bd hb
 refine lp (iv z336) (pu_addc (a:=G) (b:=1) rfl rfl h337)<|lp (iv z336) (pu_assign rfl)<|ln ?_
 obtain rfl:=os hb
 exact hK239 m240' _ _ (Nat.lt_succ_self _) ⟨z336,B,e1,e2,e3,rfl,(chk_rng h337),hC.sE [0,1,2,3,4,5,6],lN hl1⟩
 replace hb:=tf hq246 hb
 refine Wc.exit rfl ?_
 obtain rfl:=os hb
 obtain rfl:=(lX hl1).symm
 exact hK238 _ _ ⟨G,C,e2,e3,S,hC.sE [3,4,5,6],hbK1⟩
 clear hb hC hl1
 rintro E339 w338 ⟨G,C,e2,e3,S,hC,hb⟩
 subst hf237
 refine hK235 _ _<|Wc.seq fun _ hK340=>rg<|lv (.agg #[.slice q l.length x,.slice o p.length g,iv d]) (ld_blk (hC.bx (i:=1) rfl) isAgg32 sizeOf32 e3)<|lex.sk (hC.seta (i:=0) (ds:=[.slice q l.length x,.slice o p.length g,iv d]) rfl type32 rfl rfl rfl e2 rfl) ?_
 rintro w341 ⟨hC,hF⟩
 refine ln (hK340 _ _ ?_)
 obtain rfl:=os hb
 refine Wc.ret (hKR _ _ ?_)
 refine ⟨_,res1 results22 ⟨_,e2,loadVar_blk (hC.bx (i:=0) rfl) isAgg32 sizeOf32⟩,_,rfl,q,l.length,x,o,p.length,g,rfl,U,hC.sE [2,3]⟩
end Go.Proofs.Yteajmbanlohncaa
