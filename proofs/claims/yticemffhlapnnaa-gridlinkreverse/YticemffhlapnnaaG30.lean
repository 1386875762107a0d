import Derived.Test.YticemffhlapnnaaS
import Derived.Test.YticemffhlapnnaaG19
import Derived.Test.YticemffhlapnnaaG20
set_option linter.unusedVariables false
set_option linter.unusedSimpArgs false
namespace Go.Proofs.Yticemffhlapnnaa
open Ev Try
set_option maxRecDepth 100000
set_option maxHeartbeats 4000000
theorem mirror_Reverse_c2_ok (n:Nat) {w:World} {O0:List Nat} (hO: ∀k∈O0,k<w.heap.size) {a:Int} (b:I64 a) {r:Int} (hb:F.mirror_Reverse_c2 n a=some r):
    Calls prog 61 #[iv a] w fun e w'=> ∃v,e=.returned v∧v=iv r∧I64 r∧Cx (fun _=>False) O0 w w' []:=by
 unfold F.mirror_Reverse_c2 at hb
 have hC:=Cx.start hO
 clear hO
 refine calls_of_Wc func61 rfl (by rw [ntmps61]; exact nb rfl) fun KR hKR=>?_
 refine Wc.seq fun _ hK1=>rg<|lp (iv 0) (pu_assign rfl)<|ln (hK1 _ _ ?_)
 refine Wc.seq fun _ hK2=>rg<|lp (iv 1) (pu_assign rfl)<|ln (hK2 _ _ ?_)
 obtain rfl:=os hb
 refine Wc.ret (hKR _ _ ?_)
 refine ⟨_,res1 results61 (tV (iv 1) rfl),_,rfl,rfl,(show I64 1 from by unfold I64; omega),hC.sE []⟩

theorem mirror_Reverse_c1_ok (n:Nat) {w:World} {O0:List Nat} (hO: ∀k∈O0,k<w.heap.size) {a:Int} (c:I64 a) {b:Int} (d:I64 b) {r:Int} (hb:F.mirror_Reverse_c1 n a b=some r):
    Calls prog 59 #[iv a,iv b] w fun e w'=> ∃v,e=.returned v∧v=iv r∧I64 r∧Cx (fun _=>False) O0 w w' []:=by
 unfold F.mirror_Reverse_c1 at hb
 have hC:=Cx.start hO
 clear hO
 refine calls_of_Wc func59 rfl (by rw [ntmps59]; exact nb rfl) fun KR hKR=>?_
 refine Wc.seq fun _ hK1=>rg<|lp (iv 0) (pu_assign rfl)<|ln (hK1 _ _ ?_)
 refine Wc.seq fun _ hK2=>rg<|lp (iv 2) (pu_assign rfl)<|ln (hK2 _ _ ?_)
 obtain rfl:=os hb
 refine Wc.ret (hKR _ _ ?_)
 refine ⟨_,res1 results59 (tV (iv 2) rfl),_,rfl,rfl,(show I64 2 from by unfold I64; omega),hC.sE []⟩

theorem mirror_move_c1_v2_ok (n:Nat) {w:World} {O0:List Nat} (hO: ∀k∈O0,k<w.heap.size) {c:Int} (f:I64 c) {d:Nat} (hio:Tk O0 w [.box d 80 [.func (.func 59) #[] #[]]]) {r:Int} (hb:F.mirror_move_c1_v2 n c=some r):
    Calls prog 83 #[iv c,pg d] w fun e w'=> ∃v,e=.returned v∧v=iv r∧I64 r∧Cx (fun k=>k∈blocks [.box d 80 [.func (.func 59) #[] #[]]]) O0 w w' [.box d 80 [.func (.func 59) #[] #[]]]:=by
 unfold F.mirror_move_c1_v2 at hb
 have hC:=Cx.startTk hO hio
 have hsub:=hio.2.2
 clear hO
 clear hio hsub
 obtain ⟨I,hI,hC⟩: ∃I:Nat→Prop,I=(fun k=>k∈blocks [.box d 80 [.func (.func 59) #[] #[]]])∧Cx I O0 w w ([.box d 80 [.func (.func 59) #[] #[]]]):=⟨_,rfl,hC⟩
 refine calls_of_Wc func83 rfl (by rw [ntmps83]; exact nb rfl) fun KR hKR=>?_
 refine Wc.seq fun _ hK2=>rg<|lp (iv 0) (pu_assign rfl)<|ln (hK2 _ _ ?_)
 refine Wc.seq fun _ hK3=>rg<|lp (iv c) (pu_move rfl)<|lv (.func (.func 59) #[] #[]) (ld_one isAgg80 rfl ((hC.bx (i:=0) rfl).cell (j:=0) rfl))<|lp (iv c) (pu_move rfl) ?_
 obtain ⟨u4,h5,hb⟩:=bd hb
 obtain ⟨z6,h7,hb⟩:=bd hb
 refine lp (iv z6) (pu_quoc (a:=c) (b:=4) rfl rfl h5 h7)<|lp (iv c) (pu_move rfl) ?_
 obtain ⟨u8,h9,hb⟩:=bd hb
 refine lp (iv (Int.tmod c 4)) (pu_remc (a:=c) (b:=4) rfl rfl h9) ?_
 obtain ⟨y10,h11,hb⟩:=bd hb
 refine lex.cl (⟨_,_,op_callv (vs:=[iv z6,iv (Int.tmod c 4)]) (ca:=#[]) call59 rfl rfl rfl,mirror_Reverse_c1_ok n hC.lt (chk_rng h7) (I64.rem f) h11⟩) ?_
 rintro _ w13 ⟨rfl,hr12,hK⟩
 replace hC:=hC.merge hK
 clear hK
 obtain ⟨y14,h15,hb⟩:=bd hb
 refine lex.cl (⟨_,_,op_call (vs:=[iv c,iv y10]) call75 rfl rfl rfl,diagram_Turn_ok n hC.lt f hr12 h15⟩) ?_
 rintro _ w17 ⟨rfl,hr16,hK⟩
 replace hC:=hC.merge hK
 clear hK
 refine lp (iv y14) (pu_assign rfl)<|ln (hK3 _ _ ?_)
 obtain rfl:=os hb
 subst hI
 refine Wc.ret (hKR _ _ ?_)
 refine ⟨_,res1 results83 (tV (iv y14) rfl),_,rfl,rfl,hr16,hC.sE [0]⟩

theorem mirror_move_mirror_Reverse_c1_mirror_Reverse_c2_ok (n:Nat) {w:World} {O0:List Nat} (hO: ∀k∈O0,k<w.heap.size) {C:Option Addr} {N D:Nat} {d:List Int} (P:Rep O0 w (.sl si) [.slice C N D] d) {B:Option Addr} {Q z:Nat} {c:List Int} (R:Rep O0 w (.sl si) [.slice B Q z] c) {p:Int} (U:I64 p) {r:(List Int)×(List Int)×Int} (hb:F.mirror_move_mirror_Reverse_c1_mirror_Reverse_c2 n d c p=some r):
    Calls prog 60 #[.agg #[.slice C N D,.slice B Q z,iv p],.func (.func 59) #[] #[],.func (.func 61) #[] #[]] w fun e w'=> ∃v,e=.returned v∧∃(A0:Option Addr) (m0 c0:Nat) (A1:Option Addr) (m1 c1:Nat),v=.agg #[.slice A0 m0 c0,.slice A1 m1 c1,iv r.2.2]∧I64 r.2.2∧Cx (fun _=>False) O0 w w' [.own 3 si (.slice A0 m0 c0) r.1,.own 3 si (.slice A1 m1 c1) r.2.1]:=by
 unfold F.mirror_move_mirror_Reverse_c1_mirror_Reverse_c2 at hb
 have hC:=Cx.start hO
 replace hC:=hC.arg rfl P
 replace hC:=hC.arg rfl R
 clear hO
 obtain ⟨rfl,a0,a1⟩:=P.sl_len
 obtain ⟨rfl,a2,a3⟩:=R.sl_len
 refine calls_of_Wc func60 rfl (by rw [ntmps60]; exact nb rfl) fun KR hKR=>?_
 refine Wc.seq fun _ hK3=>rg<|lex.op (hC.box (cs:=[.slice C d.length D,.slice B c.length z,iv p]) rfl rfl) ?_
 rintro _ w5 ⟨g4,rfl,hC,hF,-⟩
 refine lex.op (hC.box (cs:=[.func (.func 59) #[] #[]]) rfl rfl) ?_
 rintro _ w8 ⟨g7,rfl,hC,hF,-⟩
 refine lex.op (hC.alloc (cs:=[.slice none 0 0,.slice none 0 0,iv 0]) zeroValue28 rfl) ?_
 rintro _ w11 ⟨g10,rfl,hC,hF,-⟩
 refine ln (hK3 _ _ ?_)
 refine Wc.seq fun _ hK13=>rg<|lp (.func (.func 83) #[] #[pg g7]) (pu_funcc rfl)<|lp (.func (.func 83) #[] #[pg g7]) (pu_assign rfl)<|ln (hK13 _ _ ?_)
 refine Wc.seqJ (fun E wv=> ∃(gP8:Nat) (q:List Int) (j:List Int) (l:Option Addr) (J o:Nat) (f:Option Addr) (K g:Nat),E 2=.func (.func 61) #[] #[]∧E 3=pg g4∧E 6=pg g10∧E 7=.func (.func 83) #[] #[pg g7]∧E 8=pg gP8∧Cx (fun _=>False) O0 w wv [.box g4 28 [.slice C d.length D,.slice B c.length z,iv p],.ro (.sl si) [.slice C d.length D] d,.ro (.sl si) [.slice B c.length z] c,.box g10 28 [.slice none 0 0,.slice none 0 0,iv 0],.box g7 80 [.func (.func 59) #[] #[]],.box gP8 28 [.slice l J o,.slice f K g,iv p],.own 3 si (.slice l J o) q,.own 3 si (.slice f K g) j]∧F.mirror_move_mirror_Reverse_c1_mirror_Reverse_c2_j0 n d c p q j=some r) (fun _ hK14=>?_) ?_
 refine Wc.regionPlan [15,19,23] (frm [15,19,23] ([]:List Fact) ([]:List Fact)) (chainP [0,1,2,4,5,6,8,9] (.alt (chainP [3] (.alt (chainP [7] (chainP [10,11,12] .done)) (chainP [11] (chainP [7,10,12] .done)))) (.alt (chainP [7] (.alt (chainP [3] (chainP [10,11,12] .done)) (chainP [11] (chainP [3,10,12] .done)))) (chainP [11] (.alt (chainP [3] (chainP [7,10,12] .done)) (chainP [7] (chainP [3,10,12] .done))))))) (fun _=>rfl) mixed (by decide+kernel) (by decide+kernel) fun w16 hw15=>?_
 replace hC:=hC.step (Fr.of_drew hw15)
 have hM:=Fr.refl (fun k=>k∈blocks ([]:List Fact)) w16
 clear hw15
 have hS:=hC
 have hD:Fr (fun k=>k∈blocks (([]:List Fact)++([]:List Fact))) w16 w16:=hM.wide
 refine mixPE_chain ?_
 refine mp (.pointer (some ((⟨g4,0,none⟩:Addr).add 0))) (pu_field (sz:=1) underlying28 rfl sizeOf22 (by decide) rfl rfl)<|mixE.steady hD (v:=.slice C d.length D) (fun _ hF=>ld_fld (hS.bx2 (i:=2) rfl [] (by decide) hF) isAgg22 rfl rfl)<|mp (iv (d.length:Int)) (pu_len (A:=C) (n:=d.length) (m:=D) underlying22 rfl)<|mp (.pointer (some ((⟨g4,0,none⟩:Addr).add 1))) (pu_field (sz:=1) underlying28 rfl sizeOf22 (by decide) rfl rfl)<|mixE.steady hD (v:=.slice B c.length z) (fun _ hF=>ld_fld (hS.bx2 (i:=2) rfl [] (by decide) hF) isAgg22 rfl rfl)<|mp (iv (c.length:Int)) (pu_len (A:=B) (n:=c.length) (m:=z) underlying22 rfl)<|mp (.pointer (some ((⟨g4,0,none⟩:Addr).add 2))) (pu_field (sz:=1) underlying28 rfl sizeOf3 (by decide) rfl rfl)<|mixE.steady hD (v:=iv p) (fun _ hF=>ld_fld (hS.bx2 (i:=2) rfl [] (by decide) hF) isAgg3 rfl rfl)<|mixE.nil ?_
 refine mixPE_alt ?_ ?_
 refine mixPE_chain ?_
 obtain ⟨u17,h18,hb⟩:=bd hb
 refine mixE.op hM (hC.make (s:=si) (n:=(d.length:Int)) underlying22 type3 rfl rfl rfl rfl rfl (pos_some h18).1 (pos_some h18).2 (by decide)) ?_
 rintro _ w23 ⟨A19,c20,rfl,hl21,hc22,hC,hF,hN⟩
 have hBf24:=Beside.new hM hN
 have hUf24:=Beside.new (hM.wide (H:=([]:List Fact))) hN
 replace hM:=hM.none hF
 replace hD:=hM.wide (H:=([]:List Fact))
 refine ⟨hM,?_⟩
 clear hF hN
 refine mixE.nil ?_
 refine mixPE_alt ?_ ?_
 refine mixPE_chain ?_
 obtain ⟨u25,h26,hb⟩:=bd hb
 refine mixE.op hM (hC.make (s:=si) (n:=(c.length:Int)) underlying22 type3 rfl rfl rfl rfl rfl (pos_some h26).1 (pos_some h26).2 (by decide)) ?_
 rintro _ w31 ⟨A27,c28,rfl,hl29,hc30,hC,hF,hN⟩
 have hBf32:=Beside.new hM hN
 have hUf32:=Beside.new (hM.wide (H:=([]:List Fact))) hN
 replace hM:=hM.none hF
 replace hD:=hM.wide (H:=([]:List Fact))
 refine ⟨hM,?_⟩
 clear hF hN
 refine mixE.nil ?_
 refine mixPE_chain ?_
 refine mp (.agg #[.slice A19 (((rZ d.length)).length) c20,.slice A27 (((rZ c.length)).length) c28,iv p]) (pu_builds (places:=[(0,1),(1,1),(2,1)]) (pv:=[(0,.slice A19 (((rZ d.length)).length) c20),(1,.slice A27 (((rZ c.length)).length) c28),(2,iv p)]) type28 underlying28 rfl (mp_cons type22 (mp_cons type22 (mp_cons type3 mp_nil rfl rfl) rfl rfl) rfl rfl) rfl (by simp [Instr.fill,Value.cells]))<|mixE.op hM (hC.alloc (cs:=[.slice none 0 0,.slice none 0 0,iv 0]) zeroValue28 rfl) ?_
 rintro _ w34 ⟨g33,rfl,hC,hF,hG⟩
 have hUf35:g33<w16.heap.size→g33∈blocks (([]:List Fact)++([]:List Fact)):=fun h=>absurd (Nat.lt_of_lt_of_le h (Nat.le_trans hM.size hG)) (Nat.lt_irrefl _)
 have hVf35:g33<w16.heap.size→g33∈blocks ([]:List Fact):=fun h=>absurd (Nat.lt_of_lt_of_le h (Nat.le_trans hM.size hG)) (Nat.lt_irrefl _)
 clear hG
 replace hM:=hM.none hF
 replace hD:=hM.wide (H:=([]:List Fact))
 refine ⟨hM,?_⟩
 refine mixE.sk hD (hC.seta (i:=0) (ds:=[.slice A19 (((rZ d.length)).length) c20,.slice A27 (((rZ c.length)).length) c28,iv p]) rfl type28 rfl rfl rfl rfl rfl) ?_
 rintro w36 ⟨hC,hF⟩
 replace hD:=hD.besideG hUf35 hF
 replace hM:=hM.besideG hVf35 hF
 clear hF
 refine ⟨hD,?_⟩
 refine mixE.nil ?_
 clear hS hM
 clear hD
 exact hK14 _ _ ⟨g33,(rZ d.length),(rZ c.length),A19,((rZ d.length)).length,c20,A27,((rZ c.length)).length,c28,rfl,rfl,rfl,rfl,rfl,hC.sE [5,7,6,3,4,0,2,1],hb⟩
 refine mixPE_chain ?_
 refine mixE.op hM (hC.alloc (cs:=[.slice none 0 0,.slice none 0 0,iv 0]) zeroValue28 rfl) ?_
 rintro _ w38 ⟨g37,rfl,hC,hF,hG⟩
 have hUf39:g37<w16.heap.size→g37∈blocks (([]:List Fact)++([]:List Fact)):=fun h=>absurd (Nat.lt_of_lt_of_le h (Nat.le_trans hM.size hG)) (Nat.lt_irrefl _)
 have hVf39:g37<w16.heap.size→g37∈blocks ([]:List Fact):=fun h=>absurd (Nat.lt_of_lt_of_le h (Nat.le_trans hM.size hG)) (Nat.lt_irrefl _)
 clear hG
 replace hM:=hM.none hF
 replace hD:=hM.wide (H:=([]:List Fact))
 refine ⟨hM,?_⟩
 refine mixE.nil ?_
 refine mixPE_chain ?_
 obtain ⟨u25,h41,hb⟩:=bd hb
 refine mixE.op hM (hC.make (s:=si) (n:=(c.length:Int)) underlying22 type3 rfl rfl rfl rfl rfl (pos_some h41).1 (pos_some h41).2 (by decide)) ?_
 rintro _ w46 ⟨A42,c43,rfl,hl44,hc45,hC,hF,hN⟩
 have hBf47:=Beside.new hM hN
 have hUf47:=Beside.new (hM.wide (H:=([]:List Fact))) hN
 replace hM:=hM.none hF
 replace hD:=hM.wide (H:=([]:List Fact))
 refine ⟨hM,?_⟩
 clear hF hN
 refine mp (.agg #[.slice A19 (((rZ d.length)).length) c20,.slice A42 (((rZ c.length)).length) c43,iv p]) (pu_builds (places:=[(0,1),(1,1),(2,1)]) (pv:=[(0,.slice A19 (((rZ d.length)).length) c20),(1,.slice A42 (((rZ c.length)).length) c43),(2,iv p)]) type28 underlying28 rfl (mp_cons type22 (mp_cons type22 (mp_cons type3 mp_nil rfl rfl) rfl rfl) rfl rfl) rfl (by simp [Instr.fill,Value.cells]))<|mixE.sk hD (hC.seta (i:=1) (ds:=[.slice A19 (((rZ d.length)).length) c20,.slice A42 (((rZ c.length)).length) c43,iv p]) rfl type28 rfl rfl rfl rfl rfl) ?_
 rintro w48 ⟨hC,hF⟩
 replace hD:=hD.besideG hUf39 hF
 replace hM:=hM.besideG hVf39 hF
 clear hF
 refine ⟨hD,?_⟩
 refine mixE.nil ?_
 clear hS hM
 clear hD
 exact hK14 _ _ ⟨g37,(rZ d.length),(rZ c.length),A19,((rZ d.length)).length,c20,A42,((rZ c.length)).length,c43,rfl,rfl,rfl,rfl,rfl,hC.sE [5,7,6,3,4,1,2,0],hb⟩
 replace hb:=(gcomm0 _ _ _).symm.trans hb
 refine mixPE_alt ?_ ?_
 refine mixPE_chain ?_
 obtain ⟨u25,h50,hb⟩:=bd hb
 refine mixE.op hM (hC.make (s:=si) (n:=(c.length:Int)) underlying22 type3 rfl rfl rfl rfl rfl (pos_some h50).1 (pos_some h50).2 (by decide)) ?_
 rintro _ w55 ⟨A51,c52,rfl,hl53,hc54,hC,hF,hN⟩
 have hBf56:=Beside.new hM hN
 have hUf56:=Beside.new (hM.wide (H:=([]:List Fact))) hN
 replace hM:=hM.none hF
 replace hD:=hM.wide (H:=([]:List Fact))
 refine ⟨hM,?_⟩
 clear hF hN
 refine mixE.nil ?_
 refine mixPE_alt ?_ ?_
 refine mixPE_chain ?_
 obtain ⟨u17,h58,hb⟩:=bd hb
 refine mixE.op hM (hC.make (s:=si) (n:=(d.length:Int)) underlying22 type3 rfl rfl rfl rfl rfl (pos_some h58).1 (pos_some h58).2 (by decide)) ?_
 rintro _ w63 ⟨A59,c60,rfl,hl61,hc62,hC,hF,hN⟩
 have hBf64:=Beside.new hM hN
 have hUf64:=Beside.new (hM.wide (H:=([]:List Fact))) hN
 replace hM:=hM.none hF
 replace hD:=hM.wide (H:=([]:List Fact))
 refine ⟨hM,?_⟩
 clear hF hN
 refine mixE.nil ?_
 refine mixPE_chain ?_
 refine mp (.agg #[.slice A59 (((rZ d.length)).length) c60,.slice A51 (((rZ c.length)).length) c52,iv p]) (pu_builds (places:=[(0,1),(1,1),(2,1)]) (pv:=[(0,.slice A59 (((rZ d.length)).length) c60),(1,.slice A51 (((rZ c.length)).length) c52),(2,iv p)]) type28 underlying28 rfl (mp_cons type22 (mp_cons type22 (mp_cons type3 mp_nil rfl rfl) rfl rfl) rfl rfl) rfl (by simp [Instr.fill,Value.cells]))<|mixE.op hM (hC.alloc (cs:=[.slice none 0 0,.slice none 0 0,iv 0]) zeroValue28 rfl) ?_
 rintro _ w66 ⟨g65,rfl,hC,hF,hG⟩
 have hUf67:g65<w16.heap.size→g65∈blocks (([]:List Fact)++([]:List Fact)):=fun h=>absurd (Nat.lt_of_lt_of_le h (Nat.le_trans hM.size hG)) (Nat.lt_irrefl _)
 have hVf67:g65<w16.heap.size→g65∈blocks ([]:List Fact):=fun h=>absurd (Nat.lt_of_lt_of_le h (Nat.le_trans hM.size hG)) (Nat.lt_irrefl _)
 clear hG
 replace hM:=hM.none hF
 replace hD:=hM.wide (H:=([]:List Fact))
 refine ⟨hM,?_⟩
 refine mixE.sk hD (hC.seta (i:=0) (ds:=[.slice A59 (((rZ d.length)).length) c60,.slice A51 (((rZ c.length)).length) c52,iv p]) rfl type28 rfl rfl rfl rfl rfl) ?_
 rintro w68 ⟨hC,hF⟩
 replace hD:=hD.besideG hUf67 hF
 replace hM:=hM.besideG hVf67 hF
 clear hF
 refine ⟨hD,?_⟩
 refine mixE.nil ?_
 clear hS hM
 clear hD
 exact hK14 _ _ ⟨g65,(rZ d.length),(rZ c.length),A59,((rZ d.length)).length,c60,A51,((rZ c.length)).length,c52,rfl,rfl,rfl,rfl,rfl,hC.sE [5,7,6,3,4,0,1,2],hb⟩
 refine mixPE_chain ?_
 refine mixE.op hM (hC.alloc (cs:=[.slice none 0 0,.slice none 0 0,iv 0]) zeroValue28 rfl) ?_
 rintro _ w70 ⟨g69,rfl,hC,hF,hG⟩
 have hUf71:g69<w16.heap.size→g69∈blocks (([]:List Fact)++([]:List Fact)):=fun h=>absurd (Nat.lt_of_lt_of_le h (Nat.le_trans hM.size hG)) (Nat.lt_irrefl _)
 have hVf71:g69<w16.heap.size→g69∈blocks ([]:List Fact):=fun h=>absurd (Nat.lt_of_lt_of_le h (Nat.le_trans hM.size hG)) (Nat.lt_irrefl _)
 clear hG
 replace hM:=hM.none hF
 replace hD:=hM.wide (H:=([]:List Fact))
 refine ⟨hM,?_⟩
 refine mixE.nil ?_
 refine mixPE_chain ?_
 obtain ⟨u17,h73,hb⟩:=bd hb
 refine mixE.op hM (hC.make (s:=si) (n:=(d.length:Int)) underlying22 type3 rfl rfl rfl rfl rfl (pos_some h73).1 (pos_some h73).2 (by decide)) ?_
 rintro _ w78 ⟨A74,c75,rfl,hl76,hc77,hC,hF,hN⟩
 have hBf79:=Beside.new hM hN
 have hUf79:=Beside.new (hM.wide (H:=([]:List Fact))) hN
 replace hM:=hM.none hF
 replace hD:=hM.wide (H:=([]:List Fact))
 refine ⟨hM,?_⟩
 clear hF hN
 refine mp (.agg #[.slice A74 (((rZ d.length)).length) c75,.slice A51 (((rZ c.length)).length) c52,iv p]) (pu_builds (places:=[(0,1),(1,1),(2,1)]) (pv:=[(0,.slice A74 (((rZ d.length)).length) c75),(1,.slice A51 (((rZ c.length)).length) c52),(2,iv p)]) type28 underlying28 rfl (mp_cons type22 (mp_cons type22 (mp_cons type3 mp_nil rfl rfl) rfl rfl) rfl rfl) rfl (by simp [Instr.fill,Value.cells]))<|mixE.sk hD (hC.seta (i:=1) (ds:=[.slice A74 (((rZ d.length)).length) c75,.slice A51 (((rZ c.length)).length) c52,iv p]) rfl type28 rfl rfl rfl rfl rfl) ?_
 rintro w80 ⟨hC,hF⟩
 replace hD:=hD.besideG hUf71 hF
 replace hM:=hM.besideG hVf71 hF
 clear hF
 refine ⟨hD,?_⟩
 refine mixE.nil ?_
 clear hS hM
 clear hD
 exact hK14 _ _ ⟨g69,(rZ d.length),(rZ c.length),A74,((rZ d.length)).length,c75,A51,((rZ c.length)).length,c52,rfl,rfl,rfl,rfl,rfl,hC.sE [5,7,6,3,4,1,0,2],hb⟩
 replace hb:=(gcomm0 _ _ _).symm.trans hb
 refine mixPE_chain ?_
 refine mixE.op hM (hC.alloc (cs:=[.slice none 0 0,.slice none 0 0,iv 0]) zeroValue28 rfl) ?_
 rintro _ w82 ⟨g81,rfl,hC,hF,hG⟩
 have hUf83:g81<w16.heap.size→g81∈blocks (([]:List Fact)++([]:List Fact)):=fun h=>absurd (Nat.lt_of_lt_of_le h (Nat.le_trans hM.size hG)) (Nat.lt_irrefl _)
 have hVf83:g81<w16.heap.size→g81∈blocks ([]:List Fact):=fun h=>absurd (Nat.lt_of_lt_of_le h (Nat.le_trans hM.size hG)) (Nat.lt_irrefl _)
 clear hG
 replace hM:=hM.none hF
 replace hD:=hM.wide (H:=([]:List Fact))
 refine ⟨hM,?_⟩
 refine mixE.nil ?_
 refine mixPE_alt ?_ ?_
 refine mixPE_chain ?_
 obtain ⟨u17,h85,hb⟩:=bd hb
 refine mixE.op hM (hC.make (s:=si) (n:=(d.length:Int)) underlying22 type3 rfl rfl rfl rfl rfl (pos_some h85).1 (pos_some h85).2 (by decide)) ?_
 rintro _ w90 ⟨A86,c87,rfl,hl88,hc89,hC,hF,hN⟩
 have hBf91:=Beside.new hM hN
 have hUf91:=Beside.new (hM.wide (H:=([]:List Fact))) hN
 replace hM:=hM.none hF
 replace hD:=hM.wide (H:=([]:List Fact))
 refine ⟨hM,?_⟩
 clear hF hN
 refine mixE.nil ?_
 refine mixPE_chain ?_
 obtain ⟨u25,h93,hb⟩:=bd hb
 refine mixE.op hM (hC.make (s:=si) (n:=(c.length:Int)) underlying22 type3 rfl rfl rfl rfl rfl (pos_some h93).1 (pos_some h93).2 (by decide)) ?_
 rintro _ w98 ⟨A94,c95,rfl,hl96,hc97,hC,hF,hN⟩
 have hBf99:=Beside.new hM hN
 have hUf99:=Beside.new (hM.wide (H:=([]:List Fact))) hN
 replace hM:=hM.none hF
 replace hD:=hM.wide (H:=([]:List Fact))
 refine ⟨hM,?_⟩
 clear hF hN
 refine mp (.agg #[.slice A86 (((rZ d.length)).length) c87,.slice A94 (((rZ c.length)).length) c95,iv p]) (pu_builds (places:=[(0,1),(1,1),(2,1)]) (pv:=[(0,.slice A86 (((rZ d.length)).length) c87),(1,.slice A94 (((rZ c.length)).length) c95),(2,iv p)]) type28 underlying28 rfl (mp_cons type22 (mp_cons type22 (mp_cons type3 mp_nil rfl rfl) rfl rfl) rfl rfl) rfl (by simp [Instr.fill,Value.cells]))<|mixE.sk hD (hC.seta (i:=2) (ds:=[.slice A86 (((rZ d.length)).length) c87,.slice A94 (((rZ c.length)).length) c95,iv p]) rfl type28 rfl rfl rfl rfl rfl) ?_
 rintro w100 ⟨hC,hF⟩
 replace hD:=hD.besideG hUf83 hF
 replace hM:=hM.besideG hVf83 hF
 clear hF
 refine ⟨hD,?_⟩
 refine mixE.nil ?_
 clear hS hM
 clear hD
 exact hK14 _ _ ⟨g81,(rZ d.length),(rZ c.length),A86,((rZ d.length)).length,c87,A94,((rZ c.length)).length,c95,rfl,rfl,rfl,rfl,rfl,hC.sE [5,7,6,3,4,2,1,0],hb⟩
 replace hb:=(gcomm0 _ _ _).symm.trans hb
 refine mixPE_chain ?_
 obtain ⟨u25,h102,hb⟩:=bd hb
 refine mixE.op hM (hC.make (s:=si) (n:=(c.length:Int)) underlying22 type3 rfl rfl rfl rfl rfl (pos_some h102).1 (pos_some h102).2 (by decide)) ?_
 rintro _ w107 ⟨A103,c104,rfl,hl105,hc106,hC,hF,hN⟩
 have hBf108:=Beside.new hM hN
 have hUf108:=Beside.new (hM.wide (H:=([]:List Fact))) hN
 replace hM:=hM.none hF
 replace hD:=hM.wide (H:=([]:List Fact))
 refine ⟨hM,?_⟩
 clear hF hN
 refine mixE.nil ?_
 refine mixPE_chain ?_
 obtain ⟨u17,h110,hb⟩:=bd hb
 refine mixE.op hM (hC.make (s:=si) (n:=(d.length:Int)) underlying22 type3 rfl rfl rfl rfl rfl (pos_some h110).1 (pos_some h110).2 (by decide)) ?_
 rintro _ w115 ⟨A111,c112,rfl,hl113,hc114,hC,hF,hN⟩
 have hBf116:=Beside.new hM hN
 have hUf116:=Beside.new (hM.wide (H:=([]:List Fact))) hN
 replace hM:=hM.none hF
 replace hD:=hM.wide (H:=([]:List Fact))
 refine ⟨hM,?_⟩
 clear hF hN
 refine mp (.agg #[.slice A111 (((rZ d.length)).length) c112,.slice A103 (((rZ c.length)).length) c104,iv p]) (pu_builds (places:=[(0,1),(1,1),(2,1)]) (pv:=[(0,.slice A111 (((rZ d.length)).length) c112),(1,.slice A103 (((rZ c.length)).length) c104),(2,iv p)]) type28 underlying28 rfl (mp_cons type22 (mp_cons type22 (mp_cons type3 mp_nil rfl rfl) rfl rfl) rfl rfl) rfl (by simp [Instr.fill,Value.cells]))<|mixE.sk hD (hC.seta (i:=2) (ds:=[.slice A111 (((rZ d.length)).length) c112,.slice A103 (((rZ c.length)).length) c104,iv p]) rfl type28 rfl rfl rfl rfl rfl) ?_
 rintro w117 ⟨hC,hF⟩
 replace hD:=hD.besideG hUf83 hF
 replace hM:=hM.besideG hVf83 hF
 clear hF
 refine ⟨hD,?_⟩
 refine mixE.nil ?_
 clear hS hM
 clear hD
 exact hK14 _ _ ⟨g81,(rZ d.length),(rZ c.length),A111,((rZ d.length)).length,c112,A103,((rZ c.length)).length,c104,rfl,rfl,rfl,rfl,rfl,hC.sE [5,7,6,3,4,2,0,1],hb⟩
 clear hb hC
 rintro E119 w118 ⟨gP8,q,j,l,J,o,f,K,g,e2,e3,e6,e7,e8,hC,hb⟩
 unfold F.mirror_move_mirror_Reverse_c1_mirror_Reverse_c2_j0 at hb
 obtain ⟨rfl,V,X⟩:=(hC.ow (i:=6) rfl).sl_len
 obtain ⟨rfl,Y,Z⟩:=(hC.ow (i:=7) rfl).sl_len
 refine Wc.seq fun _ hK120=>?_
 refine Wc.seq fun _ hK121=>rg<|lp (.pointer (some ((⟨g4,0,none⟩:Addr).add 0))) (pu_field (sz:=1) underlying28 rfl sizeOf22 (by decide) rfl e3)<|lv (.slice C d.length D) (ld_fld (hC.bx (i:=0) rfl) isAgg22 rfl rfl)<|lp (iv (d.length:Int)) (pu_len (A:=C) (n:=d.length) (m:=D) underlying22 rfl)<|lp (iv 0) (pu_move rfl)<|ln (hK121 _ _ ?_)
 obtain ⟨o122,hl1,f122,hf122,hb⟩:=bn hb
 refine Wc.cut (fun E wv=> ∃(y:Int) (u:List Int),E 3=pg g4∧E 6=pg g10∧E 7=.func (.func 83) #[] #[pg g7]∧E 8=pg gP8∧I64 y∧Cx (fun _=>False) O0 w wv [.box g4 28 [.slice C d.length D,.slice B c.length z,iv p],.ro (.sl si) [.slice C d.length D] d,.ro (.sl si) [.slice B c.length z] c,.box g10 28 [.slice none 0 0,.slice none 0 0,iv 0],.box g7 80 [.func (.func 59) #[] #[]],.box gP8 28 [.slice l q.length o,.slice f j.length g,iv p],.own 3 si (.slice l q.length o) u,.own 3 si (.slice f j.length g) j]∧f122 (y,u)=some r) (fun _ hK123=>?_) ?_
 refine Wc.block ?_
 refine Wc.loop (fun m E wv=> ∃(y:Int) (u:List Int),E 2=.func (.func 61) #[] #[]∧E 3=pg g4∧E 6=pg g10∧E 7=.func (.func 83) #[] #[pg g7]∧E 8=pg gP8∧E 26=.slice C d.length D∧E 27=iv (d.length:Int)∧E 28=iv y∧I64 y∧Cx (fun _=>False) O0 w wv [.box g4 28 [.slice C d.length D,.slice B c.length z,iv p],.ro (.sl si) [.slice C d.length D] d,.ro (.sl si) [.slice B c.length z] c,.box g10 28 [.slice none 0 0,.slice none 0 0,iv 0],.box g7 80 [.func (.func 59) #[] #[]],.box gP8 28 [.slice l q.length o,.slice f j.length g,iv p],.own 3 si (.slice l q.length o) u,.own 3 si (.slice f j.length g) j]∧loopN m (F.mirror_move_mirror_Reverse_c1_mirror_Reverse_c2_b1 n d) (y,u)=some o122) n ⟨0,q,e2,e3,e6,e7,e8,rfl,rfl,rfl,(show I64 0 from by unfold I64; omega),hC.sE [0,1,2,3,4,5,6,7],hl1⟩ ?_
 have hbK1:=hb
 clear hb hC hl1
 rintro m125 E127 w126 ⟨y,u,e2,e3,e6,e7,e8,e26,e27,e28,L,hC,hl1⟩ K124 hK124
 obtain ⟨m125',o128,rfl,hb,hl1⟩:=loopN_some hl1
 unfold F.mirror_move_mirror_Reverse_c1_mirror_Reverse_c2_b1 at hb
 refine Wc.seq fun _ hK129=>rg<|lp _ (pu_lss e28 e27)<|ln (hK129 _ _ ?_)
 refine Wc.seq fun _ hK130=>?_
 refine Wc.cond (t:=(decide (y<(d.length:Int)))) (rfl) (fun hq131=>?_) (fun hq131=>?_)
 replace hb:=tt hq131 hb
 refine Wc.skip (hK130 _ _ ?_)
 refine Wc.seq fun _ hK132=>?_
 refine Wc.block<|Wc.seq fun _ hK133=>rg<|lp _ (pu_move e28) ?_
 obtain ⟨x134,h135,hb⟩:=bd hb
 obtain ⟨ad136,cs137,hA,hc138,hr139⟩:=hC.elr (i:=1) rfl (get_some h135).2
 subst hA
 refine lp (.pointer (some (ad136.add (y.toNat*1)))) (pu_index (a:=y) underlying22 sizeOf3 e26 e28 (get_some h135).1) ?_
 obtain ⟨rfl,hr139'⟩:=hr139
 refine lv (iv x134) (ld_one isAgg3 rfl (hc138 0 _ rfl))<|lp (iv y) (pu_assign rfl)<|lp (iv x134) (pu_assign rfl)<|ln (hK133 _ _ ?_)
 refine Wc.regionMix [34] (frm [34] ([]:List Fact) [.own 3 si (.slice l q.length o) u]) (fun _=>rfl) mixed (by decide+kernel) (by decide+kernel) fun w141 hw140=>?_
 replace hC:=hC.step (Fr.of_drew hw140)
 have hM:=Fr.refl (fun k=>k∈blocks ([]:List Fact)) w141
 clear hw140
 have hS:=hC
 have hD:Fr (fun k=>k∈blocks (([]:List Fact)++[.own 3 si (.slice l q.length o) u])) w141 w141:=hM.wide
 have S:Beside (([]:List Fact)++[.own 3 si (.slice l q.length o) u]) w141 (.slice l q.length o):=Beside.of (i:=0) rfl
 refine mp (.pointer (some ((⟨gP8,0,none⟩:Addr).add 0))) (pu_field (sz:=1) underlying28 rfl sizeOf22 (by decide) rfl e8)<|mixE.steady hD (v:=.slice l q.length o) (fun _ hF=>ld_fld (hS.bx2 (i:=5) rfl [6] (by decide) hF) isAgg22 rfl rfl)<|mp (iv y) (pu_move rfl)<|mp (iv x134) (pu_move rfl)<|mp (.func (.func 61) #[] #[]) (pu_move e2)<|mp (iv y) (pu_move rfl) ?_
 obtain ⟨y142,h143,hb⟩:=bd hb
 refine mixE.cl hM (⟨_,_,op_callv (vs:=[iv y]) (ca:=#[]) call61 rfl rfl rfl,mirror_Reverse_c2_ok n hC.lt L h143⟩) ?_
 rintro _ w145 ⟨rfl,hr144,hK⟩
 replace hM:=hM.none hK.fr
 replace hD:=hM.wide (H:=[.own 3 si (.slice l q.length o) u])
 refine ⟨hM,?_⟩
 replace hC:=hC.merge hK
 clear hK
 obtain ⟨z146,h147,hb⟩:=bd hb
 refine mp (iv z146) (pu_mulc (a:=x134) (b:=y142) rfl rfl h147) ?_
 obtain ⟨x148,h149,hb⟩:=bd hb
 obtain ⟨ad150,cs151,hA,ho154,hc152,hr153⟩:=hS.elo2 (i:=6) rfl (get_some h149).2 [] (by decide)
 subst hA
 refine mp (.pointer (some (ad150.add (y.toNat*1)))) (pu_index (a:=y) underlying22 sizeOf3 rfl rfl (by rw [(hC.ow (i:=6) rfl).sl_len.1]; exact (get_some h149).1))<|mixE.sk hD (hC.put (i:=6) rfl rfl sizeOf3 (k:=y.toNat) (a:=z146) (by have:=(get_some h149).1; simp at this⊢; omega) (⟨rfl,I64.wr (chk_rng h147)⟩) rfl rfl rfl) ?_
 rintro w155 ⟨hC,hF⟩
 replace hD:=hD.beside S hF
 clear hF
 refine ⟨hD,?_⟩
 refine mixE.nil ?_
 clear hS hM
 clear hD
 refine hK132 _ _<|rg ?_
 obtain ⟨z156,h157,hb⟩:=bd hb
 refine lp (iv z156) (pu_addc (a:=y) (b:=1) e28 rfl h157)<|lp (iv z156) (pu_move rfl)<|ln ?_
 obtain rfl:=os hb
 exact hK124 m125' _ _ (Nat.lt_succ_self _) ⟨z156,(u.set y.toNat z146),e2,e3,e6,e7,e8,e26,e27,rfl,(chk_rng h157),hC.sE [0,1,2,3,4,5,6,7],lN hl1⟩
 replace hb:=tf hq131 hb
 refine Wc.exit rfl ?_
 obtain rfl:=os hb
 obtain rfl:=(lX hl1).symm
 exact hK123 _ _ ⟨y,u,e3,e6,e7,e8,L,hC.sE [0,1,2,3,4,5,6,7],hbK1⟩
 clear hb hC hl1
 rintro E159 w158 ⟨y,u,e3,e6,e7,e8,L,hC,hb⟩
 subst hf122
 refine hK120 _ _ ?_
 refine Wc.seq fun _ hK160=>?_
 refine Wc.seq fun _ hK161=>rg<|lp (.pointer (some ((⟨g4,0,none⟩:Addr).add 1))) (pu_field (sz:=1) underlying28 rfl sizeOf22 (by decide) rfl e3)<|lv (.slice B c.length z) (ld_fld (hC.bx (i:=0) rfl) isAgg22 rfl rfl)<|lp (iv (c.length:Int)) (pu_len (A:=B) (n:=c.length) (m:=z) underlying22 rfl)<|lp (iv 0) (pu_move rfl)<|ln (hK161 _ _ ?_)
 obtain ⟨o162,hl2,f162,hf162,hb⟩:=bn hb
 refine Wc.cut (fun E wv=> ∃(G:Int) (x:List Int),E 6=pg g10∧E 8=pg gP8∧I64 G∧Cx (fun _=>False) O0 w wv [.box g10 28 [.slice none 0 0,.slice none 0 0,iv 0],.box gP8 28 [.slice l q.length o,.slice f j.length g,iv p],.own 3 si (.slice l q.length o) u,.own 3 si (.slice f j.length g) x]∧f162 (G,x)=some r) (fun _ hK163=>?_) ?_
 refine Wc.block ?_
 refine Wc.loop (fun m E wv=> ∃(G:Int) (x:List Int),E 6=pg g10∧E 7=.func (.func 83) #[] #[pg g7]∧E 8=pg gP8∧E 44=.slice B c.length z∧E 45=iv (c.length:Int)∧E 46=iv G∧I64 G∧Cx (fun _=>False) O0 w wv [.box g10 28 [.slice none 0 0,.slice none 0 0,iv 0],.box g7 80 [.func (.func 59) #[] #[]],.box gP8 28 [.slice l q.length o,.slice f j.length g,iv p],.own 3 si (.slice l q.length o) u,.own 3 si (.slice f j.length g) x,.ro (.sl si) [.slice B c.length z] c]∧loopN m (F.mirror_move_mirror_Reverse_c1_mirror_Reverse_c2_b2 n c) (G,x)=some o162) n ⟨0,j,e6,e7,e8,rfl,rfl,rfl,(show I64 0 from by unfold I64; omega),hC.sE [3,4,5,6,7,2],hl2⟩ ?_
 have hbK2:=hb
 clear hb hC hl2
 rintro m165 E167 w166 ⟨G,x,e6,e7,e8,e44,e45,e46,M,hC,hl2⟩ K164 hK164
 obtain ⟨m165',o168,rfl,hb,hl2⟩:=loopN_some hl2
 unfold F.mirror_move_mirror_Reverse_c1_mirror_Reverse_c2_b2 at hb
 refine Wc.seq fun _ hK169=>rg<|lp _ (pu_lss e46 e45)<|ln (hK169 _ _ ?_)
 refine Wc.seq fun _ hK170=>?_
 refine Wc.cond (t:=(decide (G<(c.length:Int)))) (rfl) (fun hq171=>?_) (fun hq171=>?_)
 replace hb:=tt hq171 hb
 refine Wc.skip (hK170 _ _ ?_)
 refine Wc.seq fun _ hK172=>?_
 refine Wc.block<|Wc.seq fun _ hK173=>rg<|lp _ (pu_move e46) ?_
 obtain ⟨x174,h175,hb⟩:=bd hb
 obtain ⟨ad176,cs177,hA,hc178,hr179⟩:=hC.elr (i:=5) rfl (get_some h175).2
 subst hA
 refine lp (.pointer (some (ad176.add (G.toNat*1)))) (pu_index (a:=G) underlying22 sizeOf3 e44 e46 (get_some h175).1) ?_
 obtain ⟨rfl,hr179'⟩:=hr179
 refine lv (iv x174) (ld_one isAgg3 rfl (hc178 0 _ rfl))<|lp (iv G) (pu_assign rfl)<|lp (iv x174) (pu_assign rfl)<|ln (hK173 _ _ ?_)
 refine Wc.regionMix [52] (frm [52] ([]:List Fact) [.own 3 si (.slice f j.length g) x]) (fun _=>rfl) mixed (by decide+kernel) (by decide+kernel) fun w181 hw180=>?_
 replace hC:=hC.step (Fr.of_drew hw180)
 have hM:=Fr.refl (fun k=>k∈blocks ([]:List Fact)) w181
 clear hw180
 have hS:=hC
 have hD:Fr (fun k=>k∈blocks (([]:List Fact)++[.own 3 si (.slice f j.length g) x])) w181 w181:=hM.wide
 have T:Beside (([]:List Fact)++[.own 3 si (.slice f j.length g) x]) w181 (.slice f j.length g):=Beside.of (i:=0) rfl
 refine mp (.pointer (some ((⟨gP8,0,none⟩:Addr).add 1))) (pu_field (sz:=1) underlying28 rfl sizeOf22 (by decide) rfl e8)<|mixE.steady hD (v:=.slice f j.length g) (fun _ hF=>ld_fld (hS.bx2 (i:=2) rfl [4] (by decide) hF) isAgg22 rfl rfl)<|mp (.func (.func 83) #[] #[pg g7]) (pu_move e7)<|mp (iv G) (pu_move rfl) ?_
 replace hC:Cx (fun _=>False) O0 w w181 ([.box g7 80 [.func (.func 59) #[] #[]]]++[.box g10 28 [.slice none 0 0,.slice none 0 0,iv 0],.box gP8 28 [.slice l q.length o,.slice f j.length g,iv p],.own 3 si (.slice l q.length o) u,.own 3 si (.slice f j.length g) x,.ro (.sl si) [.slice (some ad176) c.length z] c]):=hC.sE [1,0,2,3,4,5]
 obtain ⟨y182,h183,hb⟩:=bd hb
 refine mixE.cl hM (⟨_,_,op_callv (vs:=[iv G,pg g7]) (ca:=#[pg g7]) call83 rfl rfl rfl,mirror_move_c1_v2_ok n hC.lt M hC.give h183⟩) ?_
 rintro _ w185 ⟨rfl,hr184,hK⟩
 replace hM:=hM.none (Cx.still (hC.bx (i:=0) rfl) hK)
 replace hD:=hM.wide (H:=[.own 3 si (.slice f j.length g) x])
 refine ⟨hM,?_⟩
 replace hC:=hC.back hK
 clear hK
 refine mp (.func (.func 83) #[] #[pg g7]) (pu_move e7)<|mp (iv x174) (pu_move rfl) ?_
 replace hC:Cx (fun _=>False) O0 w w185 ([.box g7 80 [.func (.func 59) #[] #[]]]++[.box g10 28 [.slice none 0 0,.slice none 0 0,iv 0],.box gP8 28 [.slice l q.length o,.slice f j.length g,iv p],.own 3 si (.slice l q.length o) u,.own 3 si (.slice f j.length g) x,.ro (.sl si) [.slice (some ad176) c.length z] c]):=hC.sE [0,1,2,3,4,5]
 obtain ⟨y186,h187,hb⟩:=bd hb
 refine mixE.cl hM (⟨_,_,op_callv (vs:=[iv x174,pg g7]) (ca:=#[pg g7]) call83 rfl rfl rfl,mirror_move_c1_v2_ok n hC.lt (wrap_I64 hr179') hC.give h187⟩) ?_
 rintro _ w189 ⟨rfl,hr188,hK⟩
 replace hM:=hM.none (Cx.still (hC.bx (i:=0) rfl) hK)
 replace hD:=hM.wide (H:=[.own 3 si (.slice f j.length g) x])
 refine ⟨hM,?_⟩
 replace hC:=hC.back hK
 clear hK
 obtain ⟨x190,h191,hb⟩:=bd hb
 obtain ⟨ad192,cs193,hA,ho196,hc194,hr195⟩:=hS.elo2 (i:=4) rfl (get_some h191).2 [] (by decide)
 subst hA
 refine mp (.pointer (some (ad192.add (y182.toNat*1)))) (pu_index (a:=y182) underlying22 sizeOf3 rfl rfl (by rw [(hC.ow (i:=4) rfl).sl_len.1]; exact (get_some h191).1))<|mixE.sk hD (hC.put (i:=4) rfl rfl sizeOf3 (k:=y182.toNat) (a:=y186) (by have:=(get_some h191).1; simp at this⊢; omega) (⟨rfl,I64.wr hr188⟩) rfl rfl rfl) ?_
 rintro w197 ⟨hC,hF⟩
 replace hD:=hD.beside T hF
 clear hF
 refine ⟨hD,?_⟩
 refine mixE.nil ?_
 clear hS hM
 clear hD
 refine hK172 _ _<|rg ?_
 obtain ⟨z198,h199,hb⟩:=bd hb
 refine lp (iv z198) (pu_addc (a:=G) (b:=1) e46 rfl h199)<|lp (iv z198) (pu_move rfl)<|ln ?_
 obtain rfl:=os hb
 exact hK164 m165' _ _ (Nat.lt_succ_self _) ⟨z198,(x.set y182.toNat y186),e6,e7,e8,e44,e45,rfl,(chk_rng h199),hC.sE [1,0,2,3,4,5],lN hl2⟩
 replace hb:=tf hq171 hb
 refine Wc.exit rfl ?_
 obtain rfl:=os hb
 obtain rfl:=(lX hl2).symm
 exact hK163 _ _ ⟨G,x,e6,e8,M,hC.sE [0,2,3,4],hbK2⟩
 clear hb hC hl2
 rintro E201 w200 ⟨G,x,e6,e8,M,hC,hb⟩
 subst hf162
 refine hK160 _ _<|Wc.seq fun _ hK202=>rg<|lv (.agg #[.slice l q.length o,.slice f j.length g,iv p]) (ld_blk (hC.bx (i:=1) rfl) isAgg28 sizeOf28 e8)<|lex.sk (hC.seta (i:=0) (ds:=[.slice l q.length o,.slice f j.length g,iv p]) rfl type28 rfl rfl rfl e6 rfl) ?_
 rintro w203 ⟨hC,hF⟩
 refine ln (hK202 _ _ ?_)
 obtain rfl:=os hb
 refine Wc.ret (hKR _ _ ?_)
 refine ⟨_,res1 results60 ⟨_,e6,loadVar_blk (hC.bx (i:=0) rfl) isAgg28 sizeOf28⟩,_,rfl,l,q.length,o,f,j.length,g,rfl,U,hC.sE [2,3]⟩

theorem mirror_Reverse_ok (n:Nat) {w:World} {O0:List Nat} (hO: ∀k∈O0,k<w.heap.size) {a:Option Addr} {j b:Nat} {g:List Int} (l:Rep O0 w (.sl si) [.slice a j b] g) {c:Option Addr} {m d:Nat} {h:List Int} (o:Rep O0 w (.sl si) [.slice c m d] h) {f:Int} (p:I64 f) {r:(List Int)×(List Int)×Int×Int} (hb:F.mirror_Reverse n g h f=some r):
    Calls prog 34 #[.agg #[.slice a j b,.slice c m d,iv f]] w fun e w'=> ∃v,e=.returned v∧∃(A0:Option Addr) (m0 c0:Nat) (A1:Option Addr) (m1 c1:Nat),v=.tuple #[.agg #[.slice A0 m0 c0,.slice A1 m1 c1,iv r.2.2.1],iv r.2.2.2]∧I64 r.2.2.1∧I64 r.2.2.2∧Cx (fun _=>False) O0 w w' [.own 3 si (.slice A0 m0 c0) r.1,.own 3 si (.slice A1 m1 c1) r.2.1]:=by
 unfold F.mirror_Reverse at hb
 have hC:=Cx.start hO
 replace hC:=hC.arg rfl l
 replace hC:=hC.arg rfl o
 clear hO
 obtain ⟨rfl,s,u⟩:=l.sl_len
 obtain ⟨rfl,x,y⟩:=o.sl_len
 refine calls_of_Wc func34 rfl (by rw [ntmps34]; exact nb rfl) fun KR hKR=>?_
 refine Wc.seq fun _ hK3=>rg<|lex.op (hC.box (cs:=[.slice a g.length b,.slice c h.length d,iv f]) rfl rfl) ?_
 rintro _ w5 ⟨g4,rfl,hC,hF,-⟩
 refine lex.op (hC.alloc (cs:=[.slice none 0 0,.slice none 0 0,iv 0]) zeroValue28 rfl) ?_
 rintro _ w8 ⟨g7,rfl,hC,hF,-⟩
 refine lp (iv 0) (pu_assign rfl)<|ln (hK3 _ _ ?_)
 refine Wc.seq fun _ hK10=>?_
 refine Wc.seq fun _ hK11=>rg<|lv (.agg #[.slice a g.length b,.slice c h.length d,iv f]) (ld_blk (hC.bx (i:=1) rfl) isAgg28 sizeOf28 rfl) ?_
 obtain ⟨y12,h13,hb⟩:=bd hb
 refine lex.cl (⟨_,_,op_call (vs:=[.agg #[.slice a g.length b,.slice c h.length d,iv f]]) call28 rfl rfl rfl,diagram_Valid_ok n hC.lt (hC.rd (i:=3) rfl) (hC.rd (i:=2) rfl) p h13⟩) ?_
 rintro _ w14 ⟨rfl,hK⟩
 replace hC:=hC.merge hK
 clear hK
 refine lp (.bool (!y12)) (pu_not (q:=y12) rfl)<|ln (hK11 _ _ ?_)
 refine Wc.cond (t:=(!y12)) (rfl) (fun hq15=>?_) (fun hq15=>?_)
 replace hb:=tt hq15 hb
 refine Wc.seq fun _ hK16=>rg<|lp (.agg #[.slice none 0 0,.slice none 0 0,iv 0]) (pu_builds (places:=[(0,1),(1,1),(2,1)]) (pv:=[]) type28 underlying28 rfl (mp_cons type22 (mp_cons type22 (mp_cons type3 mp_nil rfl rfl) rfl rfl) rfl rfl) rfl (by simp [Instr.fill,Value.cells]))<|lex.sk (hC.seta (i:=0) (ds:=[.slice none 0 0,.slice none 0 0,iv 0]) rfl type28 rfl rfl rfl rfl rfl) ?_
 rintro w17 ⟨hC,hF⟩
 refine lp (iv 1) (pu_assign rfl)<|ln (hK16 _ _ ?_)
 replace hC:=hC.nil 3 si
 replace hC:=hC.nil 3 si
 obtain rfl:=os hb
 refine Wc.ret (hKR _ _ ?_)
 refine ⟨_,res2 results34 ⟨_,rfl,loadVar_blk (hC.bx (i:=2) rfl) isAgg28 sizeOf28⟩ (tV (iv 1) rfl),_,rfl,none,0,0,none,0,0,rfl,(show I64 0 from by unfold I64; omega),(show I64 1 from by unfold I64; omega),hC.sE [1,0]⟩
 replace hb:=tf hq15 hb
 refine Wc.skip (hK10 _ _ ?_)
 refine Wc.seq fun _ hK20=>rg<|lp (.func (.func 59) #[] #[]) (pu_assign rfl)<|ln (hK20 _ _ ?_)
 refine Wc.seq fun _ hK21=>rg<|lv (.agg #[.slice a g.length b,.slice c h.length d,iv f]) (ld_blk (hC.bx (i:=1) rfl) isAgg28 sizeOf28 rfl)<|lp (.func (.func 59) #[] #[]) (pu_move rfl) ?_
 obtain ⟨y22,h23,hb⟩:=bd hb
 refine lex.cl (⟨_,_,op_call (vs:=[.agg #[.slice a g.length b,.slice c h.length d,iv f],.func (.func 59) #[] #[],.func (.func 61) #[] #[]]) call60 rfl rfl rfl,mirror_move_mirror_Reverse_c1_mirror_Reverse_c2_ok n hC.lt (hC.rd (i:=3) rfl) (hC.rd (i:=2) rfl) p h23⟩) ?_
 rintro _ w33 ⟨A24,m25,c26,A28,m29,c30,rfl,hr32,hK⟩
 replace hC:=hC.merge hK
 clear hK
 obtain ⟨rfl,hl34,hc35⟩:=(hC.ow (i:=0) rfl).sl_len
 obtain ⟨rfl,hl36,hc37⟩:=(hC.ow (i:=1) rfl).sl_len
 refine lex.sk (hC.seta (i:=2) (ds:=[.slice A24 y22.1.length c26,.slice A28 y22.2.1.length c30,iv y22.2.2]) rfl type28 rfl rfl rfl rfl rfl) ?_
 rintro w38 ⟨hC,hF⟩
 refine lp (iv 0) (pu_assign rfl)<|ln (hK21 _ _ ?_)
 obtain rfl:=os hb
 refine Wc.ret (hKR _ _ ?_)
 refine ⟨_,res2 results34 ⟨_,rfl,loadVar_blk (hC.bx (i:=2) rfl) isAgg28 sizeOf28⟩ (tV (iv 0) rfl),_,rfl,A24,y22.1.length,c26,A28,y22.2.1.length,c30,rfl,hr32,(show I64 0 from by unfold I64; omega),hC.sE [0,1]⟩

theorem mirror_Reflect_c2_ok (n:Nat) {w:World} {O0:List Nat} (hO: ∀k∈O0,k<w.heap.size) {a:Int} (b:I64 a) {r:Int} (hb:F.mirror_Reflect_c2 n a=some r):
    Calls prog 63 #[iv a] w fun e w'=> ∃v,e=.returned v∧v=iv r∧I64 r∧Cx (fun _=>False) O0 w w' []:=by
 unfold F.mirror_Reflect_c2 at hb
 have hC:=Cx.start hO
 clear hO
 refine calls_of_Wc func63 rfl (by rw [ntmps63]; exact nb rfl) fun KR hKR=>?_
 refine Wc.seq fun _ hK1=>rg<|lp (iv 0) (pu_assign rfl)<|ln (hK1 _ _ ?_)
 refine Wc.seq fun _ hK2=>rg<|lp (iv (-1)) (pu_assign rfl)<|ln (hK2 _ _ ?_)
 obtain rfl:=os hb
 refine Wc.ret (hKR _ _ ?_)
 refine ⟨_,res1 results63 (tV (iv (-1)) rfl),_,rfl,rfl,(show I64 (-1) from by unfold I64; omega),hC.sE []⟩

theorem mirror_Reflect_c1_ok (n:Nat) {w:World} {O0:List Nat} (hO: ∀k∈O0,k<w.heap.size) {d:Int} (f:I64 d) {c:Int} (g:I64 c) {r:Int} (hb:F.mirror_Reflect_c1 n d c=some r):
    Calls prog 62 #[iv d,iv c] w fun e w'=> ∃v,e=.returned v∧v=iv r∧I64 r∧Cx (fun _=>False) O0 w w' []:=by
 unfold F.mirror_Reflect_c1 at hb
 have hC:=Cx.start hO
 clear hO
 refine calls_of_Wc func62 rfl (by rw [ntmps62]; exact nb rfl) fun KR hKR=>?_
 refine Wc.seq fun _ hK1=>rg<|lp (iv 0) (pu_assign rfl)<|ln (hK1 _ _ ?_)
 refine Wc.seq fun _ hK2=>rg<|lp (iv c) (pu_move rfl) ?_
 obtain ⟨z3,h4,hb⟩:=bd hb
 refine lp (iv z3) (pu_mulc (a:=2) (b:=c) rfl rfl h4) ?_
 obtain ⟨z5,h6,hb⟩:=bd hb
 refine lp (iv z5) (pu_subc (a:=4) (b:=z3) rfl rfl h6)<|lp (iv z5) (pu_assign rfl)<|ln (hK2 _ _ ?_)
 obtain rfl:=os hb
 refine Wc.ret (hKR _ _ ?_)
 refine ⟨_,res1 results62 (tV (iv z5) rfl),_,rfl,rfl,(chk_rng h6),hC.sE []⟩

theorem mirror_move_c1_v3_ok (n:Nat) {w:World} {O0:List Nat} (hO: ∀k∈O0,k<w.heap.size) {c:Int} (f:I64 c) {d:Nat} (hio:Tk O0 w [.box d 80 [.func (.func 62) #[] #[]]]) {r:Int} (hb:F.mirror_move_c1_v3 n c=some r):
    Calls prog 83 #[iv c,pg d] w fun e w'=> ∃v,e=.returned v∧v=iv r∧I64 r∧Cx (fun k=>k∈blocks [.box d 80 [.func (.func 62) #[] #[]]]) O0 w w' [.box d 80 [.func (.func 62) #[] #[]]]:=by
 unfold F.mirror_move_c1_v3 at hb
 have hC:=Cx.startTk hO hio
 have hsub:=hio.2.2
 clear hO
 clear hio hsub
 obtain ⟨I,hI,hC⟩: ∃I:Nat→Prop,I=(fun k=>k∈blocks [.box d 80 [.func (.func 62) #[] #[]]])∧Cx I O0 w w ([.box d 80 [.func (.func 62) #[] #[]]]):=⟨_,rfl,hC⟩
 refine calls_of_Wc func83 rfl (by rw [ntmps83]; exact nb rfl) fun KR hKR=>?_
 refine Wc.seq fun _ hK2=>rg<|lp (iv 0) (pu_assign rfl)<|ln (hK2 _ _ ?_)
 refine Wc.seq fun _ hK3=>rg<|lp (iv c) (pu_move rfl)<|lv (.func (.func 62) #[] #[]) (ld_one isAgg80 rfl ((hC.bx (i:=0) rfl).cell (j:=0) rfl))<|lp (iv c) (pu_move rfl) ?_
 obtain ⟨u4,h5,hb⟩:=bd hb
 obtain ⟨z6,h7,hb⟩:=bd hb
 refine lp (iv z6) (pu_quoc (a:=c) (b:=4) rfl rfl h5 h7)<|lp (iv c) (pu_move rfl) ?_
 obtain ⟨u8,h9,hb⟩:=bd hb
 refine lp (iv (Int.tmod c 4)) (pu_remc (a:=c) (b:=4) rfl rfl h9) ?_
 obtain ⟨y10,h11,hb⟩:=bd hb
 refine lex.cl (⟨_,_,op_callv (vs:=[iv z6,iv (Int.tmod c 4)]) (ca:=#[]) call62 rfl rfl rfl,mirror_Reflect_c1_ok n hC.lt (chk_rng h7) (I64.rem f) h11⟩) ?_
 rintro _ w13 ⟨rfl,hr12,hK⟩
 replace hC:=hC.merge hK
 clear hK
 obtain ⟨y14,h15,hb⟩:=bd hb
 refine lex.cl (⟨_,_,op_call (vs:=[iv c,iv y10]) call75 rfl rfl rfl,diagram_Turn_ok n hC.lt f hr12 h15⟩) ?_
 rintro _ w17 ⟨rfl,hr16,hK⟩
 replace hC:=hC.merge hK
 clear hK
 refine lp (iv y14) (pu_assign rfl)<|ln (hK3 _ _ ?_)
 obtain rfl:=os hb
 subst hI
 refine Wc.ret (hKR _ _ ?_)
 refine ⟨_,res1 results83 (tV (iv y14) rfl),_,rfl,rfl,hr16,hC.sE [0]⟩

theorem mirror_move_mirror_Reflect_c1_mirror_Reflect_c2_ok (n:Nat) {w:World} {O0:List Nat} (hO: ∀k∈O0,k<w.heap.size) {C:Option Addr} {N D:Nat} {d:List Int} (P:Rep O0 w (.sl si) [.slice C N D] d) {B:Option Addr} {Q z:Nat} {c:List Int} (R:Rep O0 w (.sl si) [.slice B Q z] c) {p:Int} (U:I64 p) {r:(List Int)×(List Int)×Int} (hb:F.mirror_move_mirror_Reflect_c1_mirror_Reflect_c2 n d c p=some r):
    Calls prog 60 #[.agg #[.slice C N D,.slice B Q z,iv p],.func (.func 62) #[] #[],.func (.func 63) #[] #[]] w fun e w'=> ∃v,e=.returned v∧∃(A0:Option Addr) (m0 c0:Nat) (A1:Option Addr) (m1 c1:Nat),v=.agg #[.slice A0 m0 c0,.slice A1 m1 c1,iv r.2.2]∧I64 r.2.2∧Cx (fun _=>False) O0 w w' [.own 3 si (.slice A0 m0 c0) r.1,.own 3 si (.slice A1 m1 c1) r.2.1]:=by
 unfold F.mirror_move_mirror_Reflect_c1_mirror_Reflect_c2 at hb
 have hC:=Cx.start hO
 replace hC:=hC.arg rfl P
 replace hC:=hC.arg rfl R
 clear hO
 obtain ⟨rfl,a0,a1⟩:=P.sl_len
 obtain ⟨rfl,a2,a3⟩:=R.sl_len
 refine calls_of_Wc func60 rfl (by rw [ntmps60]; exact nb rfl) fun KR hKR=>?_
 refine Wc.seq fun _ hK3=>rg<|lex.op (hC.box (cs:=[.slice C d.length D,.slice B c.length z,iv p]) rfl rfl) ?_
 rintro _ w5 ⟨g4,rfl,hC,hF,-⟩
 refine lex.op (hC.box (cs:=[.func (.func 62) #[] #[]]) rfl rfl) ?_
 rintro _ w8 ⟨g7,rfl,hC,hF,-⟩
 refine lex.op (hC.alloc (cs:=[.slice none 0 0,.slice none 0 0,iv 0]) zeroValue28 rfl) ?_
 rintro _ w11 ⟨g10,rfl,hC,hF,-⟩
 refine ln (hK3 _ _ ?_)
 refine Wc.seq fun _ hK13=>rg<|lp (.func (.func 83) #[] #[pg g7]) (pu_funcc rfl)<|lp (.func (.func 83) #[] #[pg g7]) (pu_assign rfl)<|ln (hK13 _ _ ?_)
 refine Wc.seqJ (fun E wv=> ∃(gP8:Nat) (q:List Int) (j:List Int) (l:Option Addr) (J o:Nat) (f:Option Addr) (K g:Nat),E 2=.func (.func 63) #[] #[]∧E 3=pg g4∧E 6=pg g10∧E 7=.func (.func 83) #[] #[pg g7]∧E 8=pg gP8∧Cx (fun _=>False) O0 w wv [.box g4 28 [.slice C d.length D,.slice B c.length z,iv p],.ro (.sl si) [.slice C d.length D] d,.ro (.sl si) [.slice B c.length z] c,.box g10 28 [.slice none 0 0,.slice none 0 0,iv 0],.box g7 80 [.func (.func 62) #[] #[]],.box gP8 28 [.slice l J o,.slice f K g,iv p],.own 3 si (.slice l J o) q,.own 3 si (.slice f K g) j]∧F.mirror_move_mirror_Reflect_c1_mirror_Reflect_c2_j0 n d c p q j=some r) (fun _ hK14=>?_) ?_
 refine Wc.regionPlan [15,19,23] (frm [15,19,23] ([]:List Fact) ([]:List Fact)) (chainP [0,1,2,4,5,6,8,9] (.alt (chainP [3] (.alt (chainP [7] (chainP [10,11,12] .done)) (chainP [11] (chainP [7,10,12] .done)))) (.alt (chainP [7] (.alt (chainP [3] (chainP [10,11,12] .done)) (chainP [11] (chainP [3,10,12] .done)))) (chainP [11] (.alt (chainP [3] (chainP [7,10,12] .done)) (chainP [7] (chainP [3,10,12] .done))))))) (fun _=>rfl) mixed (by decide+kernel) (by decide+kernel) fun w16 hw15=>?_
 replace hC:=hC.step (Fr.of_drew hw15)
 have hM:=Fr.refl (fun k=>k∈blocks ([]:List Fact)) w16
 clear hw15
 have hS:=hC
 have hD:Fr (fun k=>k∈blocks (([]:List Fact)++([]:List Fact))) w16 w16:=hM.wide
 refine mixPE_chain ?_
 refine mp (.pointer (some ((⟨g4,0,none⟩:Addr).add 0))) (pu_field (sz:=1) underlying28 rfl sizeOf22 (by decide) rfl rfl)<|mixE.steady hD (v:=.slice C d.length D) (fun _ hF=>ld_fld (hS.bx2 (i:=2) rfl [] (by decide) hF) isAgg22 rfl rfl)<|mp (iv (d.length:Int)) (pu_len (A:=C) (n:=d.length) (m:=D) underlying22 rfl)<|mp (.pointer (some ((⟨g4,0,none⟩:Addr).add 1))) (pu_field (sz:=1) underlying28 rfl sizeOf22 (by decide) rfl rfl)<|mixE.steady hD (v:=.slice B c.length z) (fun _ hF=>ld_fld (hS.bx2 (i:=2) rfl [] (by decide) hF) isAgg22 rfl rfl)<|mp (iv (c.length:Int)) (pu_len (A:=B) (n:=c.length) (m:=z) underlying22 rfl)<|mp (.pointer (some ((⟨g4,0,none⟩:Addr).add 2))) (pu_field (sz:=1) underlying28 rfl sizeOf3 (by decide) rfl rfl)<|mixE.steady hD (v:=iv p) (fun _ hF=>ld_fld (hS.bx2 (i:=2) rfl [] (by decide) hF) isAgg3 rfl rfl)<|mixE.nil ?_
 refine mixPE_alt ?_ ?_
 refine mixPE_chain ?_
 obtain ⟨u17,h18,hb⟩:=bd hb
 refine mixE.op hM (hC.make (s:=si) (n:=(d.length:Int)) underlying22 type3 rfl rfl rfl rfl rfl (pos_some h18).1 (pos_some h18).2 (by decide)) ?_
 rintro _ w23 ⟨A19,c20,rfl,hl21,hc22,hC,hF,hN⟩
 have hBf24:=Beside.new hM hN
 have hUf24:=Beside.new (hM.wide (H:=([]:List Fact))) hN
 replace hM:=hM.none hF
 replace hD:=hM.wide (H:=([]:List Fact))
 refine ⟨hM,?_⟩
 clear hF hN
 refine mixE.nil ?_
 refine mixPE_alt ?_ ?_
 refine mixPE_chain ?_
 obtain ⟨u25,h26,hb⟩:=bd hb
 refine mixE.op hM (hC.make (s:=si) (n:=(c.length:Int)) underlying22 type3 rfl rfl rfl rfl rfl (pos_some h26).1 (pos_some h26).2 (by decide)) ?_
 rintro _ w31 ⟨A27,c28,rfl,hl29,hc30,hC,hF,hN⟩
 have hBf32:=Beside.new hM hN
 have hUf32:=Beside.new (hM.wide (H:=([]:List Fact))) hN
 replace hM:=hM.none hF
 replace hD:=hM.wide (H:=([]:List Fact))
 refine ⟨hM,?_⟩
 clear hF hN
 refine mixE.nil ?_
 refine mixPE_chain ?_
 refine mp (.agg #[.slice A19 (((rZ d.length)).length) c20,.slice A27 (((rZ c.length)).length) c28,iv p]) (pu_builds (places:=[(0,1),(1,1),(2,1)]) (pv:=[(0,.slice A19 (((rZ d.length)).length) c20),(1,.slice A27 (((rZ c.length)).length) c28),(2,iv p)]) type28 underlying28 rfl (mp_cons type22 (mp_cons type22 (mp_cons type3 mp_nil rfl rfl) rfl rfl) rfl rfl) rfl (by simp [Instr.fill,Value.cells]))<|mixE.op hM (hC.alloc (cs:=[.slice none 0 0,.slice none 0 0,iv 0]) zeroValue28 rfl) ?_
 rintro _ w34 ⟨g33,rfl,hC,hF,hG⟩
 have hUf35:g33<w16.heap.size→g33∈blocks (([]:List Fact)++([]:List Fact)):=fun h=>absurd (Nat.lt_of_lt_of_le h (Nat.le_trans hM.size hG)) (Nat.lt_irrefl _)
 have hVf35:g33<w16.heap.size→g33∈blocks ([]:List Fact):=fun h=>absurd (Nat.lt_of_lt_of_le h (Nat.le_trans hM.size hG)) (Nat.lt_irrefl _)
 clear hG
 replace hM:=hM.none hF
 replace hD:=hM.wide (H:=([]:List Fact))
 refine ⟨hM,?_⟩
 refine mixE.sk hD (hC.seta (i:=0) (ds:=[.slice A19 (((rZ d.length)).length) c20,.slice A27 (((rZ c.length)).length) c28,iv p]) rfl type28 rfl rfl rfl rfl rfl) ?_
 rintro w36 ⟨hC,hF⟩
 replace hD:=hD.besideG hUf35 hF
 replace hM:=hM.besideG hVf35 hF
 clear hF
 refine ⟨hD,?_⟩
 refine mixE.nil ?_
 clear hS hM
 clear hD
 exact hK14 _ _ ⟨g33,(rZ d.length),(rZ c.length),A19,((rZ d.length)).length,c20,A27,((rZ c.length)).length,c28,rfl,rfl,rfl,rfl,rfl,hC.sE [5,7,6,3,4,0,2,1],hb⟩
 refine mixPE_chain ?_
 refine mixE.op hM (hC.alloc (cs:=[.slice none 0 0,.slice none 0 0,iv 0]) zeroValue28 rfl) ?_
 rintro _ w38 ⟨g37,rfl,hC,hF,hG⟩
 have hUf39:g37<w16.heap.size→g37∈blocks (([]:List Fact)++([]:List Fact)):=fun h=>absurd (Nat.lt_of_lt_of_le h (Nat.le_trans hM.size hG)) (Nat.lt_irrefl _)
 have hVf39:g37<w16.heap.size→g37∈blocks ([]:List Fact):=fun h=>absurd (Nat.lt_of_lt_of_le h (Nat.le_trans hM.size hG)) (Nat.lt_irrefl _)
 clear hG
 replace hM:=hM.none hF
 replace hD:=hM.wide (H:=([]:List Fact))
 refine ⟨hM,?_⟩
 refine mixE.nil ?_
 refine mixPE_chain ?_
 obtain ⟨u25,h41,hb⟩:=bd hb
 refine mixE.op hM (hC.make (s:=si) (n:=(c.length:Int)) underlying22 type3 rfl rfl rfl rfl rfl (pos_some h41).1 (pos_some h41).2 (by decide)) ?_
 rintro _ w46 ⟨A42,c43,rfl,hl44,hc45,hC,hF,hN⟩
 have hBf47:=Beside.new hM hN
 have hUf47:=Beside.new (hM.wide (H:=([]:List Fact))) hN
 replace hM:=hM.none hF
 replace hD:=hM.wide (H:=([]:List Fact))
 refine ⟨hM,?_⟩
 clear hF hN
 refine mp (.agg #[.slice A19 (((rZ d.length)).length) c20,.slice A42 (((rZ c.length)).length) c43,iv p]) (pu_builds (places:=[(0,1),(1,1),(2,1)]) (pv:=[(0,.slice A19 (((rZ d.length)).length) c20),(1,.slice A42 (((rZ c.length)).length) c43),(2,iv p)]) type28 underlying28 rfl (mp_cons type22 (mp_cons type22 (mp_cons type3 mp_nil rfl rfl) rfl rfl) rfl rfl) rfl (by simp [Instr.fill,Value.cells]))<|mixE.sk hD (hC.seta (i:=1) (ds:=[.slice A19 (((rZ d.length)).length) c20,.slice A42 (((rZ c.length)).length) c43,iv p]) rfl type28 rfl rfl rfl rfl rfl) ?_
 rintro w48 ⟨hC,hF⟩
 replace hD:=hD.besideG hUf39 hF
 replace hM:=hM.besideG hVf39 hF
 clear hF
 refine ⟨hD,?_⟩
 refine mixE.nil ?_
 clear hS hM
 clear hD
 exact hK14 _ _ ⟨g37,(rZ d.length),(rZ c.length),A19,((rZ d.length)).length,c20,A42,((rZ c.length)).length,c43,rfl,rfl,rfl,rfl,rfl,hC.sE [5,7,6,3,4,1,2,0],hb⟩
 replace hb:=(gcomm0 _ _ _).symm.trans hb
 refine mixPE_alt ?_ ?_
 refine mixPE_chain ?_
 obtain ⟨u25,h50,hb⟩:=bd hb
 refine mixE.op hM (hC.make (s:=si) (n:=(c.length:Int)) underlying22 type3 rfl rfl rfl rfl rfl (pos_some h50).1 (pos_some h50).2 (by decide)) ?_
 rintro _ w55 ⟨A51,c52,rfl,hl53,hc54,hC,hF,hN⟩
 have hBf56:=Beside.new hM hN
 have hUf56:=Beside.new (hM.wide (H:=([]:List Fact))) hN
 replace hM:=hM.none hF
 replace hD:=hM.wide (H:=([]:List Fact))
 refine ⟨hM,?_⟩
 clear hF hN
 refine mixE.nil ?_
 refine mixPE_alt ?_ ?_
 refine mixPE_chain ?_
 obtain ⟨u17,h58,hb⟩:=bd hb
 refine mixE.op hM (hC.make (s:=si) (n:=(d.length:Int)) underlying22 type3 rfl rfl rfl rfl rfl (pos_some h58).1 (pos_some h58).2 (by decide)) ?_
 rintro _ w63 ⟨A59,c60,rfl,hl61,hc62,hC,hF,hN⟩
 have hBf64:=Beside.new hM hN
 have hUf64:=Beside.new (hM.wide (H:=([]:List Fact))) hN
 replace hM:=hM.none hF
 replace hD:=hM.wide (H:=([]:List Fact))
 refine ⟨hM,?_⟩
 clear hF hN
 refine mixE.nil ?_
 refine mixPE_chain ?_
 refine mp (.agg #[.slice A59 (((rZ d.length)).length) c60,.slice A51 (((rZ c.length)).length) c52,iv p]) (pu_builds (places:=[(0,1),(1,1),(2,1)]) (pv:=[(0,.slice A59 (((rZ d.length)).length) c60),(1,.slice A51 (((rZ c.length)).length) c52),(2,iv p)]) type28 underlying28 rfl (mp_cons type22 (mp_cons type22 (mp_cons type3 mp_nil rfl rfl) rfl rfl) rfl rfl) rfl (by simp [Instr.fill,Value.cells]))<|mixE.op hM (hC.alloc (cs:=[.slice none 0 0,.slice none 0 0,iv 0]) zeroValue28 rfl) ?_
 rintro _ w66 ⟨g65,rfl,hC,hF,hG⟩
 have hUf67:g65<w16.heap.size→g65∈blocks (([]:List Fact)++([]:List Fact)):=fun h=>absurd (Nat.lt_of_lt_of_le h (Nat.le_trans hM.size hG)) (Nat.lt_irrefl _)
 have hVf67:g65<w16.heap.size→g65∈blocks ([]:List Fact):=fun h=>absurd (Nat.lt_of_lt_of_le h (Nat.le_trans hM.size hG)) (Nat.lt_irrefl _)
 clear hG
 replace hM:=hM.none hF
 replace hD:=hM.wide (H:=([]:List Fact))
 refine ⟨hM,?_⟩
 refine mixE.sk hD (hC.seta (i:=0) (ds:=[.slice A59 (((rZ d.length)).length) c60,.slice A51 (((rZ c.length)).length) c52,iv p]) rfl type28 rfl rfl rfl rfl rfl) ?_
 rintro w68 ⟨hC,hF⟩
 replace hD:=hD.besideG hUf67 hF
 replace hM:=hM.besideG hVf67 hF
 clear hF
 refine ⟨hD,?_⟩
 refine mixE.nil ?_
 clear hS hM
 clear hD
 exact hK14 _ _ ⟨g65,(rZ d.length),(rZ c.length),A59,((rZ d.length)).length,c60,A51,((rZ c.length)).length,c52,rfl,rfl,rfl,rfl,rfl,hC.sE [5,7,6,3,4,0,1,2],hb⟩
 refine mixPE_chain ?_
 refine mixE.op hM (hC.alloc (cs:=[.slice none 0 0,.slice none 0 0,iv 0]) zeroValue28 rfl) ?_
 rintro _ w70 ⟨g69,rfl,hC,hF,hG⟩
 have hUf71:g69<w16.heap.size→g69∈blocks (([]:List Fact)++([]:List Fact)):=fun h=>absurd (Nat.lt_of_lt_of_le h (Nat.le_trans hM.size hG)) (Nat.lt_irrefl _)
 have hVf71:g69<w16.heap.size→g69∈blocks ([]:List Fact):=fun h=>absurd (Nat.lt_of_lt_of_le h (Nat.le_trans hM.size hG)) (Nat.lt_irrefl _)
 clear hG
 replace hM:=hM.none hF
 replace hD:=hM.wide (H:=([]:List Fact))
 refine ⟨hM,?_⟩
 refine mixE.nil ?_
 refine mixPE_chain ?_
 obtain ⟨u17,h73,hb⟩:=bd hb
 refine mixE.op hM (hC.make (s:=si) (n:=(d.length:Int)) underlying22 type3 rfl rfl rfl rfl rfl (pos_some h73).1 (pos_some h73).2 (by decide)) ?_
 rintro _ w78 ⟨A74,c75,rfl,hl76,hc77,hC,hF,hN⟩
 have hBf79:=Beside.new hM hN
 have hUf79:=Beside.new (hM.wide (H:=([]:List Fact))) hN
 replace hM:=hM.none hF
 replace hD:=hM.wide (H:=([]:List Fact))
 refine ⟨hM,?_⟩
 clear hF hN
 refine mp (.agg #[.slice A74 (((rZ d.length)).length) c75,.slice A51 (((rZ c.length)).length) c52,iv p]) (pu_builds (places:=[(0,1),(1,1),(2,1)]) (pv:=[(0,.slice A74 (((rZ d.length)).length) c75),(1,.slice A51 (((rZ c.length)).length) c52),(2,iv p)]) type28 underlying28 rfl (mp_cons type22 (mp_cons type22 (mp_cons type3 mp_nil rfl rfl) rfl rfl) rfl rfl) rfl (by simp [Instr.fill,Value.cells]))<|mixE.sk hD (hC.seta (i:=1) (ds:=[.slice A74 (((rZ d.length)).length) c75,.slice A51 (((rZ c.length)).length) c52,iv p]) rfl type28 rfl rfl rfl rfl rfl) ?_
 rintro w80 ⟨hC,hF⟩
 replace hD:=hD.besideG hUf71 hF
 replace hM:=hM.besideG hVf71 hF
 clear hF
 refine ⟨hD,?_⟩
 refine mixE.nil ?_
 clear hS hM
 clear hD
 exact hK14 _ _ ⟨g69,(rZ d.length),(rZ c.length),A74,((rZ d.length)).length,c75,A51,((rZ c.length)).length,c52,rfl,rfl,rfl,rfl,rfl,hC.sE [5,7,6,3,4,1,0,2],hb⟩
 replace hb:=(gcomm0 _ _ _).symm.trans hb
 refine mixPE_chain ?_
 refine mixE.op hM (hC.alloc (cs:=[.slice none 0 0,.slice none 0 0,iv 0]) zeroValue28 rfl) ?_
 rintro _ w82 ⟨g81,rfl,hC,hF,hG⟩
 have hUf83:g81<w16.heap.size→g81∈blocks (([]:List Fact)++([]:List Fact)):=fun h=>absurd (Nat.lt_of_lt_of_le h (Nat.le_trans hM.size hG)) (Nat.lt_irrefl _)
 have hVf83:g81<w16.heap.size→g81∈blocks ([]:List Fact):=fun h=>absurd (Nat.lt_of_lt_of_le h (Nat.le_trans hM.size hG)) (Nat.lt_irrefl _)
 clear hG
 replace hM:=hM.none hF
 replace hD:=hM.wide (H:=([]:List Fact))
 refine ⟨hM,?_⟩
 refine mixE.nil ?_
 refine mixPE_alt ?_ ?_
 refine mixPE_chain ?_
 obtain ⟨u17,h85,hb⟩:=bd hb
 refine mixE.op hM (hC.make (s:=si) (n:=(d.length:Int)) underlying22 type3 rfl rfl rfl rfl rfl (pos_some h85).1 (pos_some h85).2 (by decide)) ?_
 rintro _ w90 ⟨A86,c87,rfl,hl88,hc89,hC,hF,hN⟩
 have hBf91:=Beside.new hM hN
 have hUf91:=Beside.new (hM.wide (H:=([]:List Fact))) hN
 replace hM:=hM.none hF
 replace hD:=hM.wide (H:=([]:List Fact))
 refine ⟨hM,?_⟩
 clear hF hN
 refine mixE.nil ?_
 refine mixPE_chain ?_
 obtain ⟨u25,h93,hb⟩:=bd hb
 refine mixE.op hM (hC.make (s:=si) (n:=(c.length:Int)) underlying22 type3 rfl rfl rfl rfl rfl (pos_some h93).1 (pos_some h93).2 (by decide)) ?_
 rintro _ w98 ⟨A94,c95,rfl,hl96,hc97,hC,hF,hN⟩
 have hBf99:=Beside.new hM hN
 have hUf99:=Beside.new (hM.wide (H:=([]:List Fact))) hN
 replace hM:=hM.none hF
 replace hD:=hM.wide (H:=([]:List Fact))
 refine ⟨hM,?_⟩
 clear hF hN
 refine mp (.agg #[.slice A86 (((rZ d.length)).length) c87,.slice A94 (((rZ c.length)).length) c95,iv p]) (pu_builds (places:=[(0,1),(1,1),(2,1)]) (pv:=[(0,.slice A86 (((rZ d.length)).length) c87),(1,.slice A94 (((rZ c.length)).length) c95),(2,iv p)]) type28 underlying28 rfl (mp_cons type22 (mp_cons type22 (mp_cons type3 mp_nil rfl rfl) rfl rfl) rfl rfl) rfl (by simp [Instr.fill,Value.cells]))<|mixE.sk hD (hC.seta (i:=2) (ds:=[.slice A86 (((rZ d.length)).length) c87,.slice A94 (((rZ c.length)).length) c95,iv p]) rfl type28 rfl rfl rfl rfl rfl) ?_
 rintro w100 ⟨hC,hF⟩
 replace hD:=hD.besideG hUf83 hF
 replace hM:=hM.besideG hVf83 hF
 clear hF
 refine ⟨hD,?_⟩
 refine mixE.nil ?_
 clear hS hM
 clear hD
 exact hK14 _ _ ⟨g81,(rZ d.length),(rZ c.length),A86,((rZ d.length)).length,c87,A94,((rZ c.length)).length,c95,rfl,rfl,rfl,rfl,rfl,hC.sE [5,7,6,3,4,2,1,0],hb⟩
 replace hb:=(gcomm0 _ _ _).symm.trans hb
 refine mixPE_chain ?_
 obtain ⟨u25,h102,hb⟩:=bd hb
 refine mixE.op hM (hC.make (s:=si) (n:=(c.length:Int)) underlying22 type3 rfl rfl rfl rfl rfl (pos_some h102).1 (pos_some h102).2 (by decide)) ?_
 rintro _ w107 ⟨A103,c104,rfl,hl105,hc106,hC,hF,hN⟩
 have hBf108:=Beside.new hM hN
 have hUf108:=Beside.new (hM.wide (H:=([]:List Fact))) hN
 replace hM:=hM.none hF
 replace hD:=hM.wide (H:=([]:List Fact))
 refine ⟨hM,?_⟩
 clear hF hN
 refine mixE.nil ?_
 refine mixPE_chain ?_
 obtain ⟨u17,h110,hb⟩:=bd hb
 refine mixE.op hM (hC.make (s:=si) (n:=(d.length:Int)) underlying22 type3 rfl rfl rfl rfl rfl (pos_some h110).1 (pos_some h110).2 (by decide)) ?_
 rintro _ w115 ⟨A111,c112,rfl,hl113,hc114,hC,hF,hN⟩
 have hBf116:=Beside.new hM hN
 have hUf116:=Beside.new (hM.wide (H:=([]:List Fact))) hN
 replace hM:=hM.none hF
 replace hD:=hM.wide (H:=([]:List Fact))
 refine ⟨hM,?_⟩
 clear hF hN
 refine mp (.agg #[.slice A111 (((rZ d.length)).length) c112,.slice A103 (((rZ c.length)).length) c104,iv p]) (pu_builds (places:=[(0,1),(1,1),(2,1)]) (pv:=[(0,.slice A111 (((rZ d.length)).length) c112),(1,.slice A103 (((rZ c.length)).length) c104),(2,iv p)]) type28 underlying28 rfl (mp_cons type22 (mp_cons type22 (mp_cons type3 mp_nil rfl rfl) rfl rfl) rfl rfl) rfl (by simp [Instr.fill,Value.cells]))<|mixE.sk hD (hC.seta (i:=2) (ds:=[.slice A111 (((rZ d.length)).length) c112,.slice A103 (((rZ c.length)).length) c104,iv p]) rfl type28 rfl rfl rfl rfl rfl) ?_
 rintro w117 ⟨hC,hF⟩
 replace hD:=hD.besideG hUf83 hF
 replace hM:=hM.besideG hVf83 hF
 clear hF
 refine ⟨hD,?_⟩
 refine mixE.nil ?_
 clear hS hM
 clear hD
 exact hK14 _ _ ⟨g81,(rZ d.length),(rZ c.length),A111,((rZ d.length)).length,c112,A103,((rZ c.length)).length,c104,rfl,rfl,rfl,rfl,rfl,hC.sE [5,7,6,3,4,2,0,1],hb⟩
 clear hb hC
 rintro E119 w118 ⟨gP8,q,j,l,J,o,f,K,g,e2,e3,e6,e7,e8,hC,hb⟩
 unfold F.mirror_move_mirror_Reflect_c1_mirror_Reflect_c2_j0 at hb
 obtain ⟨rfl,V,X⟩:=(hC.ow (i:=6) rfl).sl_len
 obtain ⟨rfl,Y,Z⟩:=(hC.ow (i:=7) rfl).sl_len
 refine Wc.seq fun _ hK120=>?_
 refine Wc.seq fun _ hK121=>rg<|lp (.pointer (some ((⟨g4,0,none⟩:Addr).add 0))) (pu_field (sz:=1) underlying28 rfl sizeOf22 (by decide) rfl e3)<|lv (.slice C d.length D) (ld_fld (hC.bx (i:=0) rfl) isAgg22 rfl rfl)<|lp (iv (d.length:Int)) (pu_len (A:=C) (n:=d.length) (m:=D) underlying22 rfl)<|lp (iv 0) (pu_move rfl)<|ln (hK121 _ _ ?_)
 obtain ⟨o122,hl1,f122,hf122,hb⟩:=bn hb
 refine Wc.cut (fun E wv=> ∃(y:Int) (u:List Int),E 3=pg g4∧E 6=pg g10∧E 7=.func (.func 83) #[] #[pg g7]∧E 8=pg gP8∧I64 y∧Cx (fun _=>False) O0 w wv [.box g4 28 [.slice C d.length D,.slice B c.length z,iv p],.ro (.sl si) [.slice C d.length D] d,.ro (.sl si) [.slice B c.length z] c,.box g10 28 [.slice none 0 0,.slice none 0 0,iv 0],.box g7 80 [.func (.func 62) #[] #[]],.box gP8 28 [.slice l q.length o,.slice f j.length g,iv p],.own 3 si (.slice l q.length o) u,.own 3 si (.slice f j.length g) j]∧f122 (y,u)=some r) (fun _ hK123=>?_) ?_
 refine Wc.block ?_
 refine Wc.loop (fun m E wv=> ∃(y:Int) (u:List Int),E 2=.func (.func 63) #[] #[]∧E 3=pg g4∧E 6=pg g10∧E 7=.func (.func 83) #[] #[pg g7]∧E 8=pg gP8∧E 26=.slice C d.length D∧E 27=iv (d.length:Int)∧E 28=iv y∧I64 y∧Cx (fun _=>False) O0 w wv [.box g4 28 [.slice C d.length D,.slice B c.length z,iv p],.ro (.sl si) [.slice C d.length D] d,.ro (.sl si) [.slice B c.length z] c,.box g10 28 [.slice none 0 0,.slice none 0 0,iv 0],.box g7 80 [.func (.func 62) #[] #[]],.box gP8 28 [.slice l q.length o,.slice f j.length g,iv p],.own 3 si (.slice l q.length o) u,.own 3 si (.slice f j.length g) j]∧loopN m (F.mirror_move_mirror_Reflect_c1_mirror_Reflect_c2_b1 n d) (y,u)=some o122) n ⟨0,q,e2,e3,e6,e7,e8,rfl,rfl,rfl,(show I64 0 from by unfold I64; omega),hC.sE [0,1,2,3,4,5,6,7],hl1⟩ ?_
 have hbK1:=hb
 clear hb hC hl1
 rintro m125 E127 w126 ⟨y,u,e2,e3,e6,e7,e8,e26,e27,e28,L,hC,hl1⟩ K124 hK124
 obtain ⟨m125',o128,rfl,hb,hl1⟩:=loopN_some hl1
 unfold F.mirror_move_mirror_Reflect_c1_mirror_Reflect_c2_b1 at hb
 refine Wc.seq fun _ hK129=>rg<|lp _ (pu_lss e28 e27)<|ln (hK129 _ _ ?_)
 refine Wc.seq fun _ hK130=>?_
 refine Wc.cond (t:=(decide (y<(d.length:Int)))) (rfl) (fun hq131=>?_) (fun hq131=>?_)
 replace hb:=tt hq131 hb
 refine Wc.skip (hK130 _ _ ?_)
 refine Wc.seq fun _ hK132=>?_
 refine Wc.block<|Wc.seq fun _ hK133=>rg<|lp _ (pu_move e28) ?_
 obtain ⟨x134,h135,hb⟩:=bd hb
 obtain ⟨ad136,cs137,hA,hc138,hr139⟩:=hC.elr (i:=1) rfl (get_some h135).2
 subst hA
 refine lp (.pointer (some (ad136.add (y.toNat*1)))) (pu_index (a:=y) underlying22 sizeOf3 e26 e28 (get_some h135).1) ?_
 obtain ⟨rfl,hr139'⟩:=hr139
 refine lv (iv x134) (ld_one isAgg3 rfl (hc138 0 _ rfl))<|lp (iv y) (pu_assign rfl)<|lp (iv x134) (pu_assign rfl)<|ln (hK133 _ _ ?_)
 refine Wc.regionMix [34] (frm [34] ([]:List Fact) [.own 3 si (.slice l q.length o) u]) (fun _=>rfl) mixed (by decide+kernel) (by decide+kernel) fun w141 hw140=>?_
 replace hC:=hC.step (Fr.of_drew hw140)
 have hM:=Fr.refl (fun k=>k∈blocks ([]:List Fact)) w141
 clear hw140
 have hS:=hC
 have hD:Fr (fun k=>k∈blocks (([]:List Fact)++[.own 3 si (.slice l q.length o) u])) w141 w141:=hM.wide
 have S:Beside (([]:List Fact)++[.own 3 si (.slice l q.length o) u]) w141 (.slice l q.length o):=Beside.of (i:=0) rfl
 refine mp (.pointer (some ((⟨gP8,0,none⟩:Addr).add 0))) (pu_field (sz:=1) underlying28 rfl sizeOf22 (by decide) rfl e8)<|mixE.steady hD (v:=.slice l q.length o) (fun _ hF=>ld_fld (hS.bx2 (i:=5) rfl [6] (by decide) hF) isAgg22 rfl rfl)<|mp (iv y) (pu_move rfl)<|mp (iv x134) (pu_move rfl)<|mp (.func (.func 63) #[] #[]) (pu_move e2)<|mp (iv y) (pu_move rfl) ?_
 obtain ⟨y142,h143,hb⟩:=bd hb
 refine mixE.cl hM (⟨_,_,op_callv (vs:=[iv y]) (ca:=#[]) call63 rfl rfl rfl,mirror_Reflect_c2_ok n hC.lt L h143⟩) ?_
 rintro _ w145 ⟨rfl,hr144,hK⟩
 replace hM:=hM.none hK.fr
 replace hD:=hM.wide (H:=[.own 3 si (.slice l q.length o) u])
 refine ⟨hM,?_⟩
 replace hC:=hC.merge hK
 clear hK
 obtain ⟨z146,h147,hb⟩:=bd hb
 refine mp (iv z146) (pu_mulc (a:=x134) (b:=y142) rfl rfl h147) ?_
 obtain ⟨x148,h149,hb⟩:=bd hb
 obtain ⟨ad150,cs151,hA,ho154,hc152,hr153⟩:=hS.elo2 (i:=6) rfl (get_some h149).2 [] (by decide)
 subst hA
 refine mp (.pointer (some (ad150.add (y.toNat*1)))) (pu_index (a:=y) underlying22 sizeOf3 rfl rfl (by rw [(hC.ow (i:=6) rfl).sl_len.1]; exact (get_some h149).1))<|mixE.sk hD (hC.put (i:=6) rfl rfl sizeOf3 (k:=y.toNat) (a:=z146) (by have:=(get_some h149).1; simp at this⊢; omega) (⟨rfl,I64.wr (chk_rng h147)⟩) rfl rfl rfl) ?_
 rintro w155 ⟨hC,hF⟩
 replace hD:=hD.beside S hF
 clear hF
 refine ⟨hD,?_⟩
 refine mixE.nil ?_
 clear hS hM
 clear hD
 refine hK132 _ _<|rg ?_
 obtain ⟨z156,h157,hb⟩:=bd hb
 refine lp (iv z156) (pu_addc (a:=y) (b:=1) e28 rfl h157)<|lp (iv z156) (pu_move rfl)<|ln ?_
 obtain rfl:=os hb
 exact hK124 m125' _ _ (Nat.lt_succ_self _) ⟨z156,(u.set y.toNat z146),e2,e3,e6,e7,e8,e26,e27,rfl,(chk_rng h157),hC.sE [0,1,2,3,4,5,6,7],lN hl1⟩
 replace hb:=tf hq131 hb
 refine Wc.exit rfl ?_
 obtain rfl:=os hb
 obtain rfl:=(lX hl1).symm
 exact hK123 _ _ ⟨y,u,e3,e6,e7,e8,L,hC.sE [0,1,2,3,4,5,6,7],hbK1⟩
 clear hb hC hl1
 rintro E159 w158 ⟨y,u,e3,e6,e7,e8,L,hC,hb⟩
 subst hf122
 refine hK120 _ _ ?_
 refine Wc.seq fun _ hK160=>?_
 refine Wc.seq fun _ hK161=>rg<|lp (.pointer (some ((⟨g4,0,none⟩:Addr).add 1))) (pu_field (sz:=1) underlying28 rfl sizeOf22 (by decide) rfl e3)<|lv (.slice B c.length z) (ld_fld (hC.bx (i:=0) rfl) isAgg22 rfl rfl)<|lp (iv (c.length:Int)) (pu_len (A:=B) (n:=c.length) (m:=z) underlying22 rfl)<|lp (iv 0) (pu_move rfl)<|ln (hK161 _ _ ?_)
 obtain ⟨o162,hl2,f162,hf162,hb⟩:=bn hb
 refine Wc.cut (fun E wv=> ∃(G:Int) (x:List Int),E 6=pg g10∧E 8=pg gP8∧I64 G∧Cx (fun _=>False) O0 w wv [.box g10 28 [.slice none 0 0,.slice none 0 0,iv 0],.box gP8 28 [.slice l q.length o,.slice f j.length g,iv p],.own 3 si (.slice l q.length o) u,.own 3 si (.slice f j.length g) x]∧f162 (G,x)=some r) (fun _ hK163=>?_) ?_
 refine Wc.block ?_
 refine Wc.loop (fun m E wv=> ∃(G:Int) (x:List Int),E 6=pg g10∧E 7=.func (.func 83) #[] #[pg g7]∧E 8=pg gP8∧E 44=.slice B c.length z∧E 45=iv (c.length:Int)∧E 46=iv G∧I64 G∧Cx (fun _=>False) O0 w wv [.box g10 28 [.slice none 0 0,.slice none 0 0,iv 0],.box g7 80 [.func (.func 62) #[] #[]],.box gP8 28 [.slice l q.length o,.slice f j.length g,iv p],.own 3 si (.slice l q.length o) u,.own 3 si (.slice f j.length g) x,.ro (.sl si) [.slice B c.length z] c]∧loopN m (F.mirror_move_mirror_Reflect_c1_mirror_Reflect_c2_b2 n c) (G,x)=some o162) n ⟨0,j,e6,e7,e8,rfl,rfl,rfl,(show I64 0 from by unfold I64; omega),hC.sE [3,4,5,6,7,2],hl2⟩ ?_
 have hbK2:=hb
 clear hb hC hl2
 rintro m165 E167 w166 ⟨G,x,e6,e7,e8,e44,e45,e46,M,hC,hl2⟩ K164 hK164
 obtain ⟨m165',o168,rfl,hb,hl2⟩:=loopN_some hl2
 unfold F.mirror_move_mirror_Reflect_c1_mirror_Reflect_c2_b2 at hb
 refine Wc.seq fun _ hK169=>rg<|lp _ (pu_lss e46 e45)<|ln (hK169 _ _ ?_)
 refine Wc.seq fun _ hK170=>?_
 refine Wc.cond (t:=(decide (G<(c.length:Int)))) (rfl) (fun hq171=>?_) (fun hq171=>?_)
 replace hb:=tt hq171 hb
 refine Wc.skip (hK170 _ _ ?_)
 refine Wc.seq fun _ hK172=>?_
 refine Wc.block<|Wc.seq fun _ hK173=>rg<|lp _ (pu_move e46) ?_
 obtain ⟨x174,h175,hb⟩:=bd hb
 obtain ⟨ad176,cs177,hA,hc178,hr179⟩:=hC.elr (i:=5) rfl (get_some h175).2
 subst hA
 refine lp (.pointer (some (ad176.add (G.toNat*1)))) (pu_index (a:=G) underlying22 sizeOf3 e44 e46 (get_some h175).1) ?_
 obtain ⟨rfl,hr179'⟩:=hr179
 refine lv (iv x174) (ld_one isAgg3 rfl (hc178 0 _ rfl))<|lp (iv G) (pu_assign rfl)<|lp (iv x174) (pu_assign rfl)<|ln (hK173 _ _ ?_)
 refine Wc.regionMix [52] (frm [52] ([]:List Fact) [.own 3 si (.slice f j.length g) x]) (fun _=>rfl) mixed (by decide+kernel) (by decide+kernel) fun w181 hw180=>?_
 replace hC:=hC.step (Fr.of_drew hw180)
 have hM:=Fr.refl (fun k=>k∈blocks ([]:List Fact)) w181
 clear hw180
 have hS:=hC
 have hD:Fr (fun k=>k∈blocks (([]:List Fact)++[.own 3 si (.slice f j.length g) x])) w181 w181:=hM.wide
 have T:Beside (([]:List Fact)++[.own 3 si (.slice f j.length g) x]) w181 (.slice f j.length g):=Beside.of (i:=0) rfl
 refine mp (.pointer (some ((⟨gP8,0,none⟩:Addr).add 1))) (pu_field (sz:=1) underlying28 rfl sizeOf22 (by decide) rfl e8)<|mixE.steady hD (v:=.slice f j.length g) (fun _ hF=>ld_fld (hS.bx2 (i:=2) rfl [4] (by decide) hF) isAgg22 rfl rfl)<|mp (.func (.func 83) #[] #[pg g7]) (pu_move e7)<|mp (iv G) (pu_move rfl) ?_
 replace hC:Cx (fun _=>False) O0 w w181 ([.box g7 80 [.func (.func 62) #[] #[]]]++[.box g10 28 [.slice none 0 0,.slice none 0 0,iv 0],.box gP8 28 [.slice l q.length o,.slice f j.length g,iv p],.own 3 si (.slice l q.length o) u,.own 3 si (.slice f j.length g) x,.ro (.sl si) [.slice (some ad176) c.length z] c]):=hC.sE [1,0,2,3,4,5]
 obtain ⟨y182,h183,hb⟩:=bd hb
 refine mixE.cl hM (⟨_,_,op_callv (vs:=[iv G,pg g7]) (ca:=#[pg g7]) call83 rfl rfl rfl,mirror_move_c1_v3_ok n hC.lt M hC.give h183⟩) ?_
 rintro _ w185 ⟨rfl,hr184,hK⟩
 replace hM:=hM.none (Cx.still (hC.bx (i:=0) rfl) hK)
 replace hD:=hM.wide (H:=[.own 3 si (.slice f j.length g) x])
 refine ⟨hM,?_⟩
 replace hC:=hC.back hK
 clear hK
 refine mp (.func (.func 83) #[] #[pg g7]) (pu_move e7)<|mp (iv x174) (pu_move rfl) ?_
 replace hC:Cx (fun _=>False) O0 w w185 ([.box g7 80 [.func (.func 62) #[] #[]]]++[.box g10 28 [.slice none 0 0,.slice none 0 0,iv 0],.box gP8 28 [.slice l q.length o,.slice f j.length g,iv p],.own 3 si (.slice l q.length o) u,.own 3 si (.slice f j.length g) x,.ro (.sl si) [.slice (some ad176) c.length z] c]):=hC.sE [0,1,2,3,4,5]
 obtain ⟨y186,h187,hb⟩:=bd hb
 refine mixE.cl hM (⟨_,_,op_callv (vs:=[iv x174,pg g7]) (ca:=#[pg g7]) call83 rfl rfl rfl,mirror_move_c1_v3_ok n hC.lt (wrap_I64 hr179') hC.give h187⟩) ?_
 rintro _ w189 ⟨rfl,hr188,hK⟩
 replace hM:=hM.none (Cx.still (hC.bx (i:=0) rfl) hK)
 replace hD:=hM.wide (H:=[.own 3 si (.slice f j.length g) x])
 refine ⟨hM,?_⟩
 replace hC:=hC.back hK
 clear hK
 obtain ⟨x190,h191,hb⟩:=bd hb
 obtain ⟨ad192,cs193,hA,ho196,hc194,hr195⟩:=hS.elo2 (i:=4) rfl (get_some h191).2 [] (by decide)
 subst hA
 refine mp (.pointer (some (ad192.add (y182.toNat*1)))) (pu_index (a:=y182) underlying22 sizeOf3 rfl rfl (by rw [(hC.ow (i:=4) rfl).sl_len.1]; exact (get_some h191).1))<|mixE.sk hD (hC.put (i:=4) rfl rfl sizeOf3 (k:=y182.toNat) (a:=y186) (by have:=(get_some h191).1; simp at this⊢; omega) (⟨rfl,I64.wr hr188⟩) rfl rfl rfl) ?_
 rintro w197 ⟨hC,hF⟩
 replace hD:=hD.beside T hF
 clear hF
 refine ⟨hD,?_⟩
 refine mixE.nil ?_
 clear hS hM
 clear hD
 refine hK172 _ _<|rg ?_
 obtain ⟨z198,h199,hb⟩:=bd hb
 refine lp (iv z198) (pu_addc (a:=G) (b:=1) e46 rfl h199)<|lp (iv z198) (pu_move rfl)<|ln ?_
 obtain rfl:=os hb
 exact hK164 m165' _ _ (Nat.lt_succ_self _) ⟨z198,(x.set y182.toNat y186),e6,e7,e8,e44,e45,rfl,(chk_rng h199),hC.sE [1,0,2,3,4,5],lN hl2⟩
 replace hb:=tf hq171 hb
 refine Wc.exit rfl ?_
 obtain rfl:=os hb
 obtain rfl:=(lX hl2).symm
 exact hK163 _ _ ⟨G,x,e6,e8,M,hC.sE [0,2,3,4],hbK2⟩
 clear hb hC hl2
 rintro E201 w200 ⟨G,x,e6,e8,M,hC,hb⟩
 subst hf162
 refine hK160 _ _<|Wc.seq fun _ hK202=>rg<|lv (.agg #[.slice l q.length o,.slice f j.length g,iv p]) (ld_blk (hC.bx (i:=1) rfl) isAgg28 sizeOf28 e8)<|lex.sk (hC.seta (i:=0) (ds:=[.slice l q.length o,.slice f j.length g,iv p]) rfl type28 rfl rfl rfl e6 rfl) ?_
 rintro w203 ⟨hC,hF⟩
 refine ln (hK202 _ _ ?_)
 obtain rfl:=os hb
 refine Wc.ret (hKR _ _ ?_)
 refine ⟨_,res1 results60 ⟨_,e6,loadVar_blk (hC.bx (i:=0) rfl) isAgg28 sizeOf28⟩,_,rfl,l,q.length,o,f,j.length,g,rfl,U,hC.sE [2,3]⟩
end Go.Proofs.Yticemffhlapnnaa
