import Derived.Test.YtpnppjlnfhlmpaaS
import Derived.Test.YtpnppjlnfhlmpaaG3
import Derived.Test.YtpnppjlnfhlmpaaG4
set_option linter.all false
namespace Go.Proofs.Ytpnppjlnfhlmpaa
open Ev Try
set_option maxRecDepth 100000
set_option maxHeartbeats 4000000
theorem qfc (n:Nat) {w:World} {O0:List Nat} (hO: ∀k∈O0,k<w.heap.size) {c:Int} (c2:I64 c) {U:Option Addr} {b4 P:Nat} {D:List Int} (b5:Rep O0 w (.sl si) [.slice U b4 P] D) {r:(List Int)×(List Int)×Int×Int} (hb:F.qfz n c D=some r):
    Calls prog 8 #[.agg #[iv c,.slice U b4 P]] w fun e w'=> ∃v,e=.returned v∧∃(A0:Option Addr) (m0 c0:Nat) (A1:Option Addr) (m1 c1:Nat),v=.tuple #[.agg #[.slice A0 m0 c0,.slice A1 m1 c1,iv r.2.2.1],iv r.2.2.2]∧I64 r.2.2.1∧I64 r.2.2.2∧Cx (fun _=>False) O0 w w' [.own 3 si (.slice A0 m0 c0) r.1,.own 3 si (.slice A1 m1 c1) r.2.1]:=by
 unfold F.qfz at hb
 have hC:=Cx.start hO
 replace hC:=hC.arg rfl b5
 clear hO
 obtain ⟨rfl,d1,d2⟩:=b5.qae
 refine qao func8 rfl (by rw [ntmps8]; exact nb rfl) fun KR hKR=>?_
 refine Wc.seq fun _ hK2=>rg<|lex.op (hC.box (cs:=[iv c,.slice U D.length P]) rfl rfl) ?_
 rintro _ w4 ⟨g3,rfl,hC,hF,-⟩
 refine lex.op (hC.alloc (cs:=[.slice none 0 0,.slice none 0 0,iv 0]) zeroValue32 rfl) ?_
 rintro _ w7 ⟨g6,rfl,hC,hF,-⟩
 refine lp (iv 0) (qab rfl)<|ln (hK2 _ _ ?_)
 refine Wc.seq fun _ hK9=>?_
 refine Wc.seq fun _ hK10=>rg<|lv (.agg #[iv c,.slice U D.length P]) (qaq (hC.bx (i:=1) rfl) isAgg24 sizeOf24 rfl) ?_
 obtain ⟨y11,h12,hb⟩:=bd hb
 refine lex.cl (⟨_,_,qam (vs:=[.agg #[iv c,.slice U D.length P]]) call5 rfl rfl rfl,qgh n hC.lt c2 (hC.rd (i:=2) rfl) h12⟩) ?_
 rintro _ w13 ⟨rfl,hK⟩
 replace hC:=hC.merge hK
 clear hK
 refine lp (.bool (!y11)) (qbt (q:=y11) rfl)<|ln (hK10 _ _ ?_)
 refine Wc.cond (t:=(!y11)) (rfl) (fun hq14=>?_) (fun hq14=>?_)
 replace hb:=tt hq14 hb
 refine Wc.seq fun _ hK15=>rg<|lp (.agg #[.slice none 0 0,.slice none 0 0,iv 0]) (qat (places:=[(0,1),(1,1),(2,1)]) (pv:=[]) type32 underlying32 rfl (qag type22 (qag type22 (qag type3 qbb rfl rfl) rfl rfl) rfl rfl) rfl (by simp [Instr.fill,Value.cells]))<|lex.sk (hC.seta (i:=0) (ds:=[.slice none 0 0,.slice none 0 0,iv 0]) rfl type32 rfl rfl rfl rfl rfl) ?_
 rintro w16 ⟨hC,hF⟩
 refine lp (iv 1) (qab rfl)<|ln (hK15 _ _ ?_)
 replace hC:=hC.nil 3 si
 replace hC:=hC.nil 3 si
 obtain rfl:=os hb
 refine Wc.ret (hKR _ _ ?_)
 refine ⟨_,res2 results8 ⟨_,rfl,qai (hC.bx (i:=2) rfl) isAgg32 sizeOf32⟩ (tV (iv 1) rfl),_,rfl,none,0,0,none,0,0,rfl,(show I64 0 from by unfold I64; omega),(show I64 1 from by unfold I64; omega),hC.sE [1,0]⟩
 replace hb:=tf hq14 hb
 refine Wc.skip (hK9 _ _ ?_)
 refine Wc.seq fun _ hK19=>?_
 refine Wc.seq fun _ hK20=>rg<|lp (.pointer (some ((⟨g3,0,none⟩:Addr).add 1))) (qaf (sz:=1) underlying24 rfl sizeOf22 (by decide) rfl rfl)<|lv (.slice U D.length P) (qal (hC.bx (i:=1) rfl) isAgg22 rfl rfl)<|lp (iv (D.length:Int)) (qay (A:=U) (n:=D.length) (m:=P) underlying22 rfl)<|lp (.bool (decide (64<(D.length:Int)))) (qfq (k:=.i64) (a:=(D.length:Int)) (b:=64) rfl rfl)<|ln (hK20 _ _ ?_)
 refine Wc.fresh fun E21 hE=>?_
 have e1:E21 1=pg g3:=cg hE 1 rfl
 have e2:E21 2=pg g6:=cg hE 2 rfl
 have e3:E21 3=iv 0:=cg hE 3 rfl
 have e24:E21 24=.bool (decide (64<(D.length:Int))):=cg hE 24 rfl
 clear hE
 refine Wc.cond (t:=(decide (64<(D.length:Int)))) (e24) (fun hq22=>?_) (fun hq22=>?_)
 replace hb:=tt hq22 hb
 refine Wc.seq fun _ hK23=>rg<|lp (.agg #[.slice none 0 0,.slice none 0 0,iv 0]) (qat (places:=[(0,1),(1,1),(2,1)]) (pv:=[]) type32 underlying32 rfl (qag type22 (qag type22 (qag type3 qbb rfl rfl) rfl rfl) rfl rfl) rfl (by simp [Instr.fill,Value.cells]))<|lex.sk (hC.seta (i:=0) (ds:=[.slice none 0 0,.slice none 0 0,iv 0]) rfl type32 rfl rfl rfl e2 rfl) ?_
 rintro w24 ⟨hC,hF⟩
 refine lp (iv 5) (qab rfl)<|ln (hK23 _ _ ?_)
 replace hC:=hC.nil 3 si
 replace hC:=hC.nil 3 si
 obtain rfl:=os hb
 refine Wc.ret (hKR _ _ ?_)
 refine ⟨_,res2 results8 ⟨_,e2,qai (hC.bx (i:=2) rfl) isAgg32 sizeOf32⟩ (tV (iv 5) rfl),_,rfl,none,0,0,none,0,0,rfl,(show I64 0 from by unfold I64; omega),(show I64 5 from by unfold I64; omega),hC.sE [1,0]⟩
 replace hb:=tf hq22 hb
 refine Wc.skip (hK19 _ _ ?_)
 refine Wc.seq fun _ hK27=>rg<|lp (.agg #[iv 0,iv 1,iv 2,iv 3]) (qat (places:=[(0,1),(1,1),(2,1),(3,1)]) (pv:=[(0,iv 0),(1,iv 1),(2,iv 2),(3,iv 3)]) type51 underlying51 rfl (qag type3 (qag type3 (qag type3 (qag type3 qbb rfl rfl) rfl rfl) rfl rfl) rfl rfl) rfl (by simp [Instr.fill,Value.cells]))<|lp (.agg #[iv 3,iv 0,iv 1,iv 2]) (qat (places:=[(0,1),(1,1),(2,1),(3,1)]) (pv:=[(0,iv 3),(1,iv 0),(2,iv 1),(3,iv 2)]) type51 underlying51 rfl (qag type3 (qag type3 (qag type3 (qag type3 qbb rfl rfl) rfl rfl) rfl rfl) rfl rfl) rfl (by simp [Instr.fill,Value.cells]))<|lp (.agg #[iv 0,iv 1,iv 2,iv 3,iv 3,iv 0,iv 1,iv 2]) (pu_builda (pv:=[(0,.agg #[iv 0,iv 1,iv 2,iv 3]),(1,.agg #[iv 3,iv 0,iv 1,iv 2])]) (sz:=4) type52 underlying52 rfl type51 rfl rfl (by simp [Instr.fill,Value.cells]))<|lex.op (hC.alloc (cs:=[iv 0,iv 0,iv 0,iv 0,iv 0,iv 0,iv 0,iv 0]) zeroValue52 rfl) ?_
 rintro _ w29 ⟨g28,rfl,hC,hF,-⟩
 refine lex.sk (hC.seta (i:=0) (ds:=[iv 0,iv 1,iv 2,iv 3,iv 3,iv 0,iv 1,iv 2]) rfl type52 rfl rfl rfl rfl rfl) ?_
 rintro w31 ⟨hC,hF⟩
 refine ln (hK27 _ _ ?_)
 refine Wc.seq fun _ hK32=>rg<|lp (.pointer (some ((⟨g3,0,none⟩:Addr).add 1))) (qaf (sz:=1) underlying24 rfl sizeOf22 (by decide) rfl e1)<|lv (.slice U D.length P) (qal (hC.bx (i:=2) rfl) isAgg22 rfl rfl)<|lp (iv (D.length:Int)) (qay (A:=U) (n:=D.length) (m:=P) underlying22 rfl) ?_
 obtain ⟨z33,h34,hb⟩:=bd hb
 refine lp (iv z33) (qfx (a:=4) (b:=(D.length:Int)) rfl rfl h34) ?_
 obtain ⟨u35,h36,hb⟩:=bd hb
 refine lex.op (hC.make (s:=si) (n:=z33) underlying22 type3 rfl rfl rfl rfl rfl (qaj h36).1 (qaj h36).2 (by decide)) ?_
 rintro _ w41 ⟨A37,c38,rfl,hl39,hc40,hC,-,-⟩
 refine lp (.agg #[.slice none 0 0,.slice A37 (((rZ z33)).length) c38,iv 0]) (qat (places:=[(0,1),(1,1),(2,1)]) (pv:=[(1,.slice A37 (((rZ z33)).length) c38)]) type32 underlying32 rfl (qag type22 (qag type22 (qag type3 qbb rfl rfl) rfl rfl) rfl rfl) rfl (by simp [Instr.fill,Value.cells]))<|lex.op (hC.alloc (cs:=[.slice none 0 0,.slice none 0 0,iv 0]) zeroValue32 rfl) ?_
 rintro _ w44 ⟨g43,rfl,hC,hF,-⟩
 refine lex.sk (hC.seta (i:=0) (ds:=[.slice none 0 0,.slice A37 (((rZ z33)).length) c38,iv 0]) rfl type32 rfl rfl rfl rfl rfl) ?_
 rintro w46 ⟨hC,hF⟩
 refine ln (hK32 _ _ ?_)
 refine Wc.fresh fun E47 hE=>?_
 have e1:=cg hE 1 e1
 have e2:=cg hE 2 e2
 have e3:=cg hE 3 e3
 have e4:E47 4=pg g28:=cg hE 4 rfl
 have e5:E47 5=pg g43:=cg hE 5 rfl
 clear hE
 refine Wc.seqJ (fun E wv=> ∃(gP6:Nat) (gP7:Nat) (u:List Int) (J:List Int) (B:Option Addr) (a6 x:Nat) (G:Option Addr) (a7 C:Nat),E 1=pg g3∧E 2=pg g6∧E 3=iv 0∧E 4=pg g28∧E 5=pg g43∧E 6=pg gP6∧E 7=pg gP7∧Cx (fun _=>False) O0 w wv [.box g3 24 [iv c,.slice U D.length P],.ro (.sl si) [.slice U D.length P] D,.box g6 32 [.slice none 0 0,.slice none 0 0,iv 0],.box g28 52 [iv 0,iv 1,iv 2,iv 3,iv 3,iv 0,iv 1,iv 2],.box g43 32 [.slice none 0 0,.slice A37 (((rZ z33)).length) c38,iv 0],.own 3 si (.slice A37 (((rZ z33)).length) c38) (rZ z33),.box gP6 22 [.slice B a6 x],.own 3 si (.slice B a6 x) u,.box gP7 22 [.slice G a7 C],.own 3 si (.slice G a7 C) J]∧F.qhd n D z33 u J=some r) (fun _ hK48=>?_) ?_
 refine Wc.regionPlan [36,39] (frm [36,39] ([]:List Fact) ([]:List Fact)) (chainP [0,1,3,4] (.alt (chainP [2] (.alt (chainP [5] (.alt (chainP [6] (chainP [7,8,9] .done)) (chainP [7] (chainP [6,8,9] .done)))) (.alt (chainP [6] (.alt (chainP [5] (chainP [7,8,9] .done)) (chainP [7] (.alt (chainP [5] (chainP [8,9] .done)) (chainP [8] (chainP [5,9] .done)))))) (chainP [7] (.alt (chainP [5] (chainP [6,8,9] .done)) (chainP [6] (.alt (chainP [5] (chainP [8,9] .done)) (chainP [8] (chainP [5,9] .done))))))))) (.alt (chainP [5] (.alt (chainP [2] (.alt (chainP [6] (chainP [7,8,9] .done)) (chainP [7] (chainP [6,8,9] .done)))) (.alt (chainP [6] (.alt (chainP [2] (chainP [7,8,9] .done)) (chainP [7] (chainP [2,8,9] .done)))) (chainP [7] (.alt (chainP [2] (chainP [6,8,9] .done)) (chainP [6] (chainP [2,8,9] .done))))))) (.alt (chainP [6] (.alt (chainP [2] (.alt (chainP [5] (chainP [7,8,9] .done)) (chainP [7] (.alt (chainP [5] (chainP [8,9] .done)) (chainP [8] (chainP [5,9] .done)))))) (.alt (chainP [5] (.alt (chainP [2] (chainP [7,8,9] .done)) (chainP [7] (chainP [2,8,9] .done)))) (chainP [7] (.alt (chainP [2] (.alt (chainP [5] (chainP [8,9] .done)) (chainP [8] (chainP [5,9] .done)))) (chainP [5] (chainP [2,8,9] .done))))))) (chainP [7] (.alt (chainP [2] (.alt (chainP [5] (chainP [6,8,9] .done)) (chainP [6] (.alt (chainP [5] (chainP [8,9] .done)) (chainP [8] (chainP [5,9] .done)))))) (.alt (chainP [5] (.alt (chainP [2] (chainP [6,8,9] .done)) (chainP [6] (chainP [2,8,9] .done)))) (chainP [6] (.alt (chainP [2] (.alt (chainP [5] (chainP [8,9] .done)) (chainP [8] (chainP [5,9] .done)))) (chainP [5] (chainP [2,8,9] .done))))))))))) (fun _=>rfl) mixed (by decide+kernel) (by decide+kernel) fun w50 hw49=>?_
 replace hC:=hC.step (Fr.qcx hw49)
 have hM:=Fr.refl (fun k=>k∈blocks ([]:List Fact)) w50
 clear hw49
 have hS:=hC
 have hD:Fr (fun k=>k∈blocks (([]:List Fact)++([]:List Fact))) w50 w50:=hM.wide
 refine qac ?_
 refine mp (.pointer (some ((⟨g3,0,none⟩:Addr).add 0))) (qaf (sz:=1) underlying24 rfl sizeOf3 (by decide) rfl e1)<|mixE.steady hD (v:=iv c) (fun _ hF=>qal (hS.bx2 (i:=4) rfl [] (by decide) hF) isAgg3 rfl rfl)<|mp (.pointer (some ((⟨g3,0,none⟩:Addr).add 0))) (qaf (sz:=1) underlying24 rfl sizeOf3 (by decide) rfl e1)<|mixE.steady hD (v:=iv c) (fun _ hF=>qal (hS.bx2 (i:=4) rfl [] (by decide) hF) isAgg3 rfl rfl)<|mixE.nil ?_
 refine qas ?_ ?_
 refine qac ?_
 obtain ⟨u51,h52,hb⟩:=bd hb
 refine mixE.op hM (hC.make (s:=si) (n:=c) underlying22 type3 rfl rfl rfl rfl rfl (qaj h52).1 (qaj h52).2 (by decide)) ?_
 rintro _ w57 ⟨A53,c54,rfl,hl55,hc56,hC,hF,hN⟩
 have hBf58:=Beside.new hM hN
 have hUf58:=Beside.new (hM.wide (H:=([]:List Fact))) hN
 replace hM:=hM.none hF
 replace hD:=hM.wide (H:=([]:List Fact))
 refine ⟨hM,?_⟩
 clear hF hN
 refine mixE.nil ?_
 refine qas ?_ ?_
 refine qac ?_
 obtain ⟨u59,h60,hb⟩:=bd hb
 refine mixE.op hM (hC.make (s:=si) (n:=c) underlying22 type3 rfl rfl rfl rfl rfl (qaj h60).1 (qaj h60).2 (by decide)) ?_
 rintro _ w65 ⟨A61,c62,rfl,hl63,hc64,hC,hF,hN⟩
 have hBf66:=Beside.new hM hN
 have hUf66:=Beside.new (hM.wide (H:=([]:List Fact))) hN
 replace hM:=hM.none hF
 replace hD:=hM.wide (H:=([]:List Fact))
 refine ⟨hM,?_⟩
 clear hF hN
 refine mixE.nil ?_
 refine qas ?_ ?_
 refine qac ?_
 refine mixE.op hM (hC.alloc (cs:=[.slice none 0 0]) zeroValue22 rfl) ?_
 rintro _ w68 ⟨g67,rfl,hC,hF,hG⟩
 have hUf69:g67<w50.heap.size→g67∈blocks (([]:List Fact)++([]:List Fact)):=fun h=>absurd (Nat.lt_of_lt_of_le h (Nat.le_trans hM.size hG)) (Nat.lt_irrefl _)
 have hVf69:g67<w50.heap.size→g67∈blocks ([]:List Fact):=fun h=>absurd (Nat.lt_of_lt_of_le h (Nat.le_trans hM.size hG)) (Nat.lt_irrefl _)
 clear hG
 replace hM:=hM.none hF
 replace hD:=hM.wide (H:=([]:List Fact))
 refine ⟨hM,?_⟩
 refine mixE.nil ?_
 refine qac ?_
 refine mixE.op hM (hC.alloc (cs:=[.slice none 0 0]) zeroValue22 rfl) ?_
 rintro _ w71 ⟨g70,rfl,hC,hF,hG⟩
 have hUf72:g70<w50.heap.size→g70∈blocks (([]:List Fact)++([]:List Fact)):=fun h=>absurd (Nat.lt_of_lt_of_le h (Nat.le_trans hM.size hG)) (Nat.lt_irrefl _)
 have hVf72:g70<w50.heap.size→g70∈blocks ([]:List Fact):=fun h=>absurd (Nat.lt_of_lt_of_le h (Nat.le_trans hM.size hG)) (Nat.lt_irrefl _)
 clear hG
 replace hM:=hM.none hF
 replace hD:=hM.wide (H:=([]:List Fact))
 refine ⟨hM,?_⟩
 refine mixE.sk hD (hC.setf (i:=1) (k:=0) (v:=.slice A53 (((rZ c)).length) c54) rfl sizeOf22 rfl (by rw [Addr.add_zero']; exact rfl) rfl rfl) ?_
 rintro w73 ⟨hC,hF⟩
 replace hD:=hD.besideG hUf69 hF
 replace hM:=hM.besideG hVf69 hF
 clear hF
 refine ⟨hD,?_⟩
 refine mixE.sk hD (hC.setf (i:=0) (k:=0) (v:=.slice A61 (((rZ c)).length) c62) rfl sizeOf22 rfl (by rw [Addr.add_zero']; exact rfl) rfl rfl) ?_
 rintro w74 ⟨hC,hF⟩
 replace hD:=hD.besideG hUf72 hF
 replace hM:=hM.besideG hVf72 hF
 clear hF
 refine ⟨hD,?_⟩
 refine mixE.nil ?_
 clear hS hM
 clear hD
 exact hK48 _ _ ⟨g67,g70,(rZ c),(rZ c),A53,((rZ c)).length,c54,A61,((rZ c)).length,c62,e1,e2,e3,e4,e5,rfl,rfl,hC.sE [8,9,7,6,4,5,1,3,0,2],hb⟩
 refine qac ?_
 refine mixE.op hM (hC.alloc (cs:=[.slice none 0 0]) zeroValue22 rfl) ?_
 rintro _ w76 ⟨g75,rfl,hC,hF,hG⟩
 have hUf77:g75<w50.heap.size→g75∈blocks (([]:List Fact)++([]:List Fact)):=fun h=>absurd (Nat.lt_of_lt_of_le h (Nat.le_trans hM.size hG)) (Nat.lt_irrefl _)
 have hVf77:g75<w50.heap.size→g75∈blocks ([]:List Fact):=fun h=>absurd (Nat.lt_of_lt_of_le h (Nat.le_trans hM.size hG)) (Nat.lt_irrefl _)
 clear hG
 replace hM:=hM.none hF
 replace hD:=hM.wide (H:=([]:List Fact))
 refine ⟨hM,?_⟩
 refine mixE.nil ?_
 refine qac ?_
 refine mixE.op hM (hC.alloc (cs:=[.slice none 0 0]) zeroValue22 rfl) ?_
 rintro _ w79 ⟨g78,rfl,hC,hF,hG⟩
 have hUf80:g78<w50.heap.size→g78∈blocks (([]:List Fact)++([]:List Fact)):=fun h=>absurd (Nat.lt_of_lt_of_le h (Nat.le_trans hM.size hG)) (Nat.lt_irrefl _)
 have hVf80:g78<w50.heap.size→g78∈blocks ([]:List Fact):=fun h=>absurd (Nat.lt_of_lt_of_le h (Nat.le_trans hM.size hG)) (Nat.lt_irrefl _)
 clear hG
 replace hM:=hM.none hF
 replace hD:=hM.wide (H:=([]:List Fact))
 refine ⟨hM,?_⟩
 refine mixE.sk hD (hC.setf (i:=0) (k:=0) (v:=.slice A53 (((rZ c)).length) c54) rfl sizeOf22 rfl (by rw [Addr.add_zero']; exact rfl) rfl rfl) ?_
 rintro w81 ⟨hC,hF⟩
 replace hD:=hD.besideG hUf80 hF
 replace hM:=hM.besideG hVf80 hF
 clear hF
 refine ⟨hD,?_⟩
 refine mixE.sk hD (hC.setf (i:=1) (k:=0) (v:=.slice A61 (((rZ c)).length) c62) rfl sizeOf22 rfl (by rw [Addr.add_zero']; exact rfl) rfl rfl) ?_
 rintro w82 ⟨hC,hF⟩
 replace hD:=hD.besideG hUf77 hF
 replace hM:=hM.besideG hVf77 hF
 clear hF
 refine ⟨hD,?_⟩
 refine mixE.nil ?_
 clear hS hM
 clear hD
 exact hK48 _ _ ⟨g78,g75,(rZ c),(rZ c),A53,((rZ c)).length,c54,A61,((rZ c)).length,c62,e1,e2,e3,e4,e5,rfl,rfl,hC.sE [8,9,7,6,4,5,0,3,1,2],hb⟩
 refine qas ?_ ?_
 refine qac ?_
 refine mixE.op hM (hC.alloc (cs:=[.slice none 0 0]) zeroValue22 rfl) ?_
 rintro _ w84 ⟨g83,rfl,hC,hF,hG⟩
 have hUf85:g83<w50.heap.size→g83∈blocks (([]:List Fact)++([]:List Fact)):=fun h=>absurd (Nat.lt_of_lt_of_le h (Nat.le_trans hM.size hG)) (Nat.lt_irrefl _)
 have hVf85:g83<w50.heap.size→g83∈blocks ([]:List Fact):=fun h=>absurd (Nat.lt_of_lt_of_le h (Nat.le_trans hM.size hG)) (Nat.lt_irrefl _)
 clear hG
 replace hM:=hM.none hF
 replace hD:=hM.wide (H:=([]:List Fact))
 refine ⟨hM,?_⟩
 refine mixE.nil ?_
 refine qas ?_ ?_
 refine qac ?_
 obtain ⟨u59,h87,hb⟩:=bd hb
 refine mixE.op hM (hC.make (s:=si) (n:=c) underlying22 type3 rfl rfl rfl rfl rfl (qaj h87).1 (qaj h87).2 (by decide)) ?_
 rintro _ w92 ⟨A88,c89,rfl,hl90,hc91,hC,hF,hN⟩
 have hBf93:=Beside.new hM hN
 have hUf93:=Beside.new (hM.wide (H:=([]:List Fact))) hN
 replace hM:=hM.none hF
 replace hD:=hM.wide (H:=([]:List Fact))
 refine ⟨hM,?_⟩
 clear hF hN
 refine mixE.nil ?_
 refine qac ?_
 refine mixE.op hM (hC.alloc (cs:=[.slice none 0 0]) zeroValue22 rfl) ?_
 rintro _ w95 ⟨g94,rfl,hC,hF,hG⟩
 have hUf96:g94<w50.heap.size→g94∈blocks (([]:List Fact)++([]:List Fact)):=fun h=>absurd (Nat.lt_of_lt_of_le h (Nat.le_trans hM.size hG)) (Nat.lt_irrefl _)
 have hVf96:g94<w50.heap.size→g94∈blocks ([]:List Fact):=fun h=>absurd (Nat.lt_of_lt_of_le h (Nat.le_trans hM.size hG)) (Nat.lt_irrefl _)
 clear hG
 replace hM:=hM.none hF
 replace hD:=hM.wide (H:=([]:List Fact))
 refine ⟨hM,?_⟩
 refine mixE.sk hD (hC.setf (i:=2) (k:=0) (v:=.slice A53 (((rZ c)).length) c54) rfl sizeOf22 rfl (by rw [Addr.add_zero']; exact rfl) rfl rfl) ?_
 rintro w97 ⟨hC,hF⟩
 replace hD:=hD.besideG hUf85 hF
 replace hM:=hM.besideG hVf85 hF
 clear hF
 refine ⟨hD,?_⟩
 refine mixE.sk hD (hC.setf (i:=0) (k:=0) (v:=.slice A88 (((rZ c)).length) c89) rfl sizeOf22 rfl (by rw [Addr.add_zero']; exact rfl) rfl rfl) ?_
 rintro w98 ⟨hC,hF⟩
 replace hD:=hD.besideG hUf96 hF
 replace hM:=hM.besideG hVf96 hF
 clear hF
 refine ⟨hD,?_⟩
 refine mixE.nil ?_
 clear hS hM
 clear hD
 exact hK48 _ _ ⟨g83,g94,(rZ c),(rZ c),A53,((rZ c)).length,c54,A88,((rZ c)).length,c89,e1,e2,e3,e4,e5,rfl,rfl,hC.sE [8,9,7,6,4,5,2,3,0,1],hb⟩
 refine qac ?_
 refine mixE.op hM (hC.alloc (cs:=[.slice none 0 0]) zeroValue22 rfl) ?_
 rintro _ w100 ⟨g99,rfl,hC,hF,hG⟩
 have hUf101:g99<w50.heap.size→g99∈blocks (([]:List Fact)++([]:List Fact)):=fun h=>absurd (Nat.lt_of_lt_of_le h (Nat.le_trans hM.size hG)) (Nat.lt_irrefl _)
 have hVf101:g99<w50.heap.size→g99∈blocks ([]:List Fact):=fun h=>absurd (Nat.lt_of_lt_of_le h (Nat.le_trans hM.size hG)) (Nat.lt_irrefl _)
 clear hG
 replace hM:=hM.none hF
 replace hD:=hM.wide (H:=([]:List Fact))
 refine ⟨hM,?_⟩
 refine mixE.nil ?_
 refine qas ?_ ?_
 refine qac ?_
 obtain ⟨u59,h103,hb⟩:=bd hb
 refine mixE.op hM (hC.make (s:=si) (n:=c) underlying22 type3 rfl rfl rfl rfl rfl (qaj h103).1 (qaj h103).2 (by decide)) ?_
 rintro _ w108 ⟨A104,c105,rfl,hl106,hc107,hC,hF,hN⟩
 have hBf109:=Beside.new hM hN
 have hUf109:=Beside.new (hM.wide (H:=([]:List Fact))) hN
 replace hM:=hM.none hF
 replace hD:=hM.wide (H:=([]:List Fact))
 refine ⟨hM,?_⟩
 clear hF hN
 refine mixE.nil ?_
 refine qac ?_
 refine mixE.sk hD (hC.setf (i:=2) (k:=0) (v:=.slice A53 (((rZ c)).length) c54) rfl sizeOf22 rfl (by rw [Addr.add_zero']; exact rfl) rfl rfl) ?_
 rintro w110 ⟨hC,hF⟩
 replace hD:=hD.besideG hUf85 hF
 replace hM:=hM.besideG hVf85 hF
 clear hF
 refine ⟨hD,?_⟩
 refine mixE.sk hD (hC.setf (i:=1) (k:=0) (v:=.slice A104 (((rZ c)).length) c105) rfl sizeOf22 rfl (by rw [Addr.add_zero']; exact rfl) rfl rfl) ?_
 rintro w111 ⟨hC,hF⟩
 replace hD:=hD.besideG hUf101 hF
 replace hM:=hM.besideG hVf101 hF
 clear hF
 refine ⟨hD,?_⟩
 refine mixE.nil ?_
 clear hS hM
 clear hD
 exact hK48 _ _ ⟨g83,g99,(rZ c),(rZ c),A53,((rZ c)).length,c54,A104,((rZ c)).length,c105,e1,e2,e3,e4,e5,rfl,rfl,hC.sE [8,9,7,6,4,5,2,3,1,0],hb⟩
 refine qac ?_
 refine mixE.sk hD (hC.setf (i:=1) (k:=0) (v:=.slice A53 (((rZ c)).length) c54) rfl sizeOf22 rfl (by rw [Addr.add_zero']; exact rfl) rfl rfl) ?_
 rintro w112 ⟨hC,hF⟩
 replace hD:=hD.besideG hUf85 hF
 replace hM:=hM.besideG hVf85 hF
 clear hF
 refine ⟨hD,?_⟩
 refine mixE.nil ?_
 refine qac ?_
 obtain ⟨u59,h114,hb⟩:=bd hb
 refine mixE.op hM (hC.make (s:=si) (n:=c) underlying22 type3 rfl rfl rfl rfl rfl (qaj h114).1 (qaj h114).2 (by decide)) ?_
 rintro _ w119 ⟨A115,c116,rfl,hl117,hc118,hC,hF,hN⟩
 have hBf120:=Beside.new hM hN
 have hUf120:=Beside.new (hM.wide (H:=([]:List Fact))) hN
 replace hM:=hM.none hF
 replace hD:=hM.wide (H:=([]:List Fact))
 refine ⟨hM,?_⟩
 clear hF hN
 refine mixE.sk hD (hC.setf (i:=1) (k:=0) (v:=.slice A115 (((rZ c)).length) c116) rfl sizeOf22 rfl (by rw [Addr.add_zero']; exact rfl) rfl rfl) ?_
 rintro w121 ⟨hC,hF⟩
 replace hD:=hD.besideG hUf101 hF
 replace hM:=hM.besideG hVf101 hF
 clear hF
 refine ⟨hD,?_⟩
 refine mixE.nil ?_
 clear hS hM
 clear hD
 exact hK48 _ _ ⟨g83,g99,(rZ c),(rZ c),A53,((rZ c)).length,c54,A115,((rZ c)).length,c116,e1,e2,e3,e4,e5,rfl,rfl,hC.sE [8,9,7,6,4,5,2,3,1,0],hb⟩
 refine qac ?_
 refine mixE.op hM (hC.alloc (cs:=[.slice none 0 0]) zeroValue22 rfl) ?_
 rintro _ w123 ⟨g122,rfl,hC,hF,hG⟩
 have hUf124:g122<w50.heap.size→g122∈blocks (([]:List Fact)++([]:List Fact)):=fun h=>absurd (Nat.lt_of_lt_of_le h (Nat.le_trans hM.size hG)) (Nat.lt_irrefl _)
 have hVf124:g122<w50.heap.size→g122∈blocks ([]:List Fact):=fun h=>absurd (Nat.lt_of_lt_of_le h (Nat.le_trans hM.size hG)) (Nat.lt_irrefl _)
 clear hG
 replace hM:=hM.none hF
 replace hD:=hM.wide (H:=([]:List Fact))
 refine ⟨hM,?_⟩
 refine mixE.nil ?_
 refine qas ?_ ?_
 refine qac ?_
 obtain ⟨u59,h126,hb⟩:=bd hb
 refine mixE.op hM (hC.make (s:=si) (n:=c) underlying22 type3 rfl rfl rfl rfl rfl (qaj h126).1 (qaj h126).2 (by decide)) ?_
 rintro _ w131 ⟨A127,c128,rfl,hl129,hc130,hC,hF,hN⟩
 have hBf132:=Beside.new hM hN
 have hUf132:=Beside.new (hM.wide (H:=([]:List Fact))) hN
 replace hM:=hM.none hF
 replace hD:=hM.wide (H:=([]:List Fact))
 refine ⟨hM,?_⟩
 clear hF hN
 refine mixE.nil ?_
 refine qac ?_
 refine mixE.op hM (hC.alloc (cs:=[.slice none 0 0]) zeroValue22 rfl) ?_
 rintro _ w134 ⟨g133,rfl,hC,hF,hG⟩
 have hUf135:g133<w50.heap.size→g133∈blocks (([]:List Fact)++([]:List Fact)):=fun h=>absurd (Nat.lt_of_lt_of_le h (Nat.le_trans hM.size hG)) (Nat.lt_irrefl _)
 have hVf135:g133<w50.heap.size→g133∈blocks ([]:List Fact):=fun h=>absurd (Nat.lt_of_lt_of_le h (Nat.le_trans hM.size hG)) (Nat.lt_irrefl _)
 clear hG
 replace hM:=hM.none hF
 replace hD:=hM.wide (H:=([]:List Fact))
 refine ⟨hM,?_⟩
 refine mixE.sk hD (hC.setf (i:=0) (k:=0) (v:=.slice A53 (((rZ c)).length) c54) rfl sizeOf22 rfl (by rw [Addr.add_zero']; exact rfl) rfl rfl) ?_
 rintro w136 ⟨hC,hF⟩
 replace hD:=hD.besideG hUf135 hF
 replace hM:=hM.besideG hVf135 hF
 clear hF
 refine ⟨hD,?_⟩
 refine mixE.sk hD (hC.setf (i:=2) (k:=0) (v:=.slice A127 (((rZ c)).length) c128) rfl sizeOf22 rfl (by rw [Addr.add_zero']; exact rfl) rfl rfl) ?_
 rintro w137 ⟨hC,hF⟩
 replace hD:=hD.besideG hUf124 hF
 replace hM:=hM.besideG hVf124 hF
 clear hF
 refine ⟨hD,?_⟩
 refine mixE.nil ?_
 clear hS hM
 clear hD
 exact hK48 _ _ ⟨g133,g122,(rZ c),(rZ c),A53,((rZ c)).length,c54,A127,((rZ c)).length,c128,e1,e2,e3,e4,e5,rfl,rfl,hC.sE [8,9,7,6,4,5,0,3,2,1],hb⟩
 refine qac ?_
 refine mixE.op hM (hC.alloc (cs:=[.slice none 0 0]) zeroValue22 rfl) ?_
 rintro _ w139 ⟨g138,rfl,hC,hF,hG⟩
 have hUf140:g138<w50.heap.size→g138∈blocks (([]:List Fact)++([]:List Fact)):=fun h=>absurd (Nat.lt_of_lt_of_le h (Nat.le_trans hM.size hG)) (Nat.lt_irrefl _)
 have hVf140:g138<w50.heap.size→g138∈blocks ([]:List Fact):=fun h=>absurd (Nat.lt_of_lt_of_le h (Nat.le_trans hM.size hG)) (Nat.lt_irrefl _)
 clear hG
 replace hM:=hM.none hF
 replace hD:=hM.wide (H:=([]:List Fact))
 refine ⟨hM,?_⟩
 refine mixE.nil ?_
 refine qas ?_ ?_
 refine qac ?_
 obtain ⟨u59,h142,hb⟩:=bd hb
 refine mixE.op hM (hC.make (s:=si) (n:=c) underlying22 type3 rfl rfl rfl rfl rfl (qaj h142).1 (qaj h142).2 (by decide)) ?_
 rintro _ w147 ⟨A143,c144,rfl,hl145,hc146,hC,hF,hN⟩
 have hBf148:=Beside.new hM hN
 have hUf148:=Beside.new (hM.wide (H:=([]:List Fact))) hN
 replace hM:=hM.none hF
 replace hD:=hM.wide (H:=([]:List Fact))
 refine ⟨hM,?_⟩
 clear hF hN
 refine mixE.nil ?_
 refine qac ?_
 refine mixE.sk hD (hC.setf (i:=1) (k:=0) (v:=.slice A53 (((rZ c)).length) c54) rfl sizeOf22 rfl (by rw [Addr.add_zero']; exact rfl) rfl rfl) ?_
 rintro w149 ⟨hC,hF⟩
 replace hD:=hD.besideG hUf140 hF
 replace hM:=hM.besideG hVf140 hF
 clear hF
 refine ⟨hD,?_⟩
 refine mixE.sk hD (hC.setf (i:=2) (k:=0) (v:=.slice A143 (((rZ c)).length) c144) rfl sizeOf22 rfl (by rw [Addr.add_zero']; exact rfl) rfl rfl) ?_
 rintro w150 ⟨hC,hF⟩
 replace hD:=hD.besideG hUf124 hF
 replace hM:=hM.besideG hVf124 hF
 clear hF
 refine ⟨hD,?_⟩
 refine mixE.nil ?_
 clear hS hM
 clear hD
 exact hK48 _ _ ⟨g138,g122,(rZ c),(rZ c),A53,((rZ c)).length,c54,A143,((rZ c)).length,c144,e1,e2,e3,e4,e5,rfl,rfl,hC.sE [8,9,7,6,4,5,1,3,2,0],hb⟩
 refine qac ?_
 refine mixE.sk hD (hC.setf (i:=0) (k:=0) (v:=.slice A53 (((rZ c)).length) c54) rfl sizeOf22 rfl (by rw [Addr.add_zero']; exact rfl) rfl rfl) ?_
 rintro w151 ⟨hC,hF⟩
 replace hD:=hD.besideG hUf140 hF
 replace hM:=hM.besideG hVf140 hF
 clear hF
 refine ⟨hD,?_⟩
 refine mixE.nil ?_
 refine qac ?_
 obtain ⟨u59,h153,hb⟩:=bd hb
 refine mixE.op hM (hC.make (s:=si) (n:=c) underlying22 type3 rfl rfl rfl rfl rfl (qaj h153).1 (qaj h153).2 (by decide)) ?_
 rintro _ w158 ⟨A154,c155,rfl,hl156,hc157,hC,hF,hN⟩
 have hBf159:=Beside.new hM hN
 have hUf159:=Beside.new (hM.wide (H:=([]:List Fact))) hN
 replace hM:=hM.none hF
 replace hD:=hM.wide (H:=([]:List Fact))
 refine ⟨hM,?_⟩
 clear hF hN
 refine mixE.sk hD (hC.setf (i:=2) (k:=0) (v:=.slice A154 (((rZ c)).length) c155) rfl sizeOf22 rfl (by rw [Addr.add_zero']; exact rfl) rfl rfl) ?_
 rintro w160 ⟨hC,hF⟩
 replace hD:=hD.besideG hUf124 hF
 replace hM:=hM.besideG hVf124 hF
 clear hF
 refine ⟨hD,?_⟩
 refine mixE.nil ?_
 clear hS hM
 clear hD
 exact hK48 _ _ ⟨g138,g122,(rZ c),(rZ c),A53,((rZ c)).length,c54,A154,((rZ c)).length,c155,e1,e2,e3,e4,e5,rfl,rfl,hC.sE [8,9,7,6,4,5,1,3,2,0],hb⟩
 refine qas ?_ ?_
 refine qac ?_
 obtain ⟨u51,h162,hb⟩:=bd hb
 refine mixE.op hM (hC.make (s:=si) (n:=c) underlying22 type3 rfl rfl rfl rfl rfl (qaj h162).1 (qaj h162).2 (by decide)) ?_
 rintro _ w167 ⟨A163,c164,rfl,hl165,hc166,hC,hF,hN⟩
 have hBf168:=Beside.new hM hN
 have hUf168:=Beside.new (hM.wide (H:=([]:List Fact))) hN
 replace hM:=hM.none hF
 replace hD:=hM.wide (H:=([]:List Fact))
 refine ⟨hM,?_⟩
 clear hF hN
 refine mixE.nil ?_
 refine qas ?_ ?_
 refine qac ?_
 obtain ⟨u59,h170,hb⟩:=bd hb
 refine mixE.op hM (hC.make (s:=si) (n:=c) underlying22 type3 rfl rfl rfl rfl rfl (qaj h170).1 (qaj h170).2 (by decide)) ?_
 rintro _ w175 ⟨A171,c172,rfl,hl173,hc174,hC,hF,hN⟩
 have hBf176:=Beside.new hM hN
 have hUf176:=Beside.new (hM.wide (H:=([]:List Fact))) hN
 replace hM:=hM.none hF
 replace hD:=hM.wide (H:=([]:List Fact))
 refine ⟨hM,?_⟩
 clear hF hN
 refine mixE.nil ?_
 refine qas ?_ ?_
 refine qac ?_
 refine mixE.op hM (hC.alloc (cs:=[.slice none 0 0]) zeroValue22 rfl) ?_
 rintro _ w178 ⟨g177,rfl,hC,hF,hG⟩
 have hUf179:g177<w50.heap.size→g177∈blocks (([]:List Fact)++([]:List Fact)):=fun h=>absurd (Nat.lt_of_lt_of_le h (Nat.le_trans hM.size hG)) (Nat.lt_irrefl _)
 have hVf179:g177<w50.heap.size→g177∈blocks ([]:List Fact):=fun h=>absurd (Nat.lt_of_lt_of_le h (Nat.le_trans hM.size hG)) (Nat.lt_irrefl _)
 clear hG
 replace hM:=hM.none hF
 replace hD:=hM.wide (H:=([]:List Fact))
 refine ⟨hM,?_⟩
 refine mixE.nil ?_
 refine qac ?_
 refine mixE.op hM (hC.alloc (cs:=[.slice none 0 0]) zeroValue22 rfl) ?_
 rintro _ w181 ⟨g180,rfl,hC,hF,hG⟩
 have hUf182:g180<w50.heap.size→g180∈blocks (([]:List Fact)++([]:List Fact)):=fun h=>absurd (Nat.lt_of_lt_of_le h (Nat.le_trans hM.size hG)) (Nat.lt_irrefl _)
 have hVf182:g180<w50.heap.size→g180∈blocks ([]:List Fact):=fun h=>absurd (Nat.lt_of_lt_of_le h (Nat.le_trans hM.size hG)) (Nat.lt_irrefl _)
 clear hG
 replace hM:=hM.none hF
 replace hD:=hM.wide (H:=([]:List Fact))
 refine ⟨hM,?_⟩
 refine mixE.sk hD (hC.setf (i:=1) (k:=0) (v:=.slice A171 (((rZ c)).length) c172) rfl sizeOf22 rfl (by rw [Addr.add_zero']; exact rfl) rfl rfl) ?_
 rintro w183 ⟨hC,hF⟩
 replace hD:=hD.besideG hUf179 hF
 replace hM:=hM.besideG hVf179 hF
 clear hF
 refine ⟨hD,?_⟩
 refine mixE.sk hD (hC.setf (i:=0) (k:=0) (v:=.slice A163 (((rZ c)).length) c164) rfl sizeOf22 rfl (by rw [Addr.add_zero']; exact rfl) rfl rfl) ?_
 rintro w184 ⟨hC,hF⟩
 replace hD:=hD.besideG hUf182 hF
 replace hM:=hM.besideG hVf182 hF
 clear hF
 refine ⟨hD,?_⟩
 refine mixE.nil ?_
 clear hS hM
 clear hD
 exact hK48 _ _ ⟨g177,g180,(rZ c),(rZ c),A171,((rZ c)).length,c172,A163,((rZ c)).length,c164,e1,e2,e3,e4,e5,rfl,rfl,hC.sE [8,9,7,6,4,5,1,2,0,3],hb⟩
 refine qac ?_
 refine mixE.op hM (hC.alloc (cs:=[.slice none 0 0]) zeroValue22 rfl) ?_
 rintro _ w186 ⟨g185,rfl,hC,hF,hG⟩
 have hUf187:g185<w50.heap.size→g185∈blocks (([]:List Fact)++([]:List Fact)):=fun h=>absurd (Nat.lt_of_lt_of_le h (Nat.le_trans hM.size hG)) (Nat.lt_irrefl _)
 have hVf187:g185<w50.heap.size→g185∈blocks ([]:List Fact):=fun h=>absurd (Nat.lt_of_lt_of_le h (Nat.le_trans hM.size hG)) (Nat.lt_irrefl _)
 clear hG
 replace hM:=hM.none hF
 replace hD:=hM.wide (H:=([]:List Fact))
 refine ⟨hM,?_⟩
 refine mixE.nil ?_
 refine qac ?_
 refine mixE.op hM (hC.alloc (cs:=[.slice none 0 0]) zeroValue22 rfl) ?_
 rintro _ w189 ⟨g188,rfl,hC,hF,hG⟩
 have hUf190:g188<w50.heap.size→g188∈blocks (([]:List Fact)++([]:List Fact)):=fun h=>absurd (Nat.lt_of_lt_of_le h (Nat.le_trans hM.size hG)) (Nat.lt_irrefl _)
 have hVf190:g188<w50.heap.size→g188∈blocks ([]:List Fact):=fun h=>absurd (Nat.lt_of_lt_of_le h (Nat.le_trans hM.size hG)) (Nat.lt_irrefl _)
 clear hG
 replace hM:=hM.none hF
 replace hD:=hM.wide (H:=([]:List Fact))
 refine ⟨hM,?_⟩
 refine mixE.sk hD (hC.setf (i:=0) (k:=0) (v:=.slice A171 (((rZ c)).length) c172) rfl sizeOf22 rfl (by rw [Addr.add_zero']; exact rfl) rfl rfl) ?_
 rintro w191 ⟨hC,hF⟩
 replace hD:=hD.besideG hUf190 hF
 replace hM:=hM.besideG hVf190 hF
 clear hF
 refine ⟨hD,?_⟩
 refine mixE.sk hD (hC.setf (i:=1) (k:=0) (v:=.slice A163 (((rZ c)).length) c164) rfl sizeOf22 rfl (by rw [Addr.add_zero']; exact rfl) rfl rfl) ?_
 rintro w192 ⟨hC,hF⟩
 replace hD:=hD.besideG hUf187 hF
 replace hM:=hM.besideG hVf187 hF
 clear hF
 refine ⟨hD,?_⟩
 refine mixE.nil ?_
 clear hS hM
 clear hD
 exact hK48 _ _ ⟨g188,g185,(rZ c),(rZ c),A171,((rZ c)).length,c172,A163,((rZ c)).length,c164,e1,e2,e3,e4,e5,rfl,rfl,hC.sE [8,9,7,6,4,5,0,2,1,3],hb⟩
 refine qas ?_ ?_
 refine qac ?_
 refine mixE.op hM (hC.alloc (cs:=[.slice none 0 0]) zeroValue22 rfl) ?_
 rintro _ w194 ⟨g193,rfl,hC,hF,hG⟩
 have hUf195:g193<w50.heap.size→g193∈blocks (([]:List Fact)++([]:List Fact)):=fun h=>absurd (Nat.lt_of_lt_of_le h (Nat.le_trans hM.size hG)) (Nat.lt_irrefl _)
 have hVf195:g193<w50.heap.size→g193∈blocks ([]:List Fact):=fun h=>absurd (Nat.lt_of_lt_of_le h (Nat.le_trans hM.size hG)) (Nat.lt_irrefl _)
 clear hG
 replace hM:=hM.none hF
 replace hD:=hM.wide (H:=([]:List Fact))
 refine ⟨hM,?_⟩
 refine mixE.nil ?_
 refine qas ?_ ?_
 refine qac ?_
 obtain ⟨u59,h197,hb⟩:=bd hb
 refine mixE.op hM (hC.make (s:=si) (n:=c) underlying22 type3 rfl rfl rfl rfl rfl (qaj h197).1 (qaj h197).2 (by decide)) ?_
 rintro _ w202 ⟨A198,c199,rfl,hl200,hc201,hC,hF,hN⟩
 have hBf203:=Beside.new hM hN
 have hUf203:=Beside.new (hM.wide (H:=([]:List Fact))) hN
 replace hM:=hM.none hF
 replace hD:=hM.wide (H:=([]:List Fact))
 refine ⟨hM,?_⟩
 clear hF hN
 refine mixE.nil ?_
 refine qac ?_
 refine mixE.op hM (hC.alloc (cs:=[.slice none 0 0]) zeroValue22 rfl) ?_
 rintro _ w205 ⟨g204,rfl,hC,hF,hG⟩
 have hUf206:g204<w50.heap.size→g204∈blocks (([]:List Fact)++([]:List Fact)):=fun h=>absurd (Nat.lt_of_lt_of_le h (Nat.le_trans hM.size hG)) (Nat.lt_irrefl _)
 have hVf206:g204<w50.heap.size→g204∈blocks ([]:List Fact):=fun h=>absurd (Nat.lt_of_lt_of_le h (Nat.le_trans hM.size hG)) (Nat.lt_irrefl _)
 clear hG
 replace hM:=hM.none hF
 replace hD:=hM.wide (H:=([]:List Fact))
 refine ⟨hM,?_⟩
 refine mixE.sk hD (hC.setf (i:=2) (k:=0) (v:=.slice A198 (((rZ c)).length) c199) rfl sizeOf22 rfl (by rw [Addr.add_zero']; exact rfl) rfl rfl) ?_
 rintro w207 ⟨hC,hF⟩
 replace hD:=hD.besideG hUf195 hF
 replace hM:=hM.besideG hVf195 hF
 clear hF
 refine ⟨hD,?_⟩
 refine mixE.sk hD (hC.setf (i:=0) (k:=0) (v:=.slice A163 (((rZ c)).length) c164) rfl sizeOf22 rfl (by rw [Addr.add_zero']; exact rfl) rfl rfl) ?_
 rintro w208 ⟨hC,hF⟩
 replace hD:=hD.besideG hUf206 hF
 replace hM:=hM.besideG hVf206 hF
 clear hF
 refine ⟨hD,?_⟩
 refine mixE.nil ?_
 clear hS hM
 clear hD
 exact hK48 _ _ ⟨g193,g204,(rZ c),(rZ c),A198,((rZ c)).length,c199,A163,((rZ c)).length,c164,e1,e2,e3,e4,e5,rfl,rfl,hC.sE [8,9,7,6,4,5,2,1,0,3],hb⟩
 refine qac ?_
 refine mixE.op hM (hC.alloc (cs:=[.slice none 0 0]) zeroValue22 rfl) ?_
 rintro _ w210 ⟨g209,rfl,hC,hF,hG⟩
 have hUf211:g209<w50.heap.size→g209∈blocks (([]:List Fact)++([]:List Fact)):=fun h=>absurd (Nat.lt_of_lt_of_le h (Nat.le_trans hM.size hG)) (Nat.lt_irrefl _)
 have hVf211:g209<w50.heap.size→g209∈blocks ([]:List Fact):=fun h=>absurd (Nat.lt_of_lt_of_le h (Nat.le_trans hM.size hG)) (Nat.lt_irrefl _)
 clear hG
 replace hM:=hM.none hF
 replace hD:=hM.wide (H:=([]:List Fact))
 refine ⟨hM,?_⟩
 refine mixE.nil ?_
 refine qac ?_
 obtain ⟨u59,h213,hb⟩:=bd hb
 refine mixE.op hM (hC.make (s:=si) (n:=c) underlying22 type3 rfl rfl rfl rfl rfl (qaj h213).1 (qaj h213).2 (by decide)) ?_
 rintro _ w218 ⟨A214,c215,rfl,hl216,hc217,hC,hF,hN⟩
 have hBf219:=Beside.new hM hN
 have hUf219:=Beside.new (hM.wide (H:=([]:List Fact))) hN
 replace hM:=hM.none hF
 replace hD:=hM.wide (H:=([]:List Fact))
 refine ⟨hM,?_⟩
 clear hF hN
 refine mixE.sk hD (hC.setf (i:=2) (k:=0) (v:=.slice A214 (((rZ c)).length) c215) rfl sizeOf22 rfl (by rw [Addr.add_zero']; exact rfl) rfl rfl) ?_
 rintro w220 ⟨hC,hF⟩
 replace hD:=hD.besideG hUf195 hF
 replace hM:=hM.besideG hVf195 hF
 clear hF
 refine ⟨hD,?_⟩
 refine mixE.sk hD (hC.setf (i:=1) (k:=0) (v:=.slice A163 (((rZ c)).length) c164) rfl sizeOf22 rfl (by rw [Addr.add_zero']; exact rfl) rfl rfl) ?_
 rintro w221 ⟨hC,hF⟩
 replace hD:=hD.besideG hUf211 hF
 replace hM:=hM.besideG hVf211 hF
 clear hF
 refine ⟨hD,?_⟩
 refine mixE.nil ?_
 clear hS hM
 clear hD
 exact hK48 _ _ ⟨g193,g209,(rZ c),(rZ c),A214,((rZ c)).length,c215,A163,((rZ c)).length,c164,e1,e2,e3,e4,e5,rfl,rfl,hC.sE [8,9,7,6,4,5,2,0,1,3],hb⟩
 refine qac ?_
 refine mixE.op hM (hC.alloc (cs:=[.slice none 0 0]) zeroValue22 rfl) ?_
 rintro _ w223 ⟨g222,rfl,hC,hF,hG⟩
 have hUf224:g222<w50.heap.size→g222∈blocks (([]:List Fact)++([]:List Fact)):=fun h=>absurd (Nat.lt_of_lt_of_le h (Nat.le_trans hM.size hG)) (Nat.lt_irrefl _)
 have hVf224:g222<w50.heap.size→g222∈blocks ([]:List Fact):=fun h=>absurd (Nat.lt_of_lt_of_le h (Nat.le_trans hM.size hG)) (Nat.lt_irrefl _)
 clear hG
 replace hM:=hM.none hF
 replace hD:=hM.wide (H:=([]:List Fact))
 refine ⟨hM,?_⟩
 refine mixE.nil ?_
 refine qas ?_ ?_
 refine qac ?_
 obtain ⟨u59,h226,hb⟩:=bd hb
 refine mixE.op hM (hC.make (s:=si) (n:=c) underlying22 type3 rfl rfl rfl rfl rfl (qaj h226).1 (qaj h226).2 (by decide)) ?_
 rintro _ w231 ⟨A227,c228,rfl,hl229,hc230,hC,hF,hN⟩
 have hBf232:=Beside.new hM hN
 have hUf232:=Beside.new (hM.wide (H:=([]:List Fact))) hN
 replace hM:=hM.none hF
 replace hD:=hM.wide (H:=([]:List Fact))
 refine ⟨hM,?_⟩
 clear hF hN
 refine mixE.nil ?_
 refine qac ?_
 refine mixE.op hM (hC.alloc (cs:=[.slice none 0 0]) zeroValue22 rfl) ?_
 rintro _ w234 ⟨g233,rfl,hC,hF,hG⟩
 have hUf235:g233<w50.heap.size→g233∈blocks (([]:List Fact)++([]:List Fact)):=fun h=>absurd (Nat.lt_of_lt_of_le h (Nat.le_trans hM.size hG)) (Nat.lt_irrefl _)
 have hVf235:g233<w50.heap.size→g233∈blocks ([]:List Fact):=fun h=>absurd (Nat.lt_of_lt_of_le h (Nat.le_trans hM.size hG)) (Nat.lt_irrefl _)
 clear hG
 replace hM:=hM.none hF
 replace hD:=hM.wide (H:=([]:List Fact))
 refine ⟨hM,?_⟩
 refine mixE.sk hD (hC.setf (i:=0) (k:=0) (v:=.slice A227 (((rZ c)).length) c228) rfl sizeOf22 rfl (by rw [Addr.add_zero']; exact rfl) rfl rfl) ?_
 rintro w236 ⟨hC,hF⟩
 replace hD:=hD.besideG hUf235 hF
 replace hM:=hM.besideG hVf235 hF
 clear hF
 refine ⟨hD,?_⟩
 refine mixE.sk hD (hC.setf (i:=2) (k:=0) (v:=.slice A163 (((rZ c)).length) c164) rfl sizeOf22 rfl (by rw [Addr.add_zero']; exact rfl) rfl rfl) ?_
 rintro w237 ⟨hC,hF⟩
 replace hD:=hD.besideG hUf224 hF
 replace hM:=hM.besideG hVf224 hF
 clear hF
 refine ⟨hD,?_⟩
 refine mixE.nil ?_
 clear hS hM
 clear hD
 exact hK48 _ _ ⟨g233,g222,(rZ c),(rZ c),A227,((rZ c)).length,c228,A163,((rZ c)).length,c164,e1,e2,e3,e4,e5,rfl,rfl,hC.sE [8,9,7,6,4,5,0,1,2,3],hb⟩
 refine qac ?_
 refine mixE.op hM (hC.alloc (cs:=[.slice none 0 0]) zeroValue22 rfl) ?_
 rintro _ w239 ⟨g238,rfl,hC,hF,hG⟩
 have hUf240:g238<w50.heap.size→g238∈blocks (([]:List Fact)++([]:List Fact)):=fun h=>absurd (Nat.lt_of_lt_of_le h (Nat.le_trans hM.size hG)) (Nat.lt_irrefl _)
 have hVf240:g238<w50.heap.size→g238∈blocks ([]:List Fact):=fun h=>absurd (Nat.lt_of_lt_of_le h (Nat.le_trans hM.size hG)) (Nat.lt_irrefl _)
 clear hG
 replace hM:=hM.none hF
 replace hD:=hM.wide (H:=([]:List Fact))
 refine ⟨hM,?_⟩
 refine mixE.nil ?_
 refine qac ?_
 obtain ⟨u59,h242,hb⟩:=bd hb
 refine mixE.op hM (hC.make (s:=si) (n:=c) underlying22 type3 rfl rfl rfl rfl rfl (qaj h242).1 (qaj h242).2 (by decide)) ?_
 rintro _ w247 ⟨A243,c244,rfl,hl245,hc246,hC,hF,hN⟩
 have hBf248:=Beside.new hM hN
 have hUf248:=Beside.new (hM.wide (H:=([]:List Fact))) hN
 replace hM:=hM.none hF
 replace hD:=hM.wide (H:=([]:List Fact))
 refine ⟨hM,?_⟩
 clear hF hN
 refine mixE.sk hD (hC.setf (i:=1) (k:=0) (v:=.slice A243 (((rZ c)).length) c244) rfl sizeOf22 rfl (by rw [Addr.add_zero']; exact rfl) rfl rfl) ?_
 rintro w249 ⟨hC,hF⟩
 replace hD:=hD.besideG hUf240 hF
 replace hM:=hM.besideG hVf240 hF
 clear hF
 refine ⟨hD,?_⟩
 refine mixE.sk hD (hC.setf (i:=2) (k:=0) (v:=.slice A163 (((rZ c)).length) c164) rfl sizeOf22 rfl (by rw [Addr.add_zero']; exact rfl) rfl rfl) ?_
 rintro w250 ⟨hC,hF⟩
 replace hD:=hD.besideG hUf224 hF
 replace hM:=hM.besideG hVf224 hF
 clear hF
 refine ⟨hD,?_⟩
 refine mixE.nil ?_
 clear hS hM
 clear hD
 exact hK48 _ _ ⟨g238,g222,(rZ c),(rZ c),A243,((rZ c)).length,c244,A163,((rZ c)).length,c164,e1,e2,e3,e4,e5,rfl,rfl,hC.sE [8,9,7,6,4,5,1,0,2,3],hb⟩
 refine qas ?_ ?_
 refine qac ?_
 refine mixE.op hM (hC.alloc (cs:=[.slice none 0 0]) zeroValue22 rfl) ?_
 rintro _ w252 ⟨g251,rfl,hC,hF,hG⟩
 have hUf253:g251<w50.heap.size→g251∈blocks (([]:List Fact)++([]:List Fact)):=fun h=>absurd (Nat.lt_of_lt_of_le h (Nat.le_trans hM.size hG)) (Nat.lt_irrefl _)
 have hVf253:g251<w50.heap.size→g251∈blocks ([]:List Fact):=fun h=>absurd (Nat.lt_of_lt_of_le h (Nat.le_trans hM.size hG)) (Nat.lt_irrefl _)
 clear hG
 replace hM:=hM.none hF
 replace hD:=hM.wide (H:=([]:List Fact))
 refine ⟨hM,?_⟩
 refine mixE.nil ?_
 refine qas ?_ ?_
 refine qac ?_
 obtain ⟨u51,h255,hb⟩:=bd hb
 refine mixE.op hM (hC.make (s:=si) (n:=c) underlying22 type3 rfl rfl rfl rfl rfl (qaj h255).1 (qaj h255).2 (by decide)) ?_
 rintro _ w260 ⟨A256,c257,rfl,hl258,hc259,hC,hF,hN⟩
 have hBf261:=Beside.new hM hN
 have hUf261:=Beside.new (hM.wide (H:=([]:List Fact))) hN
 replace hM:=hM.none hF
 replace hD:=hM.wide (H:=([]:List Fact))
 refine ⟨hM,?_⟩
 clear hF hN
 refine mixE.nil ?_
 refine qas ?_ ?_
 refine qac ?_
 obtain ⟨u59,h263,hb⟩:=bd hb
 refine mixE.op hM (hC.make (s:=si) (n:=c) underlying22 type3 rfl rfl rfl rfl rfl (qaj h263).1 (qaj h263).2 (by decide)) ?_
 rintro _ w268 ⟨A264,c265,rfl,hl266,hc267,hC,hF,hN⟩
 have hBf269:=Beside.new hM hN
 have hUf269:=Beside.new (hM.wide (H:=([]:List Fact))) hN
 replace hM:=hM.none hF
 replace hD:=hM.wide (H:=([]:List Fact))
 refine ⟨hM,?_⟩
 clear hF hN
 refine mixE.nil ?_
 refine qac ?_
 refine mixE.op hM (hC.alloc (cs:=[.slice none 0 0]) zeroValue22 rfl) ?_
 rintro _ w271 ⟨g270,rfl,hC,hF,hG⟩
 have hUf272:g270<w50.heap.size→g270∈blocks (([]:List Fact)++([]:List Fact)):=fun h=>absurd (Nat.lt_of_lt_of_le h (Nat.le_trans hM.size hG)) (Nat.lt_irrefl _)
 have hVf272:g270<w50.heap.size→g270∈blocks ([]:List Fact):=fun h=>absurd (Nat.lt_of_lt_of_le h (Nat.le_trans hM.size hG)) (Nat.lt_irrefl _)
 clear hG
 replace hM:=hM.none hF
 replace hD:=hM.wide (H:=([]:List Fact))
 refine ⟨hM,?_⟩
 refine mixE.sk hD (hC.setf (i:=3) (k:=0) (v:=.slice A256 (((rZ c)).length) c257) rfl sizeOf22 rfl (by rw [Addr.add_zero']; exact rfl) rfl rfl) ?_
 rintro w273 ⟨hC,hF⟩
 replace hD:=hD.besideG hUf253 hF
 replace hM:=hM.besideG hVf253 hF
 clear hF
 refine ⟨hD,?_⟩
 refine mixE.sk hD (hC.setf (i:=0) (k:=0) (v:=.slice A264 (((rZ c)).length) c265) rfl sizeOf22 rfl (by rw [Addr.add_zero']; exact rfl) rfl rfl) ?_
 rintro w274 ⟨hC,hF⟩
 replace hD:=hD.besideG hUf272 hF
 replace hM:=hM.besideG hVf272 hF
 clear hF
 refine ⟨hD,?_⟩
 refine mixE.nil ?_
 clear hS hM
 clear hD
 exact hK48 _ _ ⟨g251,g270,(rZ c),(rZ c),A256,((rZ c)).length,c257,A264,((rZ c)).length,c265,e1,e2,e3,e4,e5,rfl,rfl,hC.sE [8,9,7,6,4,5,3,2,0,1],hb⟩
 refine qac ?_
 refine mixE.op hM (hC.alloc (cs:=[.slice none 0 0]) zeroValue22 rfl) ?_
 rintro _ w276 ⟨g275,rfl,hC,hF,hG⟩
 have hUf277:g275<w50.heap.size→g275∈blocks (([]:List Fact)++([]:List Fact)):=fun h=>absurd (Nat.lt_of_lt_of_le h (Nat.le_trans hM.size hG)) (Nat.lt_irrefl _)
 have hVf277:g275<w50.heap.size→g275∈blocks ([]:List Fact):=fun h=>absurd (Nat.lt_of_lt_of_le h (Nat.le_trans hM.size hG)) (Nat.lt_irrefl _)
 clear hG
 replace hM:=hM.none hF
 replace hD:=hM.wide (H:=([]:List Fact))
 refine ⟨hM,?_⟩
 refine mixE.nil ?_
 refine qas ?_ ?_
 refine qac ?_
 obtain ⟨u59,h279,hb⟩:=bd hb
 refine mixE.op hM (hC.make (s:=si) (n:=c) underlying22 type3 rfl rfl rfl rfl rfl (qaj h279).1 (qaj h279).2 (by decide)) ?_
 rintro _ w284 ⟨A280,c281,rfl,hl282,hc283,hC,hF,hN⟩
 have hBf285:=Beside.new hM hN
 have hUf285:=Beside.new (hM.wide (H:=([]:List Fact))) hN
 replace hM:=hM.none hF
 replace hD:=hM.wide (H:=([]:List Fact))
 refine ⟨hM,?_⟩
 clear hF hN
 refine mixE.nil ?_
 refine qac ?_
 refine mixE.sk hD (hC.setf (i:=3) (k:=0) (v:=.slice A256 (((rZ c)).length) c257) rfl sizeOf22 rfl (by rw [Addr.add_zero']; exact rfl) rfl rfl) ?_
 rintro w286 ⟨hC,hF⟩
 replace hD:=hD.besideG hUf253 hF
 replace hM:=hM.besideG hVf253 hF
 clear hF
 refine ⟨hD,?_⟩
 refine mixE.sk hD (hC.setf (i:=1) (k:=0) (v:=.slice A280 (((rZ c)).length) c281) rfl sizeOf22 rfl (by rw [Addr.add_zero']; exact rfl) rfl rfl) ?_
 rintro w287 ⟨hC,hF⟩
 replace hD:=hD.besideG hUf277 hF
 replace hM:=hM.besideG hVf277 hF
 clear hF
 refine ⟨hD,?_⟩
 refine mixE.nil ?_
 clear hS hM
 clear hD
 exact hK48 _ _ ⟨g251,g275,(rZ c),(rZ c),A256,((rZ c)).length,c257,A280,((rZ c)).length,c281,e1,e2,e3,e4,e5,rfl,rfl,hC.sE [8,9,7,6,4,5,3,2,1,0],hb⟩
 refine qac ?_
 refine mixE.sk hD (hC.setf (i:=2) (k:=0) (v:=.slice A256 (((rZ c)).length) c257) rfl sizeOf22 rfl (by rw [Addr.add_zero']; exact rfl) rfl rfl) ?_
 rintro w288 ⟨hC,hF⟩
 replace hD:=hD.besideG hUf253 hF
 replace hM:=hM.besideG hVf253 hF
 clear hF
 refine ⟨hD,?_⟩
 refine mixE.nil ?_
 refine qac ?_
 obtain ⟨u59,h290,hb⟩:=bd hb
 refine mixE.op hM (hC.make (s:=si) (n:=c) underlying22 type3 rfl rfl rfl rfl rfl (qaj h290).1 (qaj h290).2 (by decide)) ?_
 rintro _ w295 ⟨A291,c292,rfl,hl293,hc294,hC,hF,hN⟩
 have hBf296:=Beside.new hM hN
 have hUf296:=Beside.new (hM.wide (H:=([]:List Fact))) hN
 replace hM:=hM.none hF
 replace hD:=hM.wide (H:=([]:List Fact))
 refine ⟨hM,?_⟩
 clear hF hN
 refine mixE.sk hD (hC.setf (i:=1) (k:=0) (v:=.slice A291 (((rZ c)).length) c292) rfl sizeOf22 rfl (by rw [Addr.add_zero']; exact rfl) rfl rfl) ?_
 rintro w297 ⟨hC,hF⟩
 replace hD:=hD.besideG hUf277 hF
 replace hM:=hM.besideG hVf277 hF
 clear hF
 refine ⟨hD,?_⟩
 refine mixE.nil ?_
 clear hS hM
 clear hD
 exact hK48 _ _ ⟨g251,g275,(rZ c),(rZ c),A256,((rZ c)).length,c257,A291,((rZ c)).length,c292,e1,e2,e3,e4,e5,rfl,rfl,hC.sE [8,9,7,6,4,5,3,2,1,0],hb⟩
 refine qas ?_ ?_
 refine qac ?_
 obtain ⟨u51,h299,hb⟩:=bd hb
 refine mixE.op hM (hC.make (s:=si) (n:=c) underlying22 type3 rfl rfl rfl rfl rfl (qaj h299).1 (qaj h299).2 (by decide)) ?_
 rintro _ w304 ⟨A300,c301,rfl,hl302,hc303,hC,hF,hN⟩
 have hBf305:=Beside.new hM hN
 have hUf305:=Beside.new (hM.wide (H:=([]:List Fact))) hN
 replace hM:=hM.none hF
 replace hD:=hM.wide (H:=([]:List Fact))
 refine ⟨hM,?_⟩
 clear hF hN
 refine mixE.nil ?_
 refine qas ?_ ?_
 refine qac ?_
 obtain ⟨u59,h307,hb⟩:=bd hb
 refine mixE.op hM (hC.make (s:=si) (n:=c) underlying22 type3 rfl rfl rfl rfl rfl (qaj h307).1 (qaj h307).2 (by decide)) ?_
 rintro _ w312 ⟨A308,c309,rfl,hl310,hc311,hC,hF,hN⟩
 have hBf313:=Beside.new hM hN
 have hUf313:=Beside.new (hM.wide (H:=([]:List Fact))) hN
 replace hM:=hM.none hF
 replace hD:=hM.wide (H:=([]:List Fact))
 refine ⟨hM,?_⟩
 clear hF hN
 refine mixE.nil ?_
 refine qac ?_
 refine mixE.op hM (hC.alloc (cs:=[.slice none 0 0]) zeroValue22 rfl) ?_
 rintro _ w315 ⟨g314,rfl,hC,hF,hG⟩
 have hUf316:g314<w50.heap.size→g314∈blocks (([]:List Fact)++([]:List Fact)):=fun h=>absurd (Nat.lt_of_lt_of_le h (Nat.le_trans hM.size hG)) (Nat.lt_irrefl _)
 have hVf316:g314<w50.heap.size→g314∈blocks ([]:List Fact):=fun h=>absurd (Nat.lt_of_lt_of_le h (Nat.le_trans hM.size hG)) (Nat.lt_irrefl _)
 clear hG
 replace hM:=hM.none hF
 replace hD:=hM.wide (H:=([]:List Fact))
 refine ⟨hM,?_⟩
 refine mixE.sk hD (hC.setf (i:=3) (k:=0) (v:=.slice A308 (((rZ c)).length) c309) rfl sizeOf22 rfl (by rw [Addr.add_zero']; exact rfl) rfl rfl) ?_
 rintro w317 ⟨hC,hF⟩
 replace hD:=hD.besideG hUf253 hF
 replace hM:=hM.besideG hVf253 hF
 clear hF
 refine ⟨hD,?_⟩
 refine mixE.sk hD (hC.setf (i:=0) (k:=0) (v:=.slice A300 (((rZ c)).length) c301) rfl sizeOf22 rfl (by rw [Addr.add_zero']; exact rfl) rfl rfl) ?_
 rintro w318 ⟨hC,hF⟩
 replace hD:=hD.besideG hUf316 hF
 replace hM:=hM.besideG hVf316 hF
 clear hF
 refine ⟨hD,?_⟩
 refine mixE.nil ?_
 clear hS hM
 clear hD
 exact hK48 _ _ ⟨g251,g314,(rZ c),(rZ c),A308,((rZ c)).length,c309,A300,((rZ c)).length,c301,e1,e2,e3,e4,e5,rfl,rfl,hC.sE [8,9,7,6,4,5,3,1,0,2],hb⟩
 refine qac ?_
 refine mixE.op hM (hC.alloc (cs:=[.slice none 0 0]) zeroValue22 rfl) ?_
 rintro _ w320 ⟨g319,rfl,hC,hF,hG⟩
 have hUf321:g319<w50.heap.size→g319∈blocks (([]:List Fact)++([]:List Fact)):=fun h=>absurd (Nat.lt_of_lt_of_le h (Nat.le_trans hM.size hG)) (Nat.lt_irrefl _)
 have hVf321:g319<w50.heap.size→g319∈blocks ([]:List Fact):=fun h=>absurd (Nat.lt_of_lt_of_le h (Nat.le_trans hM.size hG)) (Nat.lt_irrefl _)
 clear hG
 replace hM:=hM.none hF
 replace hD:=hM.wide (H:=([]:List Fact))
 refine ⟨hM,?_⟩
 refine mixE.nil ?_
 refine qac ?_
 obtain ⟨u59,h323,hb⟩:=bd hb
 refine mixE.op hM (hC.make (s:=si) (n:=c) underlying22 type3 rfl rfl rfl rfl rfl (qaj h323).1 (qaj h323).2 (by decide)) ?_
 rintro _ w328 ⟨A324,c325,rfl,hl326,hc327,hC,hF,hN⟩
 have hBf329:=Beside.new hM hN
 have hUf329:=Beside.new (hM.wide (H:=([]:List Fact))) hN
 replace hM:=hM.none hF
 replace hD:=hM.wide (H:=([]:List Fact))
 refine ⟨hM,?_⟩
 clear hF hN
 refine mixE.sk hD (hC.setf (i:=3) (k:=0) (v:=.slice A324 (((rZ c)).length) c325) rfl sizeOf22 rfl (by rw [Addr.add_zero']; exact rfl) rfl rfl) ?_
 rintro w330 ⟨hC,hF⟩
 replace hD:=hD.besideG hUf253 hF
 replace hM:=hM.besideG hVf253 hF
 clear hF
 refine ⟨hD,?_⟩
 refine mixE.sk hD (hC.setf (i:=1) (k:=0) (v:=.slice A300 (((rZ c)).length) c301) rfl sizeOf22 rfl (by rw [Addr.add_zero']; exact rfl) rfl rfl) ?_
 rintro w331 ⟨hC,hF⟩
 replace hD:=hD.besideG hUf321 hF
 replace hM:=hM.besideG hVf321 hF
 clear hF
 refine ⟨hD,?_⟩
 refine mixE.nil ?_
 clear hS hM
 clear hD
 exact hK48 _ _ ⟨g251,g319,(rZ c),(rZ c),A324,((rZ c)).length,c325,A300,((rZ c)).length,c301,e1,e2,e3,e4,e5,rfl,rfl,hC.sE [8,9,7,6,4,5,3,0,1,2],hb⟩
 refine qac ?_
 refine mixE.op hM (hC.alloc (cs:=[.slice none 0 0]) zeroValue22 rfl) ?_
 rintro _ w333 ⟨g332,rfl,hC,hF,hG⟩
 have hUf334:g332<w50.heap.size→g332∈blocks (([]:List Fact)++([]:List Fact)):=fun h=>absurd (Nat.lt_of_lt_of_le h (Nat.le_trans hM.size hG)) (Nat.lt_irrefl _)
 have hVf334:g332<w50.heap.size→g332∈blocks ([]:List Fact):=fun h=>absurd (Nat.lt_of_lt_of_le h (Nat.le_trans hM.size hG)) (Nat.lt_irrefl _)
 clear hG
 replace hM:=hM.none hF
 replace hD:=hM.wide (H:=([]:List Fact))
 refine ⟨hM,?_⟩
 refine mixE.nil ?_
 refine qas ?_ ?_
 refine qac ?_
 obtain ⟨u51,h336,hb⟩:=bd hb
 refine mixE.op hM (hC.make (s:=si) (n:=c) underlying22 type3 rfl rfl rfl rfl rfl (qaj h336).1 (qaj h336).2 (by decide)) ?_
 rintro _ w341 ⟨A337,c338,rfl,hl339,hc340,hC,hF,hN⟩
 have hBf342:=Beside.new hM hN
 have hUf342:=Beside.new (hM.wide (H:=([]:List Fact))) hN
 replace hM:=hM.none hF
 replace hD:=hM.wide (H:=([]:List Fact))
 refine ⟨hM,?_⟩
 clear hF hN
 refine mixE.nil ?_
 refine qas ?_ ?_
 refine qac ?_
 obtain ⟨u59,h344,hb⟩:=bd hb
 refine mixE.op hM (hC.make (s:=si) (n:=c) underlying22 type3 rfl rfl rfl rfl rfl (qaj h344).1 (qaj h344).2 (by decide)) ?_
 rintro _ w349 ⟨A345,c346,rfl,hl347,hc348,hC,hF,hN⟩
 have hBf350:=Beside.new hM hN
 have hUf350:=Beside.new (hM.wide (H:=([]:List Fact))) hN
 replace hM:=hM.none hF
 replace hD:=hM.wide (H:=([]:List Fact))
 refine ⟨hM,?_⟩
 clear hF hN
 refine mixE.nil ?_
 refine qac ?_
 refine mixE.sk hD (hC.setf (i:=3) (k:=0) (v:=.slice A337 (((rZ c)).length) c338) rfl sizeOf22 rfl (by rw [Addr.add_zero']; exact rfl) rfl rfl) ?_
 rintro w351 ⟨hC,hF⟩
 replace hD:=hD.besideG hUf253 hF
 replace hM:=hM.besideG hVf253 hF
 clear hF
 refine ⟨hD,?_⟩
 refine mixE.sk hD (hC.setf (i:=2) (k:=0) (v:=.slice A345 (((rZ c)).length) c346) rfl sizeOf22 rfl (by rw [Addr.add_zero']; exact rfl) rfl rfl) ?_
 rintro w352 ⟨hC,hF⟩
 replace hD:=hD.besideG hUf334 hF
 replace hM:=hM.besideG hVf334 hF
 clear hF
 refine ⟨hD,?_⟩
 refine mixE.nil ?_
 clear hS hM
 clear hD
 exact hK48 _ _ ⟨g251,g332,(rZ c),(rZ c),A337,((rZ c)).length,c338,A345,((rZ c)).length,c346,e1,e2,e3,e4,e5,rfl,rfl,hC.sE [8,9,7,6,4,5,3,1,2,0],hb⟩
 refine qac ?_
 refine mixE.sk hD (hC.setf (i:=2) (k:=0) (v:=.slice A337 (((rZ c)).length) c338) rfl sizeOf22 rfl (by rw [Addr.add_zero']; exact rfl) rfl rfl) ?_
 rintro w353 ⟨hC,hF⟩
 replace hD:=hD.besideG hUf253 hF
 replace hM:=hM.besideG hVf253 hF
 clear hF
 refine ⟨hD,?_⟩
 refine mixE.nil ?_
 refine qac ?_
 obtain ⟨u59,h355,hb⟩:=bd hb
 refine mixE.op hM (hC.make (s:=si) (n:=c) underlying22 type3 rfl rfl rfl rfl rfl (qaj h355).1 (qaj h355).2 (by decide)) ?_
 rintro _ w360 ⟨A356,c357,rfl,hl358,hc359,hC,hF,hN⟩
 have hBf361:=Beside.new hM hN
 have hUf361:=Beside.new (hM.wide (H:=([]:List Fact))) hN
 replace hM:=hM.none hF
 replace hD:=hM.wide (H:=([]:List Fact))
 refine ⟨hM,?_⟩
 clear hF hN
 refine mixE.sk hD (hC.setf (i:=2) (k:=0) (v:=.slice A356 (((rZ c)).length) c357) rfl sizeOf22 rfl (by rw [Addr.add_zero']; exact rfl) rfl rfl) ?_
 rintro w362 ⟨hC,hF⟩
 replace hD:=hD.besideG hUf334 hF
 replace hM:=hM.besideG hVf334 hF
 clear hF
 refine ⟨hD,?_⟩
 refine mixE.nil ?_
 clear hS hM
 clear hD
 exact hK48 _ _ ⟨g251,g332,(rZ c),(rZ c),A337,((rZ c)).length,c338,A356,((rZ c)).length,c357,e1,e2,e3,e4,e5,rfl,rfl,hC.sE [8,9,7,6,4,5,3,1,2,0],hb⟩
 refine qac ?_
 obtain ⟨u51,h364,hb⟩:=bd hb
 refine mixE.op hM (hC.make (s:=si) (n:=c) underlying22 type3 rfl rfl rfl rfl rfl (qaj h364).1 (qaj h364).2 (by decide)) ?_
 rintro _ w369 ⟨A365,c366,rfl,hl367,hc368,hC,hF,hN⟩
 have hBf370:=Beside.new hM hN
 have hUf370:=Beside.new (hM.wide (H:=([]:List Fact))) hN
 replace hM:=hM.none hF
 replace hD:=hM.wide (H:=([]:List Fact))
 refine ⟨hM,?_⟩
 clear hF hN
 refine mixE.nil ?_
 refine qac ?_
 obtain ⟨u59,h372,hb⟩:=bd hb
 refine mixE.op hM (hC.make (s:=si) (n:=c) underlying22 type3 rfl rfl rfl rfl rfl (qaj h372).1 (qaj h372).2 (by decide)) ?_
 rintro _ w377 ⟨A373,c374,rfl,hl375,hc376,hC,hF,hN⟩
 have hBf378:=Beside.new hM hN
 have hUf378:=Beside.new (hM.wide (H:=([]:List Fact))) hN
 replace hM:=hM.none hF
 replace hD:=hM.wide (H:=([]:List Fact))
 refine ⟨hM,?_⟩
 clear hF hN
 refine mixE.sk hD (hC.setf (i:=3) (k:=0) (v:=.slice A373 (((rZ c)).length) c374) rfl sizeOf22 rfl (by rw [Addr.add_zero']; exact rfl) rfl rfl) ?_
 rintro w379 ⟨hC,hF⟩
 replace hD:=hD.besideG hUf253 hF
 replace hM:=hM.besideG hVf253 hF
 clear hF
 refine ⟨hD,?_⟩
 refine mixE.sk hD (hC.setf (i:=2) (k:=0) (v:=.slice A365 (((rZ c)).length) c366) rfl sizeOf22 rfl (by rw [Addr.add_zero']; exact rfl) rfl rfl) ?_
 rintro w380 ⟨hC,hF⟩
 replace hD:=hD.besideG hUf334 hF
 replace hM:=hM.besideG hVf334 hF
 clear hF
 refine ⟨hD,?_⟩
 refine mixE.nil ?_
 clear hS hM
 clear hD
 exact hK48 _ _ ⟨g251,g332,(rZ c),(rZ c),A373,((rZ c)).length,c374,A365,((rZ c)).length,c366,e1,e2,e3,e4,e5,rfl,rfl,hC.sE [8,9,7,6,4,5,3,0,2,1],hb⟩
 refine qac ?_
 refine mixE.op hM (hC.alloc (cs:=[.slice none 0 0]) zeroValue22 rfl) ?_
 rintro _ w382 ⟨g381,rfl,hC,hF,hG⟩
 have hUf383:g381<w50.heap.size→g381∈blocks (([]:List Fact)++([]:List Fact)):=fun h=>absurd (Nat.lt_of_lt_of_le h (Nat.le_trans hM.size hG)) (Nat.lt_irrefl _)
 have hVf383:g381<w50.heap.size→g381∈blocks ([]:List Fact):=fun h=>absurd (Nat.lt_of_lt_of_le h (Nat.le_trans hM.size hG)) (Nat.lt_irrefl _)
 clear hG
 replace hM:=hM.none hF
 replace hD:=hM.wide (H:=([]:List Fact))
 refine ⟨hM,?_⟩
 refine mixE.nil ?_
 refine qas ?_ ?_
 refine qac ?_
 obtain ⟨u51,h385,hb⟩:=bd hb
 refine mixE.op hM (hC.make (s:=si) (n:=c) underlying22 type3 rfl rfl rfl rfl rfl (qaj h385).1 (qaj h385).2 (by decide)) ?_
 rintro _ w390 ⟨A386,c387,rfl,hl388,hc389,hC,hF,hN⟩
 have hBf391:=Beside.new hM hN
 have hUf391:=Beside.new (hM.wide (H:=([]:List Fact))) hN
 replace hM:=hM.none hF
 replace hD:=hM.wide (H:=([]:List Fact))
 refine ⟨hM,?_⟩
 clear hF hN
 refine mixE.nil ?_
 refine qas ?_ ?_
 refine qac ?_
 obtain ⟨u59,h393,hb⟩:=bd hb
 refine mixE.op hM (hC.make (s:=si) (n:=c) underlying22 type3 rfl rfl rfl rfl rfl (qaj h393).1 (qaj h393).2 (by decide)) ?_
 rintro _ w398 ⟨A394,c395,rfl,hl396,hc397,hC,hF,hN⟩
 have hBf399:=Beside.new hM hN
 have hUf399:=Beside.new (hM.wide (H:=([]:List Fact))) hN
 replace hM:=hM.none hF
 replace hD:=hM.wide (H:=([]:List Fact))
 refine ⟨hM,?_⟩
 clear hF hN
 refine mixE.nil ?_
 refine qac ?_
 refine mixE.op hM (hC.alloc (cs:=[.slice none 0 0]) zeroValue22 rfl) ?_
 rintro _ w401 ⟨g400,rfl,hC,hF,hG⟩
 have hUf402:g400<w50.heap.size→g400∈blocks (([]:List Fact)++([]:List Fact)):=fun h=>absurd (Nat.lt_of_lt_of_le h (Nat.le_trans hM.size hG)) (Nat.lt_irrefl _)
 have hVf402:g400<w50.heap.size→g400∈blocks ([]:List Fact):=fun h=>absurd (Nat.lt_of_lt_of_le h (Nat.le_trans hM.size hG)) (Nat.lt_irrefl _)
 clear hG
 replace hM:=hM.none hF
 replace hD:=hM.wide (H:=([]:List Fact))
 refine ⟨hM,?_⟩
 refine mixE.sk hD (hC.setf (i:=0) (k:=0) (v:=.slice A386 (((rZ c)).length) c387) rfl sizeOf22 rfl (by rw [Addr.add_zero']; exact rfl) rfl rfl) ?_
 rintro w403 ⟨hC,hF⟩
 replace hD:=hD.besideG hUf402 hF
 replace hM:=hM.besideG hVf402 hF
 clear hF
 refine ⟨hD,?_⟩
 refine mixE.sk hD (hC.setf (i:=3) (k:=0) (v:=.slice A394 (((rZ c)).length) c395) rfl sizeOf22 rfl (by rw [Addr.add_zero']; exact rfl) rfl rfl) ?_
 rintro w404 ⟨hC,hF⟩
 replace hD:=hD.besideG hUf383 hF
 replace hM:=hM.besideG hVf383 hF
 clear hF
 refine ⟨hD,?_⟩
 refine mixE.nil ?_
 clear hS hM
 clear hD
 exact hK48 _ _ ⟨g400,g381,(rZ c),(rZ c),A386,((rZ c)).length,c387,A394,((rZ c)).length,c395,e1,e2,e3,e4,e5,rfl,rfl,hC.sE [8,9,7,6,4,5,0,2,3,1],hb⟩
 refine qac ?_
 refine mixE.op hM (hC.alloc (cs:=[.slice none 0 0]) zeroValue22 rfl) ?_
 rintro _ w406 ⟨g405,rfl,hC,hF,hG⟩
 have hUf407:g405<w50.heap.size→g405∈blocks (([]:List Fact)++([]:List Fact)):=fun h=>absurd (Nat.lt_of_lt_of_le h (Nat.le_trans hM.size hG)) (Nat.lt_irrefl _)
 have hVf407:g405<w50.heap.size→g405∈blocks ([]:List Fact):=fun h=>absurd (Nat.lt_of_lt_of_le h (Nat.le_trans hM.size hG)) (Nat.lt_irrefl _)
 clear hG
 replace hM:=hM.none hF
 replace hD:=hM.wide (H:=([]:List Fact))
 refine ⟨hM,?_⟩
 refine mixE.nil ?_
 refine qas ?_ ?_
 refine qac ?_
 obtain ⟨u59,h409,hb⟩:=bd hb
 refine mixE.op hM (hC.make (s:=si) (n:=c) underlying22 type3 rfl rfl rfl rfl rfl (qaj h409).1 (qaj h409).2 (by decide)) ?_
 rintro _ w414 ⟨A410,c411,rfl,hl412,hc413,hC,hF,hN⟩
 have hBf415:=Beside.new hM hN
 have hUf415:=Beside.new (hM.wide (H:=([]:List Fact))) hN
 replace hM:=hM.none hF
 replace hD:=hM.wide (H:=([]:List Fact))
 refine ⟨hM,?_⟩
 clear hF hN
 refine mixE.nil ?_
 refine qac ?_
 refine mixE.sk hD (hC.setf (i:=1) (k:=0) (v:=.slice A386 (((rZ c)).length) c387) rfl sizeOf22 rfl (by rw [Addr.add_zero']; exact rfl) rfl rfl) ?_
 rintro w416 ⟨hC,hF⟩
 replace hD:=hD.besideG hUf407 hF
 replace hM:=hM.besideG hVf407 hF
 clear hF
 refine ⟨hD,?_⟩
 refine mixE.sk hD (hC.setf (i:=3) (k:=0) (v:=.slice A410 (((rZ c)).length) c411) rfl sizeOf22 rfl (by rw [Addr.add_zero']; exact rfl) rfl rfl) ?_
 rintro w417 ⟨hC,hF⟩
 replace hD:=hD.besideG hUf383 hF
 replace hM:=hM.besideG hVf383 hF
 clear hF
 refine ⟨hD,?_⟩
 refine mixE.nil ?_
 clear hS hM
 clear hD
 exact hK48 _ _ ⟨g405,g381,(rZ c),(rZ c),A386,((rZ c)).length,c387,A410,((rZ c)).length,c411,e1,e2,e3,e4,e5,rfl,rfl,hC.sE [8,9,7,6,4,5,1,2,3,0],hb⟩
 refine qac ?_
 refine mixE.sk hD (hC.setf (i:=0) (k:=0) (v:=.slice A386 (((rZ c)).length) c387) rfl sizeOf22 rfl (by rw [Addr.add_zero']; exact rfl) rfl rfl) ?_
 rintro w418 ⟨hC,hF⟩
 replace hD:=hD.besideG hUf407 hF
 replace hM:=hM.besideG hVf407 hF
 clear hF
 refine ⟨hD,?_⟩
 refine mixE.nil ?_
 refine qac ?_
 obtain ⟨u59,h420,hb⟩:=bd hb
 refine mixE.op hM (hC.make (s:=si) (n:=c) underlying22 type3 rfl rfl rfl rfl rfl (qaj h420).1 (qaj h420).2 (by decide)) ?_
 rintro _ w425 ⟨A421,c422,rfl,hl423,hc424,hC,hF,hN⟩
 have hBf426:=Beside.new hM hN
 have hUf426:=Beside.new (hM.wide (H:=([]:List Fact))) hN
 replace hM:=hM.none hF
 replace hD:=hM.wide (H:=([]:List Fact))
 refine ⟨hM,?_⟩
 clear hF hN
 refine mixE.sk hD (hC.setf (i:=3) (k:=0) (v:=.slice A421 (((rZ c)).length) c422) rfl sizeOf22 rfl (by rw [Addr.add_zero']; exact rfl) rfl rfl) ?_
 rintro w427 ⟨hC,hF⟩
 replace hD:=hD.besideG hUf383 hF
 replace hM:=hM.besideG hVf383 hF
 clear hF
 refine ⟨hD,?_⟩
 refine mixE.nil ?_
 clear hS hM
 clear hD
 exact hK48 _ _ ⟨g405,g381,(rZ c),(rZ c),A386,((rZ c)).length,c387,A421,((rZ c)).length,c422,e1,e2,e3,e4,e5,rfl,rfl,hC.sE [8,9,7,6,4,5,1,2,3,0],hb⟩
 refine qas ?_ ?_
 refine qac ?_
 obtain ⟨u51,h429,hb⟩:=bd hb
 refine mixE.op hM (hC.make (s:=si) (n:=c) underlying22 type3 rfl rfl rfl rfl rfl (qaj h429).1 (qaj h429).2 (by decide)) ?_
 rintro _ w434 ⟨A430,c431,rfl,hl432,hc433,hC,hF,hN⟩
 have hBf435:=Beside.new hM hN
 have hUf435:=Beside.new (hM.wide (H:=([]:List Fact))) hN
 replace hM:=hM.none hF
 replace hD:=hM.wide (H:=([]:List Fact))
 refine ⟨hM,?_⟩
 clear hF hN
 refine mixE.nil ?_
 refine qas ?_ ?_
 refine qac ?_
 obtain ⟨u59,h437,hb⟩:=bd hb
 refine mixE.op hM (hC.make (s:=si) (n:=c) underlying22 type3 rfl rfl rfl rfl rfl (qaj h437).1 (qaj h437).2 (by decide)) ?_
 rintro _ w442 ⟨A438,c439,rfl,hl440,hc441,hC,hF,hN⟩
 have hBf443:=Beside.new hM hN
 have hUf443:=Beside.new (hM.wide (H:=([]:List Fact))) hN
 replace hM:=hM.none hF
 replace hD:=hM.wide (H:=([]:List Fact))
 refine ⟨hM,?_⟩
 clear hF hN
 refine mixE.nil ?_
 refine qac ?_
 refine mixE.op hM (hC.alloc (cs:=[.slice none 0 0]) zeroValue22 rfl) ?_
 rintro _ w445 ⟨g444,rfl,hC,hF,hG⟩
 have hUf446:g444<w50.heap.size→g444∈blocks (([]:List Fact)++([]:List Fact)):=fun h=>absurd (Nat.lt_of_lt_of_le h (Nat.le_trans hM.size hG)) (Nat.lt_irrefl _)
 have hVf446:g444<w50.heap.size→g444∈blocks ([]:List Fact):=fun h=>absurd (Nat.lt_of_lt_of_le h (Nat.le_trans hM.size hG)) (Nat.lt_irrefl _)
 clear hG
 replace hM:=hM.none hF
 replace hD:=hM.wide (H:=([]:List Fact))
 refine ⟨hM,?_⟩
 refine mixE.sk hD (hC.setf (i:=0) (k:=0) (v:=.slice A438 (((rZ c)).length) c439) rfl sizeOf22 rfl (by rw [Addr.add_zero']; exact rfl) rfl rfl) ?_
 rintro w447 ⟨hC,hF⟩
 replace hD:=hD.besideG hUf446 hF
 replace hM:=hM.besideG hVf446 hF
 clear hF
 refine ⟨hD,?_⟩
 refine mixE.sk hD (hC.setf (i:=3) (k:=0) (v:=.slice A430 (((rZ c)).length) c431) rfl sizeOf22 rfl (by rw [Addr.add_zero']; exact rfl) rfl rfl) ?_
 rintro w448 ⟨hC,hF⟩
 replace hD:=hD.besideG hUf383 hF
 replace hM:=hM.besideG hVf383 hF
 clear hF
 refine ⟨hD,?_⟩
 refine mixE.nil ?_
 clear hS hM
 clear hD
 exact hK48 _ _ ⟨g444,g381,(rZ c),(rZ c),A438,((rZ c)).length,c439,A430,((rZ c)).length,c431,e1,e2,e3,e4,e5,rfl,rfl,hC.sE [8,9,7,6,4,5,0,1,3,2],hb⟩
 refine qac ?_
 refine mixE.op hM (hC.alloc (cs:=[.slice none 0 0]) zeroValue22 rfl) ?_
 rintro _ w450 ⟨g449,rfl,hC,hF,hG⟩
 have hUf451:g449<w50.heap.size→g449∈blocks (([]:List Fact)++([]:List Fact)):=fun h=>absurd (Nat.lt_of_lt_of_le h (Nat.le_trans hM.size hG)) (Nat.lt_irrefl _)
 have hVf451:g449<w50.heap.size→g449∈blocks ([]:List Fact):=fun h=>absurd (Nat.lt_of_lt_of_le h (Nat.le_trans hM.size hG)) (Nat.lt_irrefl _)
 clear hG
 replace hM:=hM.none hF
 replace hD:=hM.wide (H:=([]:List Fact))
 refine ⟨hM,?_⟩
 refine mixE.nil ?_
 refine qac ?_
 obtain ⟨u59,h453,hb⟩:=bd hb
 refine mixE.op hM (hC.make (s:=si) (n:=c) underlying22 type3 rfl rfl rfl rfl rfl (qaj h453).1 (qaj h453).2 (by decide)) ?_
 rintro _ w458 ⟨A454,c455,rfl,hl456,hc457,hC,hF,hN⟩
 have hBf459:=Beside.new hM hN
 have hUf459:=Beside.new (hM.wide (H:=([]:List Fact))) hN
 replace hM:=hM.none hF
 replace hD:=hM.wide (H:=([]:List Fact))
 refine ⟨hM,?_⟩
 clear hF hN
 refine mixE.sk hD (hC.setf (i:=1) (k:=0) (v:=.slice A454 (((rZ c)).length) c455) rfl sizeOf22 rfl (by rw [Addr.add_zero']; exact rfl) rfl rfl) ?_
 rintro w460 ⟨hC,hF⟩
 replace hD:=hD.besideG hUf451 hF
 replace hM:=hM.besideG hVf451 hF
 clear hF
 refine ⟨hD,?_⟩
 refine mixE.sk hD (hC.setf (i:=3) (k:=0) (v:=.slice A430 (((rZ c)).length) c431) rfl sizeOf22 rfl (by rw [Addr.add_zero']; exact rfl) rfl rfl) ?_
 rintro w461 ⟨hC,hF⟩
 replace hD:=hD.besideG hUf383 hF
 replace hM:=hM.besideG hVf383 hF
 clear hF
 refine ⟨hD,?_⟩
 refine mixE.nil ?_
 clear hS hM
 clear hD
 exact hK48 _ _ ⟨g449,g381,(rZ c),(rZ c),A454,((rZ c)).length,c455,A430,((rZ c)).length,c431,e1,e2,e3,e4,e5,rfl,rfl,hC.sE [8,9,7,6,4,5,1,0,3,2],hb⟩
 refine qac ?_
 refine mixE.op hM (hC.alloc (cs:=[.slice none 0 0]) zeroValue22 rfl) ?_
 rintro _ w463 ⟨g462,rfl,hC,hF,hG⟩
 have hUf464:g462<w50.heap.size→g462∈blocks (([]:List Fact)++([]:List Fact)):=fun h=>absurd (Nat.lt_of_lt_of_le h (Nat.le_trans hM.size hG)) (Nat.lt_irrefl _)
 have hVf464:g462<w50.heap.size→g462∈blocks ([]:List Fact):=fun h=>absurd (Nat.lt_of_lt_of_le h (Nat.le_trans hM.size hG)) (Nat.lt_irrefl _)
 clear hG
 replace hM:=hM.none hF
 replace hD:=hM.wide (H:=([]:List Fact))
 refine ⟨hM,?_⟩
 refine mixE.nil ?_
 refine qas ?_ ?_
 refine qac ?_
 obtain ⟨u51,h466,hb⟩:=bd hb
 refine mixE.op hM (hC.make (s:=si) (n:=c) underlying22 type3 rfl rfl rfl rfl rfl (qaj h466).1 (qaj h466).2 (by decide)) ?_
 rintro _ w471 ⟨A467,c468,rfl,hl469,hc470,hC,hF,hN⟩
 have hBf472:=Beside.new hM hN
 have hUf472:=Beside.new (hM.wide (H:=([]:List Fact))) hN
 replace hM:=hM.none hF
 replace hD:=hM.wide (H:=([]:List Fact))
 refine ⟨hM,?_⟩
 clear hF hN
 refine mixE.nil ?_
 refine qas ?_ ?_
 refine qac ?_
 obtain ⟨u59,h474,hb⟩:=bd hb
 refine mixE.op hM (hC.make (s:=si) (n:=c) underlying22 type3 rfl rfl rfl rfl rfl (qaj h474).1 (qaj h474).2 (by decide)) ?_
 rintro _ w479 ⟨A475,c476,rfl,hl477,hc478,hC,hF,hN⟩
 have hBf480:=Beside.new hM hN
 have hUf480:=Beside.new (hM.wide (H:=([]:List Fact))) hN
 replace hM:=hM.none hF
 replace hD:=hM.wide (H:=([]:List Fact))
 refine ⟨hM,?_⟩
 clear hF hN
 refine mixE.nil ?_
 refine qac ?_
 refine mixE.sk hD (hC.setf (i:=2) (k:=0) (v:=.slice A467 (((rZ c)).length) c468) rfl sizeOf22 rfl (by rw [Addr.add_zero']; exact rfl) rfl rfl) ?_
 rintro w481 ⟨hC,hF⟩
 replace hD:=hD.besideG hUf464 hF
 replace hM:=hM.besideG hVf464 hF
 clear hF
 refine ⟨hD,?_⟩
 refine mixE.sk hD (hC.setf (i:=3) (k:=0) (v:=.slice A475 (((rZ c)).length) c476) rfl sizeOf22 rfl (by rw [Addr.add_zero']; exact rfl) rfl rfl) ?_
 rintro w482 ⟨hC,hF⟩
 replace hD:=hD.besideG hUf383 hF
 replace hM:=hM.besideG hVf383 hF
 clear hF
 refine ⟨hD,?_⟩
 refine mixE.nil ?_
 clear hS hM
 clear hD
 exact hK48 _ _ ⟨g462,g381,(rZ c),(rZ c),A467,((rZ c)).length,c468,A475,((rZ c)).length,c476,e1,e2,e3,e4,e5,rfl,rfl,hC.sE [8,9,7,6,4,5,2,1,3,0],hb⟩
 refine qac ?_
 refine mixE.sk hD (hC.setf (i:=1) (k:=0) (v:=.slice A467 (((rZ c)).length) c468) rfl sizeOf22 rfl (by rw [Addr.add_zero']; exact rfl) rfl rfl) ?_
 rintro w483 ⟨hC,hF⟩
 replace hD:=hD.besideG hUf464 hF
 replace hM:=hM.besideG hVf464 hF
 clear hF
 refine ⟨hD,?_⟩
 refine mixE.nil ?_
 refine qac ?_
 obtain ⟨u59,h485,hb⟩:=bd hb
 refine mixE.op hM (hC.make (s:=si) (n:=c) underlying22 type3 rfl rfl rfl rfl rfl (qaj h485).1 (qaj h485).2 (by decide)) ?_
 rintro _ w490 ⟨A486,c487,rfl,hl488,hc489,hC,hF,hN⟩
 have hBf491:=Beside.new hM hN
 have hUf491:=Beside.new (hM.wide (H:=([]:List Fact))) hN
 replace hM:=hM.none hF
 replace hD:=hM.wide (H:=([]:List Fact))
 refine ⟨hM,?_⟩
 clear hF hN
 refine mixE.sk hD (hC.setf (i:=3) (k:=0) (v:=.slice A486 (((rZ c)).length) c487) rfl sizeOf22 rfl (by rw [Addr.add_zero']; exact rfl) rfl rfl) ?_
 rintro w492 ⟨hC,hF⟩
 replace hD:=hD.besideG hUf383 hF
 replace hM:=hM.besideG hVf383 hF
 clear hF
 refine ⟨hD,?_⟩
 refine mixE.nil ?_
 clear hS hM
 clear hD
 exact hK48 _ _ ⟨g462,g381,(rZ c),(rZ c),A467,((rZ c)).length,c468,A486,((rZ c)).length,c487,e1,e2,e3,e4,e5,rfl,rfl,hC.sE [8,9,7,6,4,5,2,1,3,0],hb⟩
 refine qac ?_
 obtain ⟨u51,h494,hb⟩:=bd hb
 refine mixE.op hM (hC.make (s:=si) (n:=c) underlying22 type3 rfl rfl rfl rfl rfl (qaj h494).1 (qaj h494).2 (by decide)) ?_
 rintro _ w499 ⟨A495,c496,rfl,hl497,hc498,hC,hF,hN⟩
 have hBf500:=Beside.new hM hN
 have hUf500:=Beside.new (hM.wide (H:=([]:List Fact))) hN
 replace hM:=hM.none hF
 replace hD:=hM.wide (H:=([]:List Fact))
 refine ⟨hM,?_⟩
 clear hF hN
 refine mixE.nil ?_
 refine qac ?_
 obtain ⟨u59,h502,hb⟩:=bd hb
 refine mixE.op hM (hC.make (s:=si) (n:=c) underlying22 type3 rfl rfl rfl rfl rfl (qaj h502).1 (qaj h502).2 (by decide)) ?_
 rintro _ w507 ⟨A503,c504,rfl,hl505,hc506,hC,hF,hN⟩
 have hBf508:=Beside.new hM hN
 have hUf508:=Beside.new (hM.wide (H:=([]:List Fact))) hN
 replace hM:=hM.none hF
 replace hD:=hM.wide (H:=([]:List Fact))
 refine ⟨hM,?_⟩
 clear hF hN
 refine mixE.sk hD (hC.setf (i:=2) (k:=0) (v:=.slice A503 (((rZ c)).length) c504) rfl sizeOf22 rfl (by rw [Addr.add_zero']; exact rfl) rfl rfl) ?_
 rintro w509 ⟨hC,hF⟩
 replace hD:=hD.besideG hUf464 hF
 replace hM:=hM.besideG hVf464 hF
 clear hF
 refine ⟨hD,?_⟩
 refine mixE.sk hD (hC.setf (i:=3) (k:=0) (v:=.slice A495 (((rZ c)).length) c496) rfl sizeOf22 rfl (by rw [Addr.add_zero']; exact rfl) rfl rfl) ?_
 rintro w510 ⟨hC,hF⟩
 replace hD:=hD.besideG hUf383 hF
 replace hM:=hM.besideG hVf383 hF
 clear hF
 refine ⟨hD,?_⟩
 refine mixE.nil ?_
 clear hS hM
 clear hD
 exact hK48 _ _ ⟨g462,g381,(rZ c),(rZ c),A503,((rZ c)).length,c504,A495,((rZ c)).length,c496,e1,e2,e3,e4,e5,rfl,rfl,hC.sE [8,9,7,6,4,5,2,0,3,1],hb⟩
 clear hb hC
 rintro E512 w511 ⟨gP6,gP7,u,J,B,a6,x,G,a7,C,e1,e2,e3,e4,e5,e6,e7,hC,hb⟩
 unfold F.qhd at hb
 obtain ⟨rfl,c7,c8⟩:=(hC.ow (i:=7) rfl).qae
 obtain ⟨rfl,c9,d0⟩:=(hC.ow (i:=9) rfl).qae
 refine Wc.seq fun _ hK513=>?_
 refine Wc.seq fun _ hK514=>rg<|lv (.slice B u.length x) (qaw isAgg22 e6 ((hC.bx (i:=6) rfl).cell (j:=0) rfl))<|lp (iv (u.length:Int)) (qay (A:=B) (n:=u.length) (m:=x) underlying22 rfl)<|lp (iv 0) (qaa rfl)<|ln (hK514 _ _ ?_)
 obtain ⟨o515,hl1,f515,hf515,hb⟩:=bn hb
 refine Wc.cut (fun E wv=> ∃(V:Int) (Q:List Int) (R:List Int),E 1=pg g3∧E 2=pg g6∧E 3=iv 0∧E 4=pg g28∧E 5=pg g43∧E 6=pg gP6∧E 7=pg gP7∧I64 V∧Cx (fun _=>False) O0 w wv [.box g3 24 [iv c,.slice U D.length P],.ro (.sl si) [.slice U D.length P] D,.box g6 32 [.slice none 0 0,.slice none 0 0,iv 0],.box g28 52 [iv 0,iv 1,iv 2,iv 3,iv 3,iv 0,iv 1,iv 2],.box g43 32 [.slice none 0 0,.slice A37 (((rZ z33)).length) c38,iv 0],.own 3 si (.slice A37 (((rZ z33)).length) c38) (rZ z33),.box gP6 22 [.slice B u.length x],.own 3 si (.slice B u.length x) Q,.box gP7 22 [.slice G J.length C],.own 3 si (.slice G J.length C) R]∧f515 (V,Q,R)=some r) (fun _ hK516=>?_) ?_
 refine Wc.block ?_
 refine Wc.loop (fun m E wv=> ∃(V:Int) (Q:List Int) (R:List Int),E 1=pg g3∧E 2=pg g6∧E 3=iv 0∧E 4=pg g28∧E 5=pg g43∧E 6=pg gP6∧E 7=pg gP7∧E 42=iv (u.length:Int)∧E 43=iv V∧I64 V∧Cx (fun _=>False) O0 w wv [.box g3 24 [iv c,.slice U D.length P],.ro (.sl si) [.slice U D.length P] D,.box g6 32 [.slice none 0 0,.slice none 0 0,iv 0],.box g28 52 [iv 0,iv 1,iv 2,iv 3,iv 3,iv 0,iv 1,iv 2],.box g43 32 [.slice none 0 0,.slice A37 (((rZ z33)).length) c38,iv 0],.own 3 si (.slice A37 (((rZ z33)).length) c38) (rZ z33),.box gP6 22 [.slice B u.length x],.own 3 si (.slice B u.length x) Q,.box gP7 22 [.slice G J.length C],.own 3 si (.slice G J.length C) R]∧loopN m (F.qek n u) (V,Q,R)=some o515) n ⟨0,u,J,e1,e2,e3,e4,e5,e6,e7,rfl,rfl,(show I64 0 from by unfold I64; omega),hC.sE [0,1,2,3,4,5,6,7,8,9],hl1⟩ ?_
 have hbK1:=hb
 clear hb hC hl1
 rintro m518 E520 w519 ⟨V,Q,R,e1,e2,e3,e4,e5,e6,e7,e42,e43,b0,hC,hl1⟩ K517 hK517
 obtain ⟨m518',o521,rfl,hb,hl1⟩:=qax hl1
 unfold F.qek at hb
 refine Wc.seq fun _ hK522=>rg<|lp _ (qbj e43 e42)<|ln (hK522 _ _ ?_)
 refine Wc.seq fun _ hK523=>?_
 refine Wc.cond (t:=(decide (V<(u.length:Int)))) (rfl) (fun hq524=>?_) (fun hq524=>?_)
 replace hb:=tt hq524 hb
 refine Wc.skip (hK523 _ _ ?_)
 refine Wc.seq fun _ hK525=>?_
 refine Wc.block<|Wc.seq fun _ hK526=>rg<|lp _ (qaa e43)<|lp (iv V) (qab rfl)<|ln (hK526 _ _ ?_)
 refine Wc.regionMix [46,48] (frm [46,48] ([]:List Fact) [.own 3 si (.slice B u.length x) Q,.own 3 si (.slice G J.length C) R]) (fun _=>rfl) mixed (by decide+kernel) (by decide+kernel) fun w528 hw527=>?_
 replace hC:=hC.step (Fr.qcx hw527)
 have hM:=Fr.refl (fun k=>k∈blocks ([]:List Fact)) w528
 clear hw527
 have hS:=hC
 have hD:Fr (fun k=>k∈blocks (([]:List Fact)++[.own 3 si (.slice B u.length x) Q,.own 3 si (.slice G J.length C) R])) w528 w528:=hM.wide
 have b6:Beside (([]:List Fact)++[.own 3 si (.slice B u.length x) Q,.own 3 si (.slice G J.length C) R]) w528 (.slice B u.length x):=Beside.of (i:=0) rfl
 have b7:Beside (([]:List Fact)++[.own 3 si (.slice B u.length x) Q,.own 3 si (.slice G J.length C) R]) w528 (.slice G J.length C):=Beside.of (i:=1) rfl
 refine mixE.steady hD (v:=.slice B u.length x) (fun _ hF=>qaw isAgg22 e6 ((hS.bx2 (i:=6) rfl [7,9] (by decide) hF).cell (j:=0) rfl))<|mp (iv V) (qaa rfl)<|mixE.steady hD (v:=.slice G J.length C) (fun _ hF=>qaw isAgg22 e7 ((hS.bx2 (i:=8) rfl [7,9] (by decide) hF).cell (j:=0) rfl))<|mp (iv V) (qaa rfl) ?_
 obtain ⟨x529,h530,hb⟩:=bd hb
 obtain ⟨ad531,cs532,hA,ho535,hc533,hr534⟩:=hS.elo2 (i:=7) rfl (qad h530).2 [] (by decide)
 subst hA
 refine mp (.pointer (some (ad531.add (V.toNat*1)))) (qar (a:=V) underlying22 sizeOf3 rfl rfl (by rw [(hC.ow (i:=7) rfl).qae.1]; exact (qad h530).1))<|mixE.sk hD (hC.put (i:=7) rfl rfl sizeOf3 (k:=V.toNat) (a:=(-1)) (by have:=(qad h530).1; simp at this⊢; omega) (⟨rfl,I64.wr (show I64 (-1) from by unfold I64; omega)⟩) rfl rfl rfl) ?_
 rintro w536 ⟨hC,hF⟩
 replace hD:=hD.beside b6 hF
 clear hF
 refine ⟨hD,?_⟩
 obtain ⟨x537,h538,hb⟩:=bd hb
 obtain ⟨ad539,cs540,hA,ho543,hc541,hr542⟩:=hS.elo2 (i:=9) rfl (qad h538).2 [] (by decide)
 subst hA
 refine mp (.pointer (some (ad539.add (V.toNat*1)))) (qar (a:=V) underlying22 sizeOf3 rfl rfl (by rw [(hC.ow (i:=9) rfl).qae.1]; exact (qad h538).1))<|mixE.sk hD (hC.put (i:=9) rfl rfl sizeOf3 (k:=V.toNat) (a:=(-1)) (by have:=(qad h538).1; simp at this⊢; omega) (⟨rfl,I64.wr (show I64 (-1) from by unfold I64; omega)⟩) rfl rfl rfl) ?_
 rintro w544 ⟨hC,hF⟩
 replace hD:=hD.beside b7 hF
 clear hF
 refine ⟨hD,?_⟩
 refine mixE.nil ?_
 clear hS hM
 clear hD
 refine hK525 _ _<|rg ?_
 obtain ⟨z545,h546,hb⟩:=bd hb
 refine lp (iv z545) (qau (a:=V) (b:=1) e43 rfl h546)<|lp (iv z545) (qaa rfl)<|ln ?_
 obtain rfl:=os hb
 exact hK517 m518' _ _ (Nat.lt_succ_self _) ⟨z545,(Q.set V.toNat (-1)),(R.set V.toNat (-1)),e1,e2,e3,e4,e5,e6,e7,e42,rfl,(qah h546),hC.sE [0,1,2,3,4,5,6,7,8,9],lN hl1⟩
 replace hb:=tf hq524 hb
 refine Wc.exit rfl ?_
 obtain rfl:=os hb
 obtain rfl:=(lX hl1).symm
 exact hK516 _ _ ⟨V,Q,R,e1,e2,e3,e4,e5,e6,e7,b0,hC.sE [0,1,2,3,4,5,6,7,8,9],hbK1⟩
 clear hb hC hl1
 rintro E548 w547 ⟨V,Q,R,e1,e2,e3,e4,e5,e6,e7,b0,hC,hb⟩
 subst hf515
 refine hK513 _ _<|Wc.seq fun _ hK549=>rg<|lp (.func (.func 16) #[] #[pg g43]) (qga (map_of (m2_cons e5 m2_nil)))<|lex.op (hC.alloc (cs:=[.nilFunc]) zeroValue53 rfl) ?_
 rintro _ w551 ⟨g550,rfl,hC,hF,-⟩
 refine lex.sk (hC.setf (i:=0) (k:=0) (v:=.func (.func 16) #[] #[pg g43]) rfl sizeOf53 rfl (by rw [Addr.add_zero']; exact rfl) rfl rfl) ?_
 rintro w553 ⟨hC,hF⟩
 refine ln (hK549 _ _ ?_)
 refine Wc.seq fun _ hK554=>rg<|lp (.func (.func 17) #[] #[pg gP7,pg gP6,pg g550]) (qga (map_of (m2_cons e7 (m2_cons e6 (m2_cons rfl m2_nil)))))<|lp (.func (.func 17) #[] #[pg gP7,pg gP6,pg g550]) (qab rfl)<|ln (hK554 _ _ ?_)
 refine Wc.seq fun _ hK555=>?_
 refine Wc.seq fun _ hK556=>rg<|lp (.pointer (some ((⟨g3,0,none⟩:Addr).add 1))) (qaf (sz:=1) underlying24 rfl sizeOf22 (by decide) rfl e1)<|lv (.slice U D.length P) (qal (hC.bx (i:=1) rfl) isAgg22 rfl rfl)<|lp (iv (D.length:Int)) (qay (A:=U) (n:=D.length) (m:=P) underlying22 rfl)<|lp (iv 0) (qaa rfl)<|ln (hK556 _ _ ?_)
 replace hC:=hC.nil 3 si
 obtain ⟨o558,hl2,f558,hf558,hb⟩:=bn hb
 refine Wc.cut (fun E wv=> ∃(T:Int) (Y:List Int) (l:List Int) (L:List Int) (M:List Int) (y:Option Addr) (Z z:Nat),E 2=pg g6∧E 3=iv 0∧E 5=pg g43∧E 6=pg gP6∧E 7=pg gP7∧E 9=pg g550∧I64 T∧Cx (fun _=>False) O0 w wv [.box g6 32 [.slice none 0 0,.slice none 0 0,iv 0],.box g43 32 [.slice y Z z,.slice A37 (((rZ z33)).length) c38,iv 0],.own 3 si (.slice y Z z) l,.own 3 si (.slice A37 (((rZ z33)).length) c38) Y,.box gP6 22 [.slice B u.length x],.own 3 si (.slice B u.length x) L,.box gP7 22 [.slice G J.length C],.own 3 si (.slice G J.length C) M,.box g550 53 [.func (.func 16) #[] #[pg g43]]]∧f558 (T,Y,l,L,M)=some r) (fun _ hK559=>?_) ?_
 refine Wc.block ?_
 refine Wc.loop (fun m E wv=> ∃(T:Int) (Y:List Int) (l:List Int) (L:List Int) (M:List Int) (y:Option Addr) (Z z:Nat),E 2=pg g6∧E 3=iv 0∧E 4=pg g28∧E 5=pg g43∧E 6=pg gP6∧E 7=pg gP7∧E 9=pg g550∧E 10=.func (.func 17) #[] #[pg gP7,pg gP6,pg g550]∧E 56=.slice U D.length P∧E 57=iv (D.length:Int)∧E 58=iv T∧I64 T∧Cx (fun _=>False) O0 w wv [.box g6 32 [.slice none 0 0,.slice none 0 0,iv 0],.box g28 52 [iv 0,iv 1,iv 2,iv 3,iv 3,iv 0,iv 1,iv 2],.box g43 32 [.slice y Z z,.slice A37 (((rZ z33)).length) c38,iv 0],.own 3 si (.slice y Z z) l,.own 3 si (.slice A37 (((rZ z33)).length) c38) Y,.box gP6 22 [.slice B u.length x],.own 3 si (.slice B u.length x) L,.box gP7 22 [.slice G J.length C],.own 3 si (.slice G J.length C) M,.box g550 53 [.func (.func 16) #[] #[pg g43]],.ro (.sl si) [.slice U D.length P] D]∧loopN m (F.qef n D) (T,Y,l,L,M)=some o558) n ⟨0,(rZ z33),([]:List Int),Q,R,none,0,0,e2,e3,e4,e5,e6,e7,rfl,rfl,rfl,rfl,rfl,(show I64 0 from by unfold I64; omega),hC.sE [4,5,6,0,7,8,9,10,11,1,3],hl2⟩ ?_
 have hbK2:=hb
 clear hb hC hl2
 rintro m561 E563 w562 ⟨T,Y,l,L,M,y,Z,z,e2,e3,e4,e5,e6,e7,e9,e10,e56,e57,e58,b1,hC,hl2⟩ K560 hK560
 obtain ⟨m561',o564,rfl,hb,hl2⟩:=qax hl2
 unfold F.qef at hb
 obtain ⟨rfl,b2,b3⟩:=(hC.ow (i:=3) rfl).qae
 refine Wc.seq fun _ hK565=>rg<|lp _ (qbj e58 e57)<|ln (hK565 _ _ ?_)
 refine Wc.seq fun _ hK566=>?_
 refine Wc.cond (t:=(decide (T<(D.length:Int)))) (rfl) (fun hq567=>?_) (fun hq567=>?_)
 replace hb:=tt hq567 hb
 refine Wc.skip (hK566 _ _ ?_)
 refine Wc.seq fun _ hK568=>?_
 refine Wc.block<|Wc.seq fun _ hK569=>rg<|lp _ (qaa e58) ?_
 obtain ⟨x570,h571,hb⟩:=bd hb
 obtain ⟨ad572,cs573,hA,hc574,hr575⟩:=hC.elr (i:=10) rfl (qad h571).2
 subst hA
 refine lp (.pointer (some (ad572.add (T.toNat*1)))) (qar (a:=T) underlying22 sizeOf3 e56 e58 (qad h571).1) ?_
 obtain ⟨rfl,hr575'⟩:=hr575
 refine lv (iv x570) (qaw isAgg3 rfl (hc574 0 _ rfl))<|lp (iv T) (qab rfl)<|lp (iv x570) (qab rfl)<|ln (hK569 _ _ ?_)
 refine Wc.seq fun _ hK576=>rg<|lp (iv 1) (qab rfl)<|ln (hK576 _ _ ?_)
 refine Wc.seqJ (fun E wv=> ∃(N:Int) (a8:Bool),E 2=pg g6∧E 3=iv 0∧E 4=pg g28∧E 5=pg g43∧E 6=pg gP6∧E 7=pg gP7∧E 9=pg g550∧E 10=.func (.func 17) #[] #[pg gP7,pg gP6,pg g550]∧E 11=iv T∧E 12=iv x570∧E 13=iv N∧E 56=.slice (some ad572) D.length P∧E 57=iv (D.length:Int)∧E 58=iv T∧E 59=.bool (decide (T<(D.length:Int)))∧E 64=.bool a8∧I64 N∧Cx (fun _=>False) O0 w wv [.box g6 32 [.slice none 0 0,.slice none 0 0,iv 0],.box g28 52 [iv 0,iv 1,iv 2,iv 3,iv 3,iv 0,iv 1,iv 2],.box g43 32 [.slice y l.length z,.slice A37 (((rZ z33)).length) c38,iv 0],.own 3 si (.slice y l.length z) l,.own 3 si (.slice A37 (((rZ z33)).length) c38) Y,.box gP6 22 [.slice B u.length x],.own 3 si (.slice B u.length x) L,.box gP7 22 [.slice G J.length C],.own 3 si (.slice G J.length C) M,.box g550 53 [.func (.func 16) #[] #[pg g43]],.ro (.sl si) [.slice (some ad572) D.length P] D]∧F.qfn n T Y l L M x570 N a8=some o564) (fun _ hK577=>?_) ?_
 refine Wc.seq fun _ hK578=>rg<|lp (iv x570) (qaa rfl)<|lp (.bool (decide (x570<0))) (qbj (k:=.i64) (a:=x570) (b:=0) rfl rfl)<|ln (hK578 _ _ ?_)
 refine Wc.cond (t:=(decide (x570<0))) (rfl) (fun hq579=>?_) (fun hq579=>?_)
 replace hb:=tt hq579 hb
 refine rg<|lp (iv (-1)) (qab rfl)<|ln ?_
 exact hK577 _ _ ⟨(-1),(decide (x570<0)),e2,e3,e4,e5,e6,e7,e9,e10,rfl,rfl,rfl,e56,e57,e58,rfl,rfl,(show I64 (-1) from by unfold I64; omega),hC.sE [0,1,2,3,4,5,6,7,8,9,10],hb⟩
 replace hb:=tf hq579 hb
 refine Wc.skip ?_
 exact hK577 _ _ ⟨1,(decide (x570<0)),e2,e3,e4,e5,e6,e7,e9,e10,rfl,rfl,rfl,e56,e57,e58,rfl,rfl,(show I64 1 from by unfold I64; omega),hC.sE [0,1,2,3,4,5,6,7,8,9,10],hb⟩
 clear hb hC
 rintro E581 w580 ⟨N,a8,e2,e3,e4,e5,e6,e7,e9,e10,e11,e12,e13,e56,e57,e58,e59,e64,b8,hC,hb⟩
 unfold F.qfn at hb
 refine Wc.seq fun _ hK582=>rg<|lp (.pointer (some ((⟨g43,0,none⟩:Addr).add 0))) (qaf (sz:=1) underlying32 rfl sizeOf22 (by decide) rfl e5)<|lv (.slice y l.length z) (qal (hC.bx (i:=2) rfl) isAgg22 rfl rfl)<|lp _ (qaa e13)<|lex.op (hC.lit (s:=si) (vs:=[iv N]) (xs:=[N]) underlying22 type3 rfl rfl (nb rfl) rfl rfl (by simp [Value.cells,Sh.n]) rfl (show Elems _ _ si ([iv N]++([])) ([N]:List Int) from Elems.cons (⟨rfl,I64.wr b8⟩) (Elems.nil _ _ _))) ?_
 rintro _ w587 ⟨A583,c584,rfl,hl585,hc586,hC,-,-⟩
 obtain ⟨u589,h590,hb⟩:=bd hb
 refine lex.op (hC.app (i:=4) (s:=si) (xs:=l) (ys:=([N]:List Int)) (m:=((([N]:List Int)).length)) rfl underlying22 underlying22 type3 rfl rfl rfl (hC.srco (i:=0) rfl) rfl rfl (by have:=qew h590; simp at this⊢ <;>omega) (by decide)) ?_
 rintro _ w595 ⟨A591,c592,rfl,hl593,hc594,hC,-,-⟩
 refine lp (.pointer (some ((⟨g43,0,none⟩:Addr).add 0))) (qaf (sz:=1) underlying32 rfl sizeOf22 (by decide) rfl e5)<|lex.sk (hC.setf (i:=3) (k:=0) (v:=.slice A591 ((l++([N]:List Int)).length) c592) rfl sizeOf22 rfl rfl rfl rfl) ?_
 rintro w596 ⟨hC,hF⟩
 refine ln (hK582 _ _ ?_)
 refine Wc.seqJ (fun E wv=> ∃(gP14:Nat) (a5:Int) (a0:Int) (a1:Int) (a2:Int) (a3:Int),E 2=pg g6∧E 3=iv 0∧E 4=pg g28∧E 5=pg g43∧E 6=pg gP6∧E 7=pg gP7∧E 9=pg g550∧E 10=.func (.func 17) #[] #[pg gP7,pg gP6,pg g550]∧E 11=iv T∧E 12=iv x570∧E 13=iv N∧E 14=pg gP14∧E 15=iv a5∧E 56=.slice (some ad572) D.length P∧E 57=iv (D.length:Int)∧E 58=iv T∧E 59=.bool (decide (T<(D.length:Int)))∧E 64=.bool a8∧I64 a5∧I64 a0∧I64 a1∧I64 a2∧I64 a3∧Cx (fun _=>False) O0 w wv [.box g6 32 [.slice none 0 0,.slice none 0 0,iv 0],.box g28 52 [iv 0,iv 1,iv 2,iv 3,iv 3,iv 0,iv 1,iv 2],.box g43 32 [.slice A591 ((l++([N]:List Int)).length) c592,.slice A37 (((rZ z33)).length) c38,iv 0],.own 3 si (.slice A591 ((l++([N]:List Int)).length) c592) (l++([N]:List Int)),.own 3 si (.slice A37 (((rZ z33)).length) c38) Y,.box gP6 22 [.slice B u.length x],.own 3 si (.slice B u.length x) L,.box gP7 22 [.slice G J.length C],.own 3 si (.slice G J.length C) M,.box g550 53 [.func (.func 16) #[] #[pg g43]],.box gP14 51 [iv a0,iv a1,iv a2,iv a3],.ro (.sl si) [.slice (some ad572) D.length P] D]∧F.qgj n T Y l L M N a5 a0 a1 a2 a3=some o564) (fun _ hK597=>?_) ?_
 refine Wc.regionPlan [75] (frm [75] ([]:List Fact) ([]:List Fact)) (chainP [0,1,2,3,4,5] (.alt (chainP [6] (chainP [7,8,9] .done)) (chainP [7] (chainP [6,8,9] .done)))) (fun _=>rfl) mixed (by decide+kernel) (by decide+kernel) fun w599 hw598=>?_
 replace hC:=hC.step (Fr.qcx hw598)
 have hM:=Fr.refl (fun k=>k∈blocks ([]:List Fact)) w599
 clear hw598
 have hS:=hC
 have hD:Fr (fun k=>k∈blocks (([]:List Fact)++([]:List Fact))) w599 w599:=hM.wide
 refine qac ?_
 refine mp (iv N) (qaa e13) ?_
 obtain ⟨z600,h601,hb⟩:=bd hb
 refine mp (iv z600) (qau (a:=N) (b:=1) rfl rfl h601) ?_
 obtain ⟨u602,h603,hb⟩:=bd hb
 obtain ⟨z604,h605,hb⟩:=bd hb
 refine mp (iv z604) (qfu (a:=z600) (b:=2) rfl rfl h603 h605) ?_
 obtain ⟨x606,h607,hb⟩:=bd hb
 have hr608:I64 x606.1:=all_get (p:=fun d=>I64 d.1) (List.forall_mem_cons.2 ⟨(show I64 0 from by unfold I64; omega),List.forall_mem_cons.2 ⟨(show I64 3 from by unfold I64; omega),fun _ h=>absurd h List.not_mem_nil⟩⟩) h607
 have hr609:I64 x606.2.1:=all_get (p:=fun d=>I64 d.2.1) (List.forall_mem_cons.2 ⟨(show I64 1 from by unfold I64; omega),List.forall_mem_cons.2 ⟨(show I64 0 from by unfold I64; omega),fun _ h=>absurd h List.not_mem_nil⟩⟩) h607
 have hr610:I64 x606.2.2.1:=all_get (p:=fun d=>I64 d.2.2.1) (List.forall_mem_cons.2 ⟨(show I64 2 from by unfold I64; omega),List.forall_mem_cons.2 ⟨(show I64 1 from by unfold I64; omega),fun _ h=>absurd h List.not_mem_nil⟩⟩) h607
 have hr611:I64 x606.2.2.2:=all_get (p:=fun d=>I64 d.2.2.2) (List.forall_mem_cons.2 ⟨(show I64 3 from by unfold I64; omega),List.forall_mem_cons.2 ⟨(show I64 2 from by unfold I64; omega),fun _ h=>absurd h List.not_mem_nil⟩⟩) h607
 refine mp (.pointer (some ((⟨g28,0,none⟩:Addr).add (z604.toNat*4)))) (pu_ixa (A:=⟨g28,0,none⟩) (a:=z604) (sz:=4) underlying52 sizeOf51 e4 rfl (by have h1:=(qad h607).1; have h2:=(get_nn h607); simp at h1; omega))<|mixE.steady hD (v:=.agg #[iv x606.1,iv x606.2.1,iv x606.2.2.1,iv x606.2.2.2]) (fun _ hF=>ld_part (o:=(z604.toNat*4)) (hS.bx2 (i:=2) rfl [] (by decide) hF) isAgg51 sizeOf51 (flat_dt (enc:=(fun d:Int×(Int×(Int×Int))=>[Value.int .i64 d.1,Value.int .i64 d.2.1,Value.int .i64 d.2.2.1,Value.int .i64 d.2.2.2])) (ds:=([(0,(1,(2,3))),(3,(0,(1,2)))]:List (Int×(Int×(Int×Int))))) (by simp) (qad h607).2) rfl rfl)<|mp (iv x570) (qaa e12)<|mixE.nil ?_
 refine qas ?_ ?_
 refine qac ?_
 obtain ⟨y612,h613,hb⟩:=bd hb
 refine mixE.cl hM (⟨_,_,qam (vs:=[iv x570]) call18 rfl rfl rfl,braid_generator_ok n hC.lt (qbi hr575') h613⟩) ?_
 rintro _ w615 ⟨rfl,hr614,hK⟩
 replace hM:=hM.none hK.fr
 replace hD:=hM.wide (H:=([]:List Fact))
 refine ⟨hM,?_⟩
 replace hC:=hC.merge hK
 clear hK
 refine mixE.nil ?_
 refine qac ?_
 refine mixE.op hM (hC.alloc (cs:=[iv 0,iv 0,iv 0,iv 0]) zeroValue51 rfl) ?_
 rintro _ w617 ⟨g616,rfl,hC,hF,hG⟩
 have hUf618:g616<w599.heap.size→g616∈blocks (([]:List Fact)++([]:List Fact)):=fun h=>absurd (Nat.lt_of_lt_of_le h (Nat.le_trans hM.size hG)) (Nat.lt_irrefl _)
 have hVf618:g616<w599.heap.size→g616∈blocks ([]:List Fact):=fun h=>absurd (Nat.lt_of_lt_of_le h (Nat.le_trans hM.size hG)) (Nat.lt_irrefl _)
 clear hG
 replace hM:=hM.none hF
 replace hD:=hM.wide (H:=([]:List Fact))
 refine ⟨hM,?_⟩
 refine mixE.sk hD (hC.seta (i:=0) (ds:=[iv x606.1,iv x606.2.1,iv x606.2.2.1,iv x606.2.2.2]) rfl type51 rfl rfl rfl rfl rfl) ?_
 rintro w619 ⟨hC,hF⟩
 replace hD:=hD.besideG hUf618 hF
 replace hM:=hM.besideG hVf618 hF
 clear hF
 refine ⟨hD,?_⟩
 refine mp (iv y612) (qab rfl)<|mixE.nil ?_
 clear hS hM
 clear hD
 exact hK597 _ _ ⟨g616,y612,x606.1,x606.2.1,x606.2.2.1,x606.2.2.2,e2,e3,e4,e5,e6,e7,e9,e10,e11,e12,e13,rfl,rfl,e56,e57,e58,e59,e64,hr614,hr608,hr609,hr610,hr611,hC.sE [2,3,4,5,6,7,8,9,10,11,0,12],hb⟩
 refine qac ?_
 refine mixE.op hM (hC.alloc (cs:=[iv 0,iv 0,iv 0,iv 0]) zeroValue51 rfl) ?_
 rintro _ w621 ⟨g620,rfl,hC,hF,hG⟩
 have hUf622:g620<w599.heap.size→g620∈blocks (([]:List Fact)++([]:List Fact)):=fun h=>absurd (Nat.lt_of_lt_of_le h (Nat.le_trans hM.size hG)) (Nat.lt_irrefl _)
 have hVf622:g620<w599.heap.size→g620∈blocks ([]:List Fact):=fun h=>absurd (Nat.lt_of_lt_of_le h (Nat.le_trans hM.size hG)) (Nat.lt_irrefl _)
 clear hG
 replace hM:=hM.none hF
 replace hD:=hM.wide (H:=([]:List Fact))
 refine ⟨hM,?_⟩
 refine mixE.nil ?_
 refine qac ?_
 obtain ⟨y612,h624,hb⟩:=bd hb
 refine mixE.cl hM (⟨_,_,qam (vs:=[iv x570]) call18 rfl rfl rfl,braid_generator_ok n hC.lt (qbi hr575') h624⟩) ?_
 rintro _ w626 ⟨rfl,hr625,hK⟩
 replace hM:=hM.none hK.fr
 replace hD:=hM.wide (H:=([]:List Fact))
 refine ⟨hM,?_⟩
 replace hC:=hC.merge hK
 clear hK
 refine mixE.sk hD (hC.seta (i:=0) (ds:=[iv x606.1,iv x606.2.1,iv x606.2.2.1,iv x606.2.2.2]) rfl type51 rfl rfl rfl rfl rfl) ?_
 rintro w627 ⟨hC,hF⟩
 replace hD:=hD.besideG hUf622 hF
 replace hM:=hM.besideG hVf622 hF
 clear hF
 refine ⟨hD,?_⟩
 refine mp (iv y612) (qab rfl)<|mixE.nil ?_
 clear hS hM
 clear hD
 exact hK597 _ _ ⟨g620,y612,x606.1,x606.2.1,x606.2.2.1,x606.2.2.2,e2,e3,e4,e5,e6,e7,e9,e10,e11,e12,e13,rfl,rfl,e56,e57,e58,e59,e64,hr625,hr608,hr609,hr610,hr611,hC.sE [2,3,4,5,6,7,8,9,10,11,0,12],hb⟩
 clear hb hC
 rintro E629 w628 ⟨gP14,a5,a0,a1,a2,a3,e2,e3,e4,e5,e6,e7,e9,e10,e11,e12,e13,e14,e15,e56,e57,e58,e59,e64,b9,c3,c4,c5,c6,hC,hb⟩
 unfold F.qgj at hb
 refine Wc.seq fun _ hK630=>rg<|lp _ (qaa e10)<|lp _ (qaa e15) ?_
 obtain ⟨z631,h632,hb⟩:=bd hb
 refine lp (iv z631) (pu_subc (a:=a5) (b:=1) rfl rfl h632)<|lp _ (qaa e11) ?_
 obtain ⟨z633,h634,hb⟩:=bd hb
 refine lp (iv z633) (qfx (a:=4) (b:=T) rfl rfl h634)<|lp (.pointer (some ((⟨gP14,0,none⟩:Addr).add 0))) (qaf (sz:=1) underlying51 rfl sizeOf3 (by decide) rfl e14)<|lv (iv a0) (qal (hC.bx (i:=10) rfl) isAgg3 rfl rfl) ?_
 obtain ⟨z635,h636,hb⟩:=bd hb
 refine lp (iv z635) (qau (a:=z633) (b:=a0) rfl rfl h636)<|lp _ (qaa e11) ?_
 obtain ⟨z637,h638,hb⟩:=bd hb
 refine lp (iv z637) (qfx (a:=4) (b:=T) rfl rfl h638)<|lp (.pointer (some ((⟨gP14,0,none⟩:Addr).add 3))) (qaf (sz:=1) underlying51 rfl sizeOf3 (by decide) rfl e14)<|lv (iv a3) (qal (hC.bx (i:=10) rfl) isAgg3 rfl rfl) ?_
 obtain ⟨z639,h640,hb⟩:=bd hb
 refine lp (iv z639) (qau (a:=z637) (b:=a3) rfl rfl h640) ?_
 replace hC:Cx (fun _=>False) O0 w w628 ([.own 3 si (.slice G J.length C) M,.own 3 si (.slice B u.length x) L,.own 3 si (.slice A37 (((rZ z33)).length) c38) Y,.box gP7 22 [.slice G J.length C],.box gP6 22 [.slice B u.length x],.box g550 53 [.func (.func 16) #[] #[pg g43]],.box g43 32 [.slice A591 ((l++([N]:List Int)).length) c592,.slice A37 (((rZ z33)).length) c38,iv 0]]++[.box g6 32 [.slice none 0 0,.slice none 0 0,iv 0],.box g28 52 [iv 0,iv 1,iv 2,iv 3,iv 3,iv 0,iv 1,iv 2],.own 3 si (.slice A591 ((l++([N]:List Int)).length) c592) (l++([N]:List Int)),.box gP14 51 [iv a0,iv a1,iv a2,iv a3],.ro (.sl si) [.slice (some ad572) D.length P] D]):=hC.sE [8,6,4,7,5,9,2,0,1,3,10,11]
 obtain ⟨y641,h642,hb⟩:=bd hb
 refine lex.cl (⟨_,_,qco (vs:=[iv z631,iv z635,iv z639,pg gP7,pg gP6,pg g550]) (ca:=#[pg gP7,pg gP6,pg g550]) call17 rfl rfl rfl,braid_Closure_c2_ok n (hC.lentLt [.slice A591 ((l++([N]:List Int)).length) c592]) (qah h632) (qah h636) (qah h640) ((hC.ow (i:=9) rfl).lend (vs:=[.slice A591 ((l++([N]:List Int)).length) c592]) (by simp)) (show I64 0 from by unfold I64; omega) (hC.give.lent [.slice A591 ((l++([N]:List Int)).length) c592] (hC.apart (List.forall_mem_cons.2 ⟨blk_in (i:=2) rfl,fun _ h=>absurd h List.not_mem_nil⟩))) h642⟩) ?_
 rintro _ w643 ⟨rfl,hK⟩
 replace hC:=hC.back (hK.flatTk rfl hC.lt)
 clear hK
 refine ln (hK630 _ _ ?_)
 refine Wc.fresh fun E644 hE=>?_
 have e2:=cg hE 2 e2
 have e3:=cg hE 3 e3
 have e4:=cg hE 4 e4
 have e5:=cg hE 5 e5
 have e6:=cg hE 6 e6
 have e7:=cg hE 7 e7
 have e9:=cg hE 9 e9
 have e10:=cg hE 10 e10
 have e11:=cg hE 11 e11
 have e12:=cg hE 12 e12
 have e13:=cg hE 13 e13
 have e14:=cg hE 14 e14
 have e15:=cg hE 15 e15
 have e56:=cg hE 56 e56
 have e57:=cg hE 57 e57
 have e58:=cg hE 58 e58
 have e59:=cg hE 59 e59
 have e64:=cg hE 64 e64
 clear hE
 refine rg<|lp _ (qaa e10)<|lp _ (qaa e15)<|lp _ (qaa e11) ?_
 obtain ⟨z645,h646,hb⟩:=bd hb
 refine lp (iv z645) (qfx (a:=4) (b:=T) rfl rfl h646)<|lp (.pointer (some ((⟨gP14,0,none⟩:Addr).add 1))) (qaf (sz:=1) underlying51 rfl sizeOf3 (by decide) rfl e14)<|lv (iv a1) (qal (hC.bx (i:=10) rfl) isAgg3 rfl rfl) ?_
 obtain ⟨z647,h648,hb⟩:=bd hb
 refine lp (iv z647) (qau (a:=z645) (b:=a1) rfl rfl h648)<|lp _ (qaa e11) ?_
 obtain ⟨z649,h650,hb⟩:=bd hb
 refine lp (iv z649) (qfx (a:=4) (b:=T) rfl rfl h650)<|lp (.pointer (some ((⟨gP14,0,none⟩:Addr).add 2))) (qaf (sz:=1) underlying51 rfl sizeOf3 (by decide) rfl e14)<|lv (iv a2) (qal (hC.bx (i:=10) rfl) isAgg3 rfl rfl) ?_
 obtain ⟨z651,h652,hb⟩:=bd hb
 refine lp (iv z651) (qau (a:=z649) (b:=a2) rfl rfl h652) ?_
 replace hC:Cx (fun _=>False) O0 w w643 ([.own 3 si (.slice G J.length C) y641.1,.own 3 si (.slice B u.length x) y641.2.1,.own 3 si (.slice A37 (((rZ z33)).length) c38) y641.2.2,.box gP7 22 [.slice G J.length C],.box gP6 22 [.slice B u.length x],.box g550 53 [.func (.func 16) #[] #[pg g43]],.box g43 32 [.slice A591 ((l++([N]:List Int)).length) c592,.slice A37 (((rZ z33)).length) c38,iv 0]]++[.box g6 32 [.slice none 0 0,.slice none 0 0,iv 0],.box g28 52 [iv 0,iv 1,iv 2,iv 3,iv 3,iv 0,iv 1,iv 2],.own 3 si (.slice A591 ((l++([N]:List Int)).length) c592) (l++([N]:List Int)),.box gP14 51 [iv a0,iv a1,iv a2,iv a3],.ro (.sl si) [.slice (some ad572) D.length P] D]):=hC.sE [0,1,2,3,4,5,6,7,8,9,10,11]
 obtain ⟨y653,h654,hb⟩:=bd hb
 refine lex.cl (⟨_,_,qco (vs:=[iv a5,iv z647,iv z651,pg gP7,pg gP6,pg g550]) (ca:=#[pg gP7,pg gP6,pg g550]) call17 rfl rfl rfl,braid_Closure_c2_ok n (hC.lentLt [.slice A591 ((l++([N]:List Int)).length) c592]) b9 (qah h648) (qah h652) ((hC.ow (i:=9) rfl).lend (vs:=[.slice A591 ((l++([N]:List Int)).length) c592]) (by simp)) (show I64 0 from by unfold I64; omega) (hC.give.lent [.slice A591 ((l++([N]:List Int)).length) c592] (hC.apart (List.forall_mem_cons.2 ⟨blk_in (i:=2) rfl,fun _ h=>absurd h List.not_mem_nil⟩))) h654⟩) ?_
 rintro _ w655 ⟨rfl,hK⟩
 replace hC:=hC.back (hK.flatTk rfl hC.lt)
 clear hK
 refine ln (hK568 _ _ ?_)
 refine rg ?_
 obtain ⟨z656,h657,hb⟩:=bd hb
 refine lp (iv z656) (qau (a:=T) (b:=1) e58 rfl h657)<|lp (iv z656) (qaa rfl)<|ln ?_
 obtain rfl:=os hb
 exact hK560 m561' _ _ (Nat.lt_succ_self _) ⟨z656,y653.2.2,(l++([N]:List Int)),y653.2.1,y653.1,A591,(l++([N]:List Int)).length,c592,e2,e3,e4,e5,e6,e7,e9,e10,e56,e57,rfl,(qah h657),hC.sE [7,8,6,9,2,4,1,3,0,5,11],lN hl2⟩
 replace hb:=tf hq567 hb
 refine Wc.exit rfl ?_
 obtain rfl:=os hb
 obtain rfl:=(lX hl2).symm
 exact hK559 _ _ ⟨T,Y,l,L,M,y,l.length,z,e2,e3,e5,e6,e7,e9,b1,hC.sE [0,2,3,4,5,6,7,8,9],hbK2⟩
 clear hb hC hl2
 rintro E659 w658 ⟨T,Y,l,L,M,y,Z,z,e2,e3,e5,e6,e7,e9,b1,hC,hb⟩
 subst hf558
 obtain ⟨rfl,b2,b3⟩:=(hC.ow (i:=2) rfl).qae
 refine hK555 _ _ ?_
 refine Wc.seq fun _ hK660=>?_
 refine Wc.seq fun _ hK661=>rg<|lv (.slice B u.length x) (qaw isAgg22 e6 ((hC.bx (i:=4) rfl).cell (j:=0) rfl))<|lp (iv (u.length:Int)) (qay (A:=B) (n:=u.length) (m:=x) underlying22 rfl)<|lp (iv 0) (qaa rfl)<|ln (hK661 _ _ ?_)
 obtain ⟨o662,hl5,f662,hf662,hb⟩:=bn hb
 refine Wc.cut (fun E wv=> ∃(S:Int) (X:List Int) (K:Int),E 2=pg g6∧E 3=iv 0∧E 5=pg g43∧I64 S∧I64 K∧Cx (fun _=>False) O0 w wv [.box g6 32 [.slice none 0 0,.slice none 0 0,iv 0],.box g43 32 [.slice y l.length z,.slice A37 (((rZ z33)).length) c38,iv K],.own 3 si (.slice y l.length z) l,.own 3 si (.slice A37 (((rZ z33)).length) c38) X]∧f662 (S,X,K)=some r) (fun _ hK663=>?_) ?_
 refine Wc.block ?_
 refine Wc.loop (fun m E wv=> ∃(S:Int) (X:List Int) (K:Int),E 2=pg g6∧E 3=iv 0∧E 5=pg g43∧E 6=pg gP6∧E 7=pg gP7∧E 9=pg g550∧E 107=iv (u.length:Int)∧E 108=iv S∧I64 S∧I64 K∧Cx (fun _=>False) O0 w wv [.box g6 32 [.slice none 0 0,.slice none 0 0,iv 0],.box g43 32 [.slice y l.length z,.slice A37 (((rZ z33)).length) c38,iv K],.own 3 si (.slice y l.length z) l,.own 3 si (.slice A37 (((rZ z33)).length) c38) X,.box gP6 22 [.slice B u.length x],.own 3 si (.slice B u.length x) L,.box gP7 22 [.slice G J.length C],.own 3 si (.slice G J.length C) M,.box g550 53 [.func (.func 16) #[] #[pg g43]]]∧loopN m (F.qee n u l L M) (S,X,K)=some o662) n ⟨0,Y,0,e2,e3,e5,e6,e7,e9,rfl,rfl,(show I64 0 from by unfold I64; omega),(show I64 0 from by unfold I64; omega),hC.sE [0,1,2,3,4,5,6,7,8],hl5⟩ ?_
 have hbK5:=hb
 clear hb hC hl5
 rintro m665 E667 w666 ⟨S,X,K,e2,e3,e5,e6,e7,e9,e107,e108,a9,a4,hC,hl5⟩ K664 hK664
 obtain ⟨m665',o668,rfl,hb,hl5⟩:=qax hl5
 unfold F.qee at hb
 refine Wc.seq fun _ hK669=>rg<|lp _ (qbj e108 e107)<|ln (hK669 _ _ ?_)
 refine Wc.seq fun _ hK670=>?_
 refine Wc.cond (t:=(decide (S<(u.length:Int)))) (rfl) (fun hq671=>?_) (fun hq671=>?_)
 replace hb:=tt hq671 hb
 refine Wc.skip (hK670 _ _ ?_)
 refine Wc.seq fun _ hK672=>?_
 refine Wc.block<|Wc.seq fun _ hK673=>rg<|lp _ (qaa e108)<|lp (iv S) (qab rfl)<|ln (hK673 _ _ ?_)
 refine Wc.seq fun _ hK674=>rg<|lv (.slice G J.length C) (qaw isAgg22 e7 ((hC.bx (i:=6) rfl).cell (j:=0) rfl))<|lp (iv S) (qaa rfl) ?_
 obtain ⟨x675,h676,hb⟩:=bd hb
 obtain ⟨ad677,cs678,hA,hc679,hr680⟩:=hC.elo (i:=7) rfl (qad h676).2
 subst hA
 refine lp (.pointer (some (ad677.add (S.toNat*1)))) (qar (a:=S) underlying22 sizeOf3 rfl rfl (by rw [(hC.ow (i:=7) rfl).qae.1]; exact (qad h676).1)) ?_
 obtain ⟨rfl,hr680'⟩:=hr680
 refine lv (iv x675) (qaw isAgg3 rfl (hc679 0 _ rfl))<|lp (.bool (decide (x675<0))) (qbj (k:=.i64) (a:=x675) (b:=0) rfl rfl)<|ln (hK674 _ _ ?_)
 refine Wc.cond (t:=(decide (x675<0))) (rfl) (fun hq681=>?_) (fun hq681=>?_)
 replace hb:=tt hq681 hb
 refine rg<|lp (.pointer (some ((⟨g43,0,none⟩:Addr).add 2))) (qaf (sz:=1) underlying32 rfl sizeOf3 (by decide) rfl e5)<|lv (iv K) (qal (hC.bx (i:=1) rfl) isAgg3 rfl rfl) ?_
 obtain ⟨z682,h683,hb⟩:=bd hb
 refine lp (iv z682) (qau (a:=K) (b:=1) rfl rfl h683)<|lp (.pointer (some ((⟨g43,0,none⟩:Addr).add 2))) (qaf (sz:=1) underlying32 rfl sizeOf3 (by decide) rfl e5)<|lex.sk (hC.setf (i:=1) (k:=2) (v:=iv z682) rfl sizeOf3 rfl rfl rfl rfl) ?_
 rintro w684 ⟨hC,hF⟩
 refine ln (hK672 _ _ ?_)
 refine rg ?_
 obtain ⟨z685,h686,hb⟩:=bd hb
 refine lp (iv z685) (qau (a:=S) (b:=1) e108 rfl h686)<|lp (iv z685) (qaa rfl)<|ln ?_
 obtain rfl:=os hb
 exact hK664 m665' _ _ (Nat.lt_succ_self _) ⟨z685,X,z682,e2,e3,e5,e6,e7,e9,e107,rfl,(qah h686),(qah h683),hC.sE [0,1,2,3,4,5,6,7,8],lN hl5⟩
 replace hb:=tf hq681 hb
 refine Wc.regionMix [] (frm [] [.own 3 si (.slice A37 (((rZ z33)).length) c38) X,.box g43 32 [.slice y l.length z,.slice A37 (((rZ z33)).length) c38,iv K]] ([]:List Fact)) (fun _=>rfl) mixed (by decide+kernel) (by decide+kernel) fun w688 hw687=>?_
 replace hC:=hC.step (Fr.qcx hw687)
 have hM:=Fr.refl (fun k=>k∈blocks [.own 3 si (.slice A37 (((rZ z33)).length) c38) X,.box g43 32 [.slice y l.length z,.slice A37 (((rZ z33)).length) c38,iv K]]) w688
 clear hw687
 have hS:=hC
 have hBf42:Beside [.own 3 si (.slice A37 (((rZ z33)).length) c38) X,.box g43 32 [.slice y l.length z,.slice A37 (((rZ z33)).length) c38,iv K]] w688 (.slice A37 (((rZ z33)).length) c38):=Beside.of (i:=0) rfl
 have hBf45: ∀g,g<w688.heap.size→some g43=some g→g∈blocks [.own 3 si (.slice A37 (((rZ z33)).length) c38) X,.box g43 32 [.slice y l.length z,.slice A37 (((rZ z33)).length) c38,iv K]]:=fun g _ hg=>Option.some.inj hg▸qcg (i:=1) rfl
 refine mixE.load hM (v:=.func (.func 16) #[] #[pg g43]) (fun _ hF=>qaw isAgg53 e9 ((hS.bx2 (i:=8) rfl [3,1] (by decide) hF).cell (j:=0) rfl))<|mixE.load hM (v:=.slice (some ad677) J.length C) (fun _ hF=>qaw isAgg22 e7 ((hS.bx2 (i:=6) rfl [3,1] (by decide) hF).cell (j:=0) rfl))<|mp (iv S) (qaa rfl) ?_
 obtain ⟨x689,h690,hb⟩:=bd hb
 obtain ⟨ad691,cs692,hA,ho695,hc693,hr694⟩:=hS.elo2 (i:=7) rfl (qad h690).2 [3,1] (by decide)
 obtain rfl:=Option.some.inj hA
 refine mp (.pointer (some (ad677.add (S.toNat*1)))) (qar (a:=S) underlying22 sizeOf3 rfl rfl (by rw [(hC.ow (i:=7) rfl).qae.1]; exact (qad h690).1)) ?_
 obtain ⟨rfl,hr694'⟩:=hr694
 refine mixE.load hM (v:=iv x689) (fun _ hF=>qaw isAgg3 rfl (hF.cell (hc693 0 _ rfl) (off1 ho695)))<|mixE.load hM (v:=.slice B u.length x) (fun _ hF=>qaw isAgg22 e6 ((hS.bx2 (i:=4) rfl [3,1] (by decide) hF).cell (j:=0) rfl))<|mp (iv S) (qaa rfl) ?_
 obtain ⟨x696,h697,hb⟩:=bd hb
 obtain ⟨ad698,cs699,hA,ho702,hc700,hr701⟩:=hS.elo2 (i:=5) rfl (qad h697).2 [3,1] (by decide)
 subst hA
 refine mp (.pointer (some (ad698.add (S.toNat*1)))) (qar (a:=S) underlying22 sizeOf3 rfl rfl (by rw [(hC.ow (i:=5) rfl).qae.1]; exact (qad h697).1)) ?_
 obtain ⟨rfl,hr701'⟩:=hr701
 refine mixE.load hM (v:=iv x696) (fun _ hF=>qaw isAgg3 rfl (hF.cell (hc700 0 _ rfl) (off1 ho702))) ?_
 replace hC:Cx (fun _=>False) O0 w w688 ([.own 3 si (.slice A37 (((rZ z33)).length) c38) X,.box g43 32 [.slice y l.length z,.slice A37 (((rZ z33)).length) c38,iv K]]++[.box g6 32 [.slice none 0 0,.slice none 0 0,iv 0],.own 3 si (.slice y l.length z) l,.box gP6 22 [.slice (some ad698) u.length x],.own 3 si (.slice (some ad698) u.length x) L,.box gP7 22 [.slice (some ad677) J.length C],.own 3 si (.slice (some ad677) J.length C) M,.box g550 53 [.func (.func 16) #[] #[pg g43]]]):=hC.sE [3,1,0,2,4,5,6,7,8]
 obtain ⟨y703,h704,hb⟩:=bd hb
 refine mixE.cl hM (⟨_,_,qco (vs:=[iv x689,iv x696,pg g43]) (ca:=#[pg g43]) call16 rfl rfl rfl,braid_Closure_c1_ok n (hC.lentLt [.slice y l.length z]) (qbi hr694') (qbi hr701') ((hC.ow (i:=3) rfl).lend (vs:=[.slice y l.length z]) (by simp)) a4 (hC.give.lent [.slice y l.length z] (hC.apart (List.forall_mem_cons.2 ⟨blk_in (i:=1) rfl,fun _ h=>absurd h List.not_mem_nil⟩))) h704⟩) ?_
 rintro _ w705 ⟨rfl,hK⟩
 have hL706: ∀f∈([.own 3 si (.slice A37 (((rZ z33)).length) c38) X,.box g43 32 [.slice y l.length z,.slice A37 (((rZ z33)).length) c38,iv K]]:List Fact),∀g,g<w688.heap.size→f.blk=some g→g∈blocks [.own 3 si (.slice A37 (((rZ z33)).length) c38) X,.box g43 32 [.slice y l.length z,.slice A37 (((rZ z33)).length) c38,iv K]]:=List.forall_mem_cons.2 ⟨hBf42,List.forall_mem_cons.2 ⟨hBf45,fun _ h=>absurd h List.not_mem_nil⟩⟩
 replace hM:=hM.besideL hL706 hK.fr
 refine ⟨hM,?_⟩
 replace hC:=hC.back (hK.flatTk rfl hC.lt)
 clear hK
 refine mixE.nil ?_
 clear hS hM
 refine hK672 _ _<|rg ?_
 obtain ⟨z707,h708,hb⟩:=bd hb
 refine lp (iv z707) (qau (a:=S) (b:=1) e108 rfl h708)<|lp (iv z707) (qaa rfl)<|ln ?_
 obtain rfl:=os hb
 exact hK664 m665' _ _ (Nat.lt_succ_self _) ⟨z707,y703,K,e2,e3,e5,e6,e7,e9,e107,rfl,(qah h708),a4,hC.sE [2,1,3,0,4,5,6,7,8],lN hl5⟩
 replace hb:=tf hq671 hb
 refine Wc.exit rfl ?_
 obtain rfl:=os hb
 obtain rfl:=(lX hl5).symm
 exact hK663 _ _ ⟨S,X,K,e2,e3,e5,a9,a4,hC.sE [0,1,2,3],hbK5⟩
 clear hb hC hl5
 rintro E710 w709 ⟨S,X,K,e2,e3,e5,a9,a4,hC,hb⟩
 subst hf662
 refine hK660 _ _<|Wc.seq fun _ hK711=>rg<|lv (.agg #[.slice y l.length z,.slice A37 (((rZ z33)).length) c38,iv K]) (qaq (hC.bx (i:=1) rfl) isAgg32 sizeOf32 e5)<|lex.sk (hC.seta (i:=0) (ds:=[.slice y l.length z,.slice A37 (((rZ z33)).length) c38,iv K]) rfl type32 rfl rfl rfl e2 rfl) ?_
 rintro w712 ⟨hC,hF⟩
 refine lp (iv 0) (qab rfl)<|ln (hK711 _ _ ?_)
 obtain rfl:=os hb
 refine Wc.ret (hKR _ _ ?_)
 refine ⟨_,res2 results8 ⟨_,e2,qai (hC.bx (i:=0) rfl) isAgg32 sizeOf32⟩ (tV (iv 0) rfl),_,rfl,y,l.length,z,A37,((rZ z33)).length,c38,rfl,a4,(show I64 0 from by unfold I64; omega),hC.sE [2,3]⟩
