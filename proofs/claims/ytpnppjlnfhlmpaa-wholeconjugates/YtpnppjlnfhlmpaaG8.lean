import Derived.Test.YtpnppjlnfhlmpaaS
import Derived.Test.YtpnppjlnfhlmpaaG6
set_option linter.all false
namespace Go.Proofs.Ytpnppjlnfhlmpaa
open Ev Try
set_option maxRecDepth 100000
set_option maxHeartbeats 4000000
theorem qfy (n:Nat) {w:World} {O0:List Nat} (hO: ∀k∈O0,k<w.heap.size) {V:Option Addr} {a8 U:Nat} {B:List Int} (a9:Rep O0 w (.sl si) [.slice V a8 U] B) {S:Option Addr} {b0 R:Nat} {z:List Int} (b1:Rep O0 w (.sl si) [.slice S b0 R] z) {Q:Int} (b4:I64 Q) {j:Nat} {c:Nat} {d:Int} (Y:I64 d) {l:Nat} {q:Option Addr} {Z u:Nat} {o:List Int} (a5:Rep O0 w (.sl si) [.slice q Z u] o) {x:Option Addr} {a0 y:Nat} {p:List Int} (a6:Rep O0 w (.sl si) [.slice x a0 y] p) {C:Int} (a7:I64 C) (hio:Tk O0 w [.box j 68 [.func (.func 51) #[] #[pg c]],.box c 3 [iv d],.box l 32 [.slice q Z u,.slice x a0 y,iv C]]) {r:(List Int)×(List Int)×Int} (hb:F.qbw n B z Q d o p C=some r):
    Calls prog 57 #[.agg #[.slice V a8 U,.slice S b0 R,iv Q],.func (.func 56) #[] #[pg j,pg l],.func (.func 58) #[] #[pg j]] w fun e w'=> ∃v,e=.returned v∧∃(A0:Option Addr) (m0 c0:Nat) (A1:Option Addr) (m1 c1:Nat),v=.agg #[.slice A0 m0 c0,.slice A1 m1 c1,iv r.2.2]∧I64 r.2.2∧Cx (fun k=>k∈blocks [.box j 68 [.func (.func 51) #[] #[pg c]],.box c 3 [iv d],.box l 32 [.slice q Z u,.slice x a0 y,iv C]]) O0 w w' [.own 3 si (.slice A0 m0 c0) r.1,.own 3 si (.slice A1 m1 c1) r.2.1,.box j 68 [.func (.func 51) #[] #[pg c]],.box c 3 [iv d],.box l 32 [.slice q Z u,.slice x a0 y,iv C]]:=by
 unfold F.qbw at hb
 have hC:=Cx.startTk hO hio
 have hsub:=hio.2.2
 replace hC:=hC.argTk (by first | exact hsub | exact fun k hk=>hsub k (by simpa [blocks,Fact.blk] using hk)) a9
 replace hC:=hC.argTk (by first | exact hsub | exact fun k hk=>hsub k (by simpa [blocks,Fact.blk] using hk)) b1
 replace hC:=hC.argTk (by first | exact hsub | exact fun k hk=>hsub k (by simpa [blocks,Fact.blk] using hk)) a5
 replace hC:=hC.argTk (by first | exact hsub | exact fun k hk=>hsub k (by simpa [blocks,Fact.blk] using hk)) a6
 clear hO
 obtain ⟨rfl,c5,c6⟩:=a9.qae
 obtain ⟨rfl,c7,c8⟩:=b1.qae
 obtain ⟨rfl,b5,b6⟩:=a5.qae
 obtain ⟨rfl,b7,b8⟩:=a6.qae
 clear hio hsub
 obtain ⟨I,hI,hC⟩: ∃I:Nat→Prop,I=(fun k=>k∈blocks [.box j 68 [.func (.func 51) #[] #[pg c]],.box c 3 [iv d],.box l 32 [.slice q o.length u,.slice x p.length y,iv C]])∧Cx I O0 w w ([.ro (.sl si) [.slice x p.length y] p,.ro (.sl si) [.slice q o.length u] o,.ro (.sl si) [.slice S z.length R] z,.ro (.sl si) [.slice V B.length U] B,.box j 68 [.func (.func 51) #[] #[pg c]],.box c 3 [iv d],.box l 32 [.slice q o.length u,.slice x p.length y,iv C]]):=⟨_,rfl,hC⟩
 refine qao func57 rfl (by rw [ntmps57]; exact nb rfl) fun KR hKR=>?_
 refine Wc.seq fun _ hK8=>rg<|lex.op (hC.box (cs:=[.slice V B.length U,.slice S z.length R,iv Q]) rfl rfl) ?_
 rintro _ w10 ⟨g9,rfl,hC,hF,-⟩
 refine lex.op (hC.box (cs:=[.func (.func 56) #[] #[pg j,pg l]]) rfl rfl) ?_
 rintro _ w13 ⟨g12,rfl,hC,hF,-⟩
 refine lex.op (hC.alloc (cs:=[.slice none 0 0,.slice none 0 0,iv 0]) zeroValue32 rfl) ?_
 rintro _ w16 ⟨g15,rfl,hC,hF,-⟩
 refine ln (hK8 _ _ ?_)
 refine Wc.seq fun _ hK18=>rg<|lp (.func (.func 64) #[] #[pg g12]) (qga rfl)<|lp (.func (.func 64) #[] #[pg g12]) (qab rfl)<|ln (hK18 _ _ ?_)
 refine Wc.seqJ (fun E wv=> ∃(gP8:Nat) (M:List Int) (J:List Int) (K:Option Addr) (a1 L:Nat) (D:Option Addr) (a2 G:Nat),E 2=.func (.func 58) #[] #[pg j]∧E 3=pg g9∧E 6=pg g15∧E 7=.func (.func 64) #[] #[pg g12]∧E 8=pg gP8∧Cx I O0 w wv [.box j 68 [.func (.func 51) #[] #[pg c]],.box c 3 [iv d],.box g9 32 [.slice V B.length U,.slice S z.length R,iv Q],.ro (.sl si) [.slice V B.length U] B,.ro (.sl si) [.slice S z.length R] z,.box g15 32 [.slice none 0 0,.slice none 0 0,iv 0],.box g12 70 [.func (.func 56) #[] #[pg j,pg l]],.box l 32 [.slice q o.length u,.slice x p.length y,iv C],.ro (.sl si) [.slice q o.length u] o,.ro (.sl si) [.slice x p.length y] p,.box gP8 32 [.slice K a1 L,.slice D a2 G,iv Q],.own 3 si (.slice K a1 L) M,.own 3 si (.slice D a2 G) J]∧F.qbp n B z Q d o p C M J=some r) (fun _ hK19=>?_) ?_
 refine Wc.regionPlan [15,19,23] (frm [15,19,23] ([]:List Fact) ([]:List Fact)) (chainP [0,1,2,4,5,6,8,9] (.alt (chainP [3] (.alt (chainP [7] (chainP [10,11,12] .done)) (chainP [11] (chainP [7,10,12] .done)))) (.alt (chainP [7] (.alt (chainP [3] (chainP [10,11,12] .done)) (chainP [11] (chainP [3,10,12] .done)))) (chainP [11] (.alt (chainP [3] (chainP [7,10,12] .done)) (chainP [7] (chainP [3,10,12] .done))))))) (fun _=>rfl) mixed (by decide+kernel) (by decide+kernel) fun w21 hw20=>?_
 replace hC:=hC.step (Fr.qcx hw20)
 have hM:=Fr.refl (fun k=>k∈blocks ([]:List Fact)) w21
 clear hw20
 have hS:=hC
 have hD:Fr (fun k=>k∈blocks (([]:List Fact)++([]:List Fact))) w21 w21:=hM.wide
 refine qac ?_
 refine mp (.pointer (some ((⟨g9,0,none⟩:Addr).add 0))) (qaf (sz:=1) underlying32 rfl sizeOf22 (by decide) rfl rfl)<|mixE.steady hD (v:=.slice V B.length U) (fun _ hF=>qal (hS.bx2 (i:=2) rfl [] (by decide) hF) isAgg22 rfl rfl)<|mp (iv (B.length:Int)) (qay (A:=V) (n:=B.length) (m:=U) underlying22 rfl)<|mp (.pointer (some ((⟨g9,0,none⟩:Addr).add 1))) (qaf (sz:=1) underlying32 rfl sizeOf22 (by decide) rfl rfl)<|mixE.steady hD (v:=.slice S z.length R) (fun _ hF=>qal (hS.bx2 (i:=2) rfl [] (by decide) hF) isAgg22 rfl rfl)<|mp (iv (z.length:Int)) (qay (A:=S) (n:=z.length) (m:=R) underlying22 rfl)<|mp (.pointer (some ((⟨g9,0,none⟩:Addr).add 2))) (qaf (sz:=1) underlying32 rfl sizeOf3 (by decide) rfl rfl)<|mixE.steady hD (v:=iv Q) (fun _ hF=>qal (hS.bx2 (i:=2) rfl [] (by decide) hF) isAgg3 rfl rfl)<|mixE.nil ?_
 refine qas ?_ ?_
 refine qac ?_
 obtain ⟨u22,h23,hb⟩:=bd hb
 refine mixE.op hM (hC.make (s:=si) (n:=(B.length:Int)) underlying22 type3 rfl rfl rfl rfl rfl (qaj h23).1 (qaj h23).2 (by decide)) ?_
 rintro _ w28 ⟨A24,c25,rfl,hl26,hc27,hC,hF,hN⟩
 have hBf29:=Beside.new hM hN
 have hUf29:=Beside.new (hM.wide (H:=([]:List Fact))) hN
 replace hM:=hM.none hF
 replace hD:=hM.wide (H:=([]:List Fact))
 refine ⟨hM,?_⟩
 clear hF hN
 refine mixE.nil ?_
 refine qas ?_ ?_
 refine qac ?_
 obtain ⟨u30,h31,hb⟩:=bd hb
 refine mixE.op hM (hC.make (s:=si) (n:=(z.length:Int)) underlying22 type3 rfl rfl rfl rfl rfl (qaj h31).1 (qaj h31).2 (by decide)) ?_
 rintro _ w36 ⟨A32,c33,rfl,hl34,hc35,hC,hF,hN⟩
 have hBf37:=Beside.new hM hN
 have hUf37:=Beside.new (hM.wide (H:=([]:List Fact))) hN
 replace hM:=hM.none hF
 replace hD:=hM.wide (H:=([]:List Fact))
 refine ⟨hM,?_⟩
 clear hF hN
 refine mixE.nil ?_
 refine qac ?_
 refine mp (.agg #[.slice A24 (((rZ B.length)).length) c25,.slice A32 (((rZ z.length)).length) c33,iv Q]) (qat (places:=[(0,1),(1,1),(2,1)]) (pv:=[(0,.slice A24 (((rZ B.length)).length) c25),(1,.slice A32 (((rZ z.length)).length) c33),(2,iv Q)]) type32 underlying32 rfl (qag type22 (qag type22 (qag type3 qbb rfl rfl) rfl rfl) rfl rfl) rfl (by simp [Instr.fill,Value.cells]))<|mixE.op hM (hC.alloc (cs:=[.slice none 0 0,.slice none 0 0,iv 0]) zeroValue32 rfl) ?_
 rintro _ w39 ⟨g38,rfl,hC,hF,hG⟩
 have hUf40:g38<w21.heap.size→g38∈blocks (([]:List Fact)++([]:List Fact)):=fun h=>absurd (Nat.lt_of_lt_of_le h (Nat.le_trans hM.size hG)) (Nat.lt_irrefl _)
 have hVf40:g38<w21.heap.size→g38∈blocks ([]:List Fact):=fun h=>absurd (Nat.lt_of_lt_of_le h (Nat.le_trans hM.size hG)) (Nat.lt_irrefl _)
 clear hG
 replace hM:=hM.none hF
 replace hD:=hM.wide (H:=([]:List Fact))
 refine ⟨hM,?_⟩
 refine mixE.sk hD (hC.seta (i:=0) (ds:=[.slice A24 (((rZ B.length)).length) c25,.slice A32 (((rZ z.length)).length) c33,iv Q]) rfl type32 rfl rfl rfl rfl rfl) ?_
 rintro w41 ⟨hC,hF⟩
 replace hD:=hD.besideG hUf40 hF
 replace hM:=hM.besideG hVf40 hF
 clear hF
 refine ⟨hD,?_⟩
 refine mixE.nil ?_
 clear hS hM
 clear hD
 exact hK19 _ _ ⟨g38,(rZ B.length),(rZ z.length),A24,((rZ B.length)).length,c25,A32,((rZ z.length)).length,c33,rfl,rfl,rfl,rfl,rfl,hC.sE [10,11,5,9,8,3,4,12,7,6,0,2,1],hb⟩
 refine qac ?_
 refine mixE.op hM (hC.alloc (cs:=[.slice none 0 0,.slice none 0 0,iv 0]) zeroValue32 rfl) ?_
 rintro _ w43 ⟨g42,rfl,hC,hF,hG⟩
 have hUf44:g42<w21.heap.size→g42∈blocks (([]:List Fact)++([]:List Fact)):=fun h=>absurd (Nat.lt_of_lt_of_le h (Nat.le_trans hM.size hG)) (Nat.lt_irrefl _)
 have hVf44:g42<w21.heap.size→g42∈blocks ([]:List Fact):=fun h=>absurd (Nat.lt_of_lt_of_le h (Nat.le_trans hM.size hG)) (Nat.lt_irrefl _)
 clear hG
 replace hM:=hM.none hF
 replace hD:=hM.wide (H:=([]:List Fact))
 refine ⟨hM,?_⟩
 refine mixE.nil ?_
 refine qac ?_
 obtain ⟨u30,h46,hb⟩:=bd hb
 refine mixE.op hM (hC.make (s:=si) (n:=(z.length:Int)) underlying22 type3 rfl rfl rfl rfl rfl (qaj h46).1 (qaj h46).2 (by decide)) ?_
 rintro _ w51 ⟨A47,c48,rfl,hl49,hc50,hC,hF,hN⟩
 have hBf52:=Beside.new hM hN
 have hUf52:=Beside.new (hM.wide (H:=([]:List Fact))) hN
 replace hM:=hM.none hF
 replace hD:=hM.wide (H:=([]:List Fact))
 refine ⟨hM,?_⟩
 clear hF hN
 refine mp (.agg #[.slice A24 (((rZ B.length)).length) c25,.slice A47 (((rZ z.length)).length) c48,iv Q]) (qat (places:=[(0,1),(1,1),(2,1)]) (pv:=[(0,.slice A24 (((rZ B.length)).length) c25),(1,.slice A47 (((rZ z.length)).length) c48),(2,iv Q)]) type32 underlying32 rfl (qag type22 (qag type22 (qag type3 qbb rfl rfl) rfl rfl) rfl rfl) rfl (by simp [Instr.fill,Value.cells]))<|mixE.sk hD (hC.seta (i:=1) (ds:=[.slice A24 (((rZ B.length)).length) c25,.slice A47 (((rZ z.length)).length) c48,iv Q]) rfl type32 rfl rfl rfl rfl rfl) ?_
 rintro w53 ⟨hC,hF⟩
 replace hD:=hD.besideG hUf44 hF
 replace hM:=hM.besideG hVf44 hF
 clear hF
 refine ⟨hD,?_⟩
 refine mixE.nil ?_
 clear hS hM
 clear hD
 exact hK19 _ _ ⟨g42,(rZ B.length),(rZ z.length),A24,((rZ B.length)).length,c25,A47,((rZ z.length)).length,c48,rfl,rfl,rfl,rfl,rfl,hC.sE [10,11,5,9,8,3,4,12,7,6,1,2,0],hb⟩
 replace hb:=(gcomm0 _ _ _).symm.trans hb
 refine qas ?_ ?_
 refine qac ?_
 obtain ⟨u30,h55,hb⟩:=bd hb
 refine mixE.op hM (hC.make (s:=si) (n:=(z.length:Int)) underlying22 type3 rfl rfl rfl rfl rfl (qaj h55).1 (qaj h55).2 (by decide)) ?_
 rintro _ w60 ⟨A56,c57,rfl,hl58,hc59,hC,hF,hN⟩
 have hBf61:=Beside.new hM hN
 have hUf61:=Beside.new (hM.wide (H:=([]:List Fact))) hN
 replace hM:=hM.none hF
 replace hD:=hM.wide (H:=([]:List Fact))
 refine ⟨hM,?_⟩
 clear hF hN
 refine mixE.nil ?_
 refine qas ?_ ?_
 refine qac ?_
 obtain ⟨u22,h63,hb⟩:=bd hb
 refine mixE.op hM (hC.make (s:=si) (n:=(B.length:Int)) underlying22 type3 rfl rfl rfl rfl rfl (qaj h63).1 (qaj h63).2 (by decide)) ?_
 rintro _ w68 ⟨A64,c65,rfl,hl66,hc67,hC,hF,hN⟩
 have hBf69:=Beside.new hM hN
 have hUf69:=Beside.new (hM.wide (H:=([]:List Fact))) hN
 replace hM:=hM.none hF
 replace hD:=hM.wide (H:=([]:List Fact))
 refine ⟨hM,?_⟩
 clear hF hN
 refine mixE.nil ?_
 refine qac ?_
 refine mp (.agg #[.slice A64 (((rZ B.length)).length) c65,.slice A56 (((rZ z.length)).length) c57,iv Q]) (qat (places:=[(0,1),(1,1),(2,1)]) (pv:=[(0,.slice A64 (((rZ B.length)).length) c65),(1,.slice A56 (((rZ z.length)).length) c57),(2,iv Q)]) type32 underlying32 rfl (qag type22 (qag type22 (qag type3 qbb rfl rfl) rfl rfl) rfl rfl) rfl (by simp [Instr.fill,Value.cells]))<|mixE.op hM (hC.alloc (cs:=[.slice none 0 0,.slice none 0 0,iv 0]) zeroValue32 rfl) ?_
 rintro _ w71 ⟨g70,rfl,hC,hF,hG⟩
 have hUf72:g70<w21.heap.size→g70∈blocks (([]:List Fact)++([]:List Fact)):=fun h=>absurd (Nat.lt_of_lt_of_le h (Nat.le_trans hM.size hG)) (Nat.lt_irrefl _)
 have hVf72:g70<w21.heap.size→g70∈blocks ([]:List Fact):=fun h=>absurd (Nat.lt_of_lt_of_le h (Nat.le_trans hM.size hG)) (Nat.lt_irrefl _)
 clear hG
 replace hM:=hM.none hF
 replace hD:=hM.wide (H:=([]:List Fact))
 refine ⟨hM,?_⟩
 refine mixE.sk hD (hC.seta (i:=0) (ds:=[.slice A64 (((rZ B.length)).length) c65,.slice A56 (((rZ z.length)).length) c57,iv Q]) rfl type32 rfl rfl rfl rfl rfl) ?_
 rintro w73 ⟨hC,hF⟩
 replace hD:=hD.besideG hUf72 hF
 replace hM:=hM.besideG hVf72 hF
 clear hF
 refine ⟨hD,?_⟩
 refine mixE.nil ?_
 clear hS hM
 clear hD
 exact hK19 _ _ ⟨g70,(rZ B.length),(rZ z.length),A64,((rZ B.length)).length,c65,A56,((rZ z.length)).length,c57,rfl,rfl,rfl,rfl,rfl,hC.sE [10,11,5,9,8,3,4,12,7,6,0,1,2],hb⟩
 refine qac ?_
 refine mixE.op hM (hC.alloc (cs:=[.slice none 0 0,.slice none 0 0,iv 0]) zeroValue32 rfl) ?_
 rintro _ w75 ⟨g74,rfl,hC,hF,hG⟩
 have hUf76:g74<w21.heap.size→g74∈blocks (([]:List Fact)++([]:List Fact)):=fun h=>absurd (Nat.lt_of_lt_of_le h (Nat.le_trans hM.size hG)) (Nat.lt_irrefl _)
 have hVf76:g74<w21.heap.size→g74∈blocks ([]:List Fact):=fun h=>absurd (Nat.lt_of_lt_of_le h (Nat.le_trans hM.size hG)) (Nat.lt_irrefl _)
 clear hG
 replace hM:=hM.none hF
 replace hD:=hM.wide (H:=([]:List Fact))
 refine ⟨hM,?_⟩
 refine mixE.nil ?_
 refine qac ?_
 obtain ⟨u22,h78,hb⟩:=bd hb
 refine mixE.op hM (hC.make (s:=si) (n:=(B.length:Int)) underlying22 type3 rfl rfl rfl rfl rfl (qaj h78).1 (qaj h78).2 (by decide)) ?_
 rintro _ w83 ⟨A79,c80,rfl,hl81,hc82,hC,hF,hN⟩
 have hBf84:=Beside.new hM hN
 have hUf84:=Beside.new (hM.wide (H:=([]:List Fact))) hN
 replace hM:=hM.none hF
 replace hD:=hM.wide (H:=([]:List Fact))
 refine ⟨hM,?_⟩
 clear hF hN
 refine mp (.agg #[.slice A79 (((rZ B.length)).length) c80,.slice A56 (((rZ z.length)).length) c57,iv Q]) (qat (places:=[(0,1),(1,1),(2,1)]) (pv:=[(0,.slice A79 (((rZ B.length)).length) c80),(1,.slice A56 (((rZ z.length)).length) c57),(2,iv Q)]) type32 underlying32 rfl (qag type22 (qag type22 (qag type3 qbb rfl rfl) rfl rfl) rfl rfl) rfl (by simp [Instr.fill,Value.cells]))<|mixE.sk hD (hC.seta (i:=1) (ds:=[.slice A79 (((rZ B.length)).length) c80,.slice A56 (((rZ z.length)).length) c57,iv Q]) rfl type32 rfl rfl rfl rfl rfl) ?_
 rintro w85 ⟨hC,hF⟩
 replace hD:=hD.besideG hUf76 hF
 replace hM:=hM.besideG hVf76 hF
 clear hF
 refine ⟨hD,?_⟩
 refine mixE.nil ?_
 clear hS hM
 clear hD
 exact hK19 _ _ ⟨g74,(rZ B.length),(rZ z.length),A79,((rZ B.length)).length,c80,A56,((rZ z.length)).length,c57,rfl,rfl,rfl,rfl,rfl,hC.sE [10,11,5,9,8,3,4,12,7,6,1,0,2],hb⟩
 replace hb:=(gcomm0 _ _ _).symm.trans hb
 refine qac ?_
 refine mixE.op hM (hC.alloc (cs:=[.slice none 0 0,.slice none 0 0,iv 0]) zeroValue32 rfl) ?_
 rintro _ w87 ⟨g86,rfl,hC,hF,hG⟩
 have hUf88:g86<w21.heap.size→g86∈blocks (([]:List Fact)++([]:List Fact)):=fun h=>absurd (Nat.lt_of_lt_of_le h (Nat.le_trans hM.size hG)) (Nat.lt_irrefl _)
 have hVf88:g86<w21.heap.size→g86∈blocks ([]:List Fact):=fun h=>absurd (Nat.lt_of_lt_of_le h (Nat.le_trans hM.size hG)) (Nat.lt_irrefl _)
 clear hG
 replace hM:=hM.none hF
 replace hD:=hM.wide (H:=([]:List Fact))
 refine ⟨hM,?_⟩
 refine mixE.nil ?_
 refine qas ?_ ?_
 refine qac ?_
 obtain ⟨u22,h90,hb⟩:=bd hb
 refine mixE.op hM (hC.make (s:=si) (n:=(B.length:Int)) underlying22 type3 rfl rfl rfl rfl rfl (qaj h90).1 (qaj h90).2 (by decide)) ?_
 rintro _ w95 ⟨A91,c92,rfl,hl93,hc94,hC,hF,hN⟩
 have hBf96:=Beside.new hM hN
 have hUf96:=Beside.new (hM.wide (H:=([]:List Fact))) hN
 replace hM:=hM.none hF
 replace hD:=hM.wide (H:=([]:List Fact))
 refine ⟨hM,?_⟩
 clear hF hN
 refine mixE.nil ?_
 refine qac ?_
 obtain ⟨u30,h98,hb⟩:=bd hb
 refine mixE.op hM (hC.make (s:=si) (n:=(z.length:Int)) underlying22 type3 rfl rfl rfl rfl rfl (qaj h98).1 (qaj h98).2 (by decide)) ?_
 rintro _ w103 ⟨A99,c100,rfl,hl101,hc102,hC,hF,hN⟩
 have hBf104:=Beside.new hM hN
 have hUf104:=Beside.new (hM.wide (H:=([]:List Fact))) hN
 replace hM:=hM.none hF
 replace hD:=hM.wide (H:=([]:List Fact))
 refine ⟨hM,?_⟩
 clear hF hN
 refine mp (.agg #[.slice A91 (((rZ B.length)).length) c92,.slice A99 (((rZ z.length)).length) c100,iv Q]) (qat (places:=[(0,1),(1,1),(2,1)]) (pv:=[(0,.slice A91 (((rZ B.length)).length) c92),(1,.slice A99 (((rZ z.length)).length) c100),(2,iv Q)]) type32 underlying32 rfl (qag type22 (qag type22 (qag type3 qbb rfl rfl) rfl rfl) rfl rfl) rfl (by simp [Instr.fill,Value.cells]))<|mixE.sk hD (hC.seta (i:=2) (ds:=[.slice A91 (((rZ B.length)).length) c92,.slice A99 (((rZ z.length)).length) c100,iv Q]) rfl type32 rfl rfl rfl rfl rfl) ?_
 rintro w105 ⟨hC,hF⟩
 replace hD:=hD.besideG hUf88 hF
 replace hM:=hM.besideG hVf88 hF
 clear hF
 refine ⟨hD,?_⟩
 refine mixE.nil ?_
 clear hS hM
 clear hD
 exact hK19 _ _ ⟨g86,(rZ B.length),(rZ z.length),A91,((rZ B.length)).length,c92,A99,((rZ z.length)).length,c100,rfl,rfl,rfl,rfl,rfl,hC.sE [10,11,5,9,8,3,4,12,7,6,2,1,0],hb⟩
 replace hb:=(gcomm0 _ _ _).symm.trans hb
 refine qac ?_
 obtain ⟨u30,h107,hb⟩:=bd hb
 refine mixE.op hM (hC.make (s:=si) (n:=(z.length:Int)) underlying22 type3 rfl rfl rfl rfl rfl (qaj h107).1 (qaj h107).2 (by decide)) ?_
 rintro _ w112 ⟨A108,c109,rfl,hl110,hc111,hC,hF,hN⟩
 have hBf113:=Beside.new hM hN
 have hUf113:=Beside.new (hM.wide (H:=([]:List Fact))) hN
 replace hM:=hM.none hF
 replace hD:=hM.wide (H:=([]:List Fact))
 refine ⟨hM,?_⟩
 clear hF hN
 refine mixE.nil ?_
 refine qac ?_
 obtain ⟨u22,h115,hb⟩:=bd hb
 refine mixE.op hM (hC.make (s:=si) (n:=(B.length:Int)) underlying22 type3 rfl rfl rfl rfl rfl (qaj h115).1 (qaj h115).2 (by decide)) ?_
 rintro _ w120 ⟨A116,c117,rfl,hl118,hc119,hC,hF,hN⟩
 have hBf121:=Beside.new hM hN
 have hUf121:=Beside.new (hM.wide (H:=([]:List Fact))) hN
 replace hM:=hM.none hF
 replace hD:=hM.wide (H:=([]:List Fact))
 refine ⟨hM,?_⟩
 clear hF hN
 refine mp (.agg #[.slice A116 (((rZ B.length)).length) c117,.slice A108 (((rZ z.length)).length) c109,iv Q]) (qat (places:=[(0,1),(1,1),(2,1)]) (pv:=[(0,.slice A116 (((rZ B.length)).length) c117),(1,.slice A108 (((rZ z.length)).length) c109),(2,iv Q)]) type32 underlying32 rfl (qag type22 (qag type22 (qag type3 qbb rfl rfl) rfl rfl) rfl rfl) rfl (by simp [Instr.fill,Value.cells]))<|mixE.sk hD (hC.seta (i:=2) (ds:=[.slice A116 (((rZ B.length)).length) c117,.slice A108 (((rZ z.length)).length) c109,iv Q]) rfl type32 rfl rfl rfl rfl rfl) ?_
 rintro w122 ⟨hC,hF⟩
 replace hD:=hD.besideG hUf88 hF
 replace hM:=hM.besideG hVf88 hF
 clear hF
 refine ⟨hD,?_⟩
 refine mixE.nil ?_
 clear hS hM
 clear hD
 exact hK19 _ _ ⟨g86,(rZ B.length),(rZ z.length),A116,((rZ B.length)).length,c117,A108,((rZ z.length)).length,c109,rfl,rfl,rfl,rfl,rfl,hC.sE [10,11,5,9,8,3,4,12,7,6,2,0,1],hb⟩
 clear hb hC
 rintro E124 w123 ⟨gP8,M,J,K,a1,L,D,a2,G,e2,e3,e6,e7,e8,hC,hb⟩
 unfold F.qbp at hb
 obtain ⟨rfl,b9,c2⟩:=(hC.ow (i:=11) rfl).qae
 obtain ⟨rfl,c3,c4⟩:=(hC.ow (i:=12) rfl).qae
 refine Wc.seq fun _ hK125=>?_
 refine Wc.seq fun _ hK126=>rg<|lp (.pointer (some ((⟨g9,0,none⟩:Addr).add 0))) (qaf (sz:=1) underlying32 rfl sizeOf22 (by decide) rfl e3)<|lv (.slice V B.length U) (qal (hC.bx (i:=2) rfl) isAgg22 rfl rfl)<|lp (iv (B.length:Int)) (qay (A:=V) (n:=B.length) (m:=U) underlying22 rfl)<|lp (iv 0) (qaa rfl)<|ln (hK126 _ _ ?_)
 obtain ⟨o127,hl1,f127,hf127,hb⟩:=bn hb
 refine Wc.cut (fun E wv=> ∃(T:Int) (N:List Int),E 3=pg g9∧E 6=pg g15∧E 7=.func (.func 64) #[] #[pg g12]∧E 8=pg gP8∧I64 T∧Cx I O0 w wv [.box g9 32 [.slice V B.length U,.slice S z.length R,iv Q],.ro (.sl si) [.slice V B.length U] B,.ro (.sl si) [.slice S z.length R] z,.box g15 32 [.slice none 0 0,.slice none 0 0,iv 0],.box g12 70 [.func (.func 56) #[] #[pg j,pg l]],.box j 68 [.func (.func 51) #[] #[pg c]],.box c 3 [iv d],.box l 32 [.slice q o.length u,.slice x p.length y,iv C],.ro (.sl si) [.slice q o.length u] o,.ro (.sl si) [.slice x p.length y] p,.box gP8 32 [.slice K M.length L,.slice D J.length G,iv Q],.own 3 si (.slice K M.length L) N,.own 3 si (.slice D J.length G) J]∧f127 (T,N)=some r) (fun _ hK128=>?_) ?_
 refine Wc.block ?_
 refine Wc.loop (fun m E wv=> ∃(T:Int) (N:List Int),E 2=.func (.func 58) #[] #[pg j]∧E 3=pg g9∧E 6=pg g15∧E 7=.func (.func 64) #[] #[pg g12]∧E 8=pg gP8∧E 26=.slice V B.length U∧E 27=iv (B.length:Int)∧E 28=iv T∧I64 T∧Cx I O0 w wv [.box j 68 [.func (.func 51) #[] #[pg c]],.box c 3 [iv d],.box g9 32 [.slice V B.length U,.slice S z.length R,iv Q],.ro (.sl si) [.slice V B.length U] B,.ro (.sl si) [.slice S z.length R] z,.box g15 32 [.slice none 0 0,.slice none 0 0,iv 0],.box g12 70 [.func (.func 56) #[] #[pg j,pg l]],.box l 32 [.slice q o.length u,.slice x p.length y,iv C],.ro (.sl si) [.slice q o.length u] o,.ro (.sl si) [.slice x p.length y] p,.box gP8 32 [.slice K M.length L,.slice D J.length G,iv Q],.own 3 si (.slice K M.length L) N,.own 3 si (.slice D J.length G) J]∧loopN m (F.qbc n B d) (T,N)=some o127) n ⟨0,M,e2,e3,e6,e7,e8,rfl,rfl,rfl,(show I64 0 from by unfold I64; omega),hC.sE [0,1,2,3,4,5,6,7,8,9,10,11,12],hl1⟩ ?_
 have hbK1:=hb
 clear hb hC hl1
 rintro m130 E132 w131 ⟨T,N,e2,e3,e6,e7,e8,e26,e27,e28,a3,hC,hl1⟩ K129 hK129
 obtain ⟨m130',o133,rfl,hb,hl1⟩:=qax hl1
 unfold F.qbc at hb
 refine Wc.seq fun _ hK134=>rg<|lp _ (qbj e28 e27)<|ln (hK134 _ _ ?_)
 refine Wc.seq fun _ hK135=>?_
 refine Wc.cond (t:=(decide (T<(B.length:Int)))) (rfl) (fun hq136=>?_) (fun hq136=>?_)
 replace hb:=tt hq136 hb
 refine Wc.skip (hK135 _ _ ?_)
 refine Wc.seq fun _ hK137=>?_
 refine Wc.block<|Wc.seq fun _ hK138=>rg<|lp _ (qaa e28) ?_
 obtain ⟨x139,h140,hb⟩:=bd hb
 obtain ⟨ad141,cs142,hA,hc143,hr144⟩:=hC.elr (i:=3) rfl (qad h140).2
 subst hA
 refine lp (.pointer (some (ad141.add (T.toNat*1)))) (qar (a:=T) underlying22 sizeOf3 e26 e28 (qad h140).1) ?_
 obtain ⟨rfl,hr144'⟩:=hr144
 refine lv (iv x139) (qaw isAgg3 rfl (hc143 0 _ rfl))<|lp (iv T) (qab rfl)<|lp (iv x139) (qab rfl)<|ln (hK138 _ _ ?_)
 refine Wc.regionMix [34] (frm [34] [.box j 68 [.func (.func 51) #[] #[pg c]],.box c 3 [iv d]] [.own 3 si (.slice K M.length L) N]) (fun _=>rfl) mixed (by decide+kernel) (by decide+kernel) fun w146 hw145=>?_
 replace hC:=hC.step (Fr.qcx hw145)
 have hM:=Fr.refl (fun k=>k∈blocks [.box j 68 [.func (.func 51) #[] #[pg c]],.box c 3 [iv d]]) w146
 clear hw145
 have hS:=hC
 have hBf3: ∀g,g<w146.heap.size→some j=some g→g∈blocks [.box j 68 [.func (.func 51) #[] #[pg c]],.box c 3 [iv d]]:=fun g _ hg=>Option.some.inj hg▸qcg (i:=0) rfl
 have hBf4: ∀g,g<w146.heap.size→some c=some g→g∈blocks [.box j 68 [.func (.func 51) #[] #[pg c]],.box c 3 [iv d]]:=fun g _ hg=>Option.some.inj hg▸qcg (i:=1) rfl
 have hD:Fr (fun k=>k∈blocks ([.box j 68 [.func (.func 51) #[] #[pg c]],.box c 3 [iv d]]++[.own 3 si (.slice K M.length L) N])) w146 w146:=hM.wide
 have hUf3:j<w146.heap.size→j∈blocks ([.box j 68 [.func (.func 51) #[] #[pg c]],.box c 3 [iv d]]++[.own 3 si (.slice K M.length L) N]):=fun _=>qcg (i:=0) rfl
 have hUf4:c<w146.heap.size→c∈blocks ([.box j 68 [.func (.func 51) #[] #[pg c]],.box c 3 [iv d]]++[.own 3 si (.slice K M.length L) N]):=fun _=>qcg (i:=1) rfl
 have b2:Beside ([.box j 68 [.func (.func 51) #[] #[pg c]],.box c 3 [iv d]]++[.own 3 si (.slice K M.length L) N]) w146 (.slice K M.length L):=Beside.of (i:=2) rfl
 refine mp (.pointer (some ((⟨gP8,0,none⟩:Addr).add 0))) (qaf (sz:=1) underlying32 rfl sizeOf22 (by decide) rfl e8)<|mixE.steady hD (v:=.slice K M.length L) (fun _ hF=>qal (hS.bx2 (i:=10) rfl [0,1,11] (by decide) hF) isAgg22 rfl rfl)<|mp (iv T) (qaa rfl)<|mp (iv x139) (qaa rfl)<|mp (.func (.func 58) #[] #[pg j]) (qaa e2)<|mp (iv T) (qaa rfl) ?_
 replace hC:Cx I O0 w w146 ([.box j 68 [.func (.func 51) #[] #[pg c]],.box c 3 [iv d]]++[.box g9 32 [.slice (some ad141) B.length U,.slice S z.length R,iv Q],.ro (.sl si) [.slice (some ad141) B.length U] B,.ro (.sl si) [.slice S z.length R] z,.box g15 32 [.slice none 0 0,.slice none 0 0,iv 0],.box g12 70 [.func (.func 56) #[] #[pg j,pg l]],.box l 32 [.slice q o.length u,.slice x p.length y,iv C],.ro (.sl si) [.slice q o.length u] o,.ro (.sl si) [.slice x p.length y] p,.box gP8 32 [.slice K M.length L,.slice D J.length G,iv Q],.own 3 si (.slice K M.length L) N,.own 3 si (.slice D J.length G) J]):=hC.sE [0,1,2,3,4,5,6,7,8,9,10,11,12]
 obtain ⟨y147,h148,hb⟩:=bd hb
 refine mixE.cl hM (⟨_,_,qco (vs:=[iv T,pg j]) (ca:=#[pg j]) call58 rfl rfl rfl,mirror_exchange_c2_ok n hC.lt a3 Y hC.give h148⟩) ?_
 rintro _ w150 ⟨rfl,hr149,hK⟩
 have hL151: ∀f∈([.box j 68 [.func (.func 51) #[] #[pg c]],.box c 3 [iv d]]:List Fact),∀g,g<w146.heap.size→f.blk=some g→g∈blocks [.box j 68 [.func (.func 51) #[] #[pg c]],.box c 3 [iv d]]:=List.forall_mem_cons.2 ⟨hBf3,List.forall_mem_cons.2 ⟨hBf4,fun _ h=>absurd h List.not_mem_nil⟩⟩
 replace hM:=hM.besideL hL151 hK.fr
 replace hD:=hM.wide (H:=[.own 3 si (.slice K M.length L) N])
 refine ⟨hM,?_⟩
 replace hC:=hC.back hK
 clear hK
 obtain ⟨z152,h153,hb⟩:=bd hb
 refine mp (iv z152) (qfx (a:=x139) (b:=y147) rfl rfl h153) ?_
 obtain ⟨x154,h155,hb⟩:=bd hb
 obtain ⟨ad156,cs157,hA,ho160,hc158,hr159⟩:=hS.elo2 (i:=11) rfl (qad h155).2 [0,1] (by decide)
 subst hA
 refine mp (.pointer (some (ad156.add (T.toNat*1)))) (qar (a:=T) underlying22 sizeOf3 rfl rfl (by rw [(hC.ow (i:=11) rfl).qae.1]; exact (qad h155).1))<|mixE.sk hD (hC.put (i:=11) rfl rfl sizeOf3 (k:=T.toNat) (a:=z152) (by have:=(qad h155).1; simp at this⊢; omega) (⟨rfl,I64.wr (qah h153)⟩) rfl rfl rfl) ?_
 rintro w161 ⟨hC,hF⟩
 replace hD:=hD.beside b2 hF
 clear hF
 refine ⟨hD,?_⟩
 refine mixE.nil ?_
 clear hS hM
 clear hD
 refine hK137 _ _<|rg ?_
 obtain ⟨z162,h163,hb⟩:=bd hb
 refine lp (iv z162) (qau (a:=T) (b:=1) e28 rfl h163)<|lp (iv z162) (qaa rfl)<|ln ?_
 obtain rfl:=os hb
 exact hK129 m130' _ _ (Nat.lt_succ_self _) ⟨z162,(N.set T.toNat z152),e2,e3,e6,e7,e8,e26,e27,rfl,(qah h163),hC.sE [0,1,2,3,4,5,6,7,8,9,10,11,12],lN hl1⟩
 replace hb:=tf hq136 hb
 refine Wc.exit rfl ?_
 obtain rfl:=os hb
 obtain rfl:=(lX hl1).symm
 exact hK128 _ _ ⟨T,N,e3,e6,e7,e8,a3,hC.sE [2,3,4,5,6,0,1,7,8,9,10,11,12],hbK1⟩
 clear hb hC hl1
 rintro E165 w164 ⟨T,N,e3,e6,e7,e8,a3,hC,hb⟩
 subst hf127
 refine hK125 _ _ ?_
 refine Wc.seq fun _ hK166=>?_
 refine Wc.seq fun _ hK167=>rg<|lp (.pointer (some ((⟨g9,0,none⟩:Addr).add 1))) (qaf (sz:=1) underlying32 rfl sizeOf22 (by decide) rfl e3)<|lv (.slice S z.length R) (qal (hC.bx (i:=0) rfl) isAgg22 rfl rfl)<|lp (iv (z.length:Int)) (qay (A:=S) (n:=z.length) (m:=R) underlying22 rfl)<|lp (iv 0) (qaa rfl)<|ln (hK167 _ _ ?_)
 obtain ⟨o168,hl2,f168,hf168,hb⟩:=bn hb
 refine Wc.cut (fun E wv=> ∃(X:Int) (P:List Int),E 6=pg g15∧E 8=pg gP8∧I64 X∧Cx I O0 w wv [.box g15 32 [.slice none 0 0,.slice none 0 0,iv 0],.box gP8 32 [.slice K M.length L,.slice D J.length G,iv Q],.own 3 si (.slice K M.length L) N,.own 3 si (.slice D J.length G) P,.box j 68 [.func (.func 51) #[] #[pg c]],.box c 3 [iv d],.box l 32 [.slice q o.length u,.slice x p.length y,iv C],.ro (.sl si) [.slice q o.length u] o,.ro (.sl si) [.slice x p.length y] p]∧f168 (X,P)=some r) (fun _ hK169=>?_) ?_
 refine Wc.block ?_
 refine Wc.loop (fun m E wv=> ∃(X:Int) (P:List Int),E 6=pg g15∧E 7=.func (.func 64) #[] #[pg g12]∧E 8=pg gP8∧E 44=.slice S z.length R∧E 45=iv (z.length:Int)∧E 46=iv X∧I64 X∧Cx I O0 w wv [.box g15 32 [.slice none 0 0,.slice none 0 0,iv 0],.box g12 70 [.func (.func 56) #[] #[pg j,pg l]],.box j 68 [.func (.func 51) #[] #[pg c]],.box c 3 [iv d],.box l 32 [.slice q o.length u,.slice x p.length y,iv C],.ro (.sl si) [.slice q o.length u] o,.ro (.sl si) [.slice x p.length y] p,.box gP8 32 [.slice K M.length L,.slice D J.length G,iv Q],.own 3 si (.slice K M.length L) N,.own 3 si (.slice D J.length G) P,.ro (.sl si) [.slice S z.length R] z]∧loopN m (F.qbd n z d o p C) (X,P)=some o168) n ⟨0,J,e6,e7,e8,rfl,rfl,rfl,(show I64 0 from by unfold I64; omega),hC.sE [3,4,5,6,7,8,9,10,11,12,2],hl2⟩ ?_
 have hbK2:=hb
 clear hb hC hl2
 rintro m171 E173 w172 ⟨X,P,e6,e7,e8,e44,e45,e46,a4,hC,hl2⟩ K170 hK170
 obtain ⟨m171',o174,rfl,hb,hl2⟩:=qax hl2
 unfold F.qbd at hb
 refine Wc.seq fun _ hK175=>rg<|lp _ (qbj e46 e45)<|ln (hK175 _ _ ?_)
 refine Wc.seq fun _ hK176=>?_
 refine Wc.cond (t:=(decide (X<(z.length:Int)))) (rfl) (fun hq177=>?_) (fun hq177=>?_)
 replace hb:=tt hq177 hb
 refine Wc.skip (hK176 _ _ ?_)
 refine Wc.seq fun _ hK178=>?_
 refine Wc.block<|Wc.seq fun _ hK179=>rg<|lp _ (qaa e46) ?_
 obtain ⟨x180,h181,hb⟩:=bd hb
 obtain ⟨ad182,cs183,hA,hc184,hr185⟩:=hC.elr (i:=10) rfl (qad h181).2
 subst hA
 refine lp (.pointer (some (ad182.add (X.toNat*1)))) (qar (a:=X) underlying22 sizeOf3 e44 e46 (qad h181).1) ?_
 obtain ⟨rfl,hr185'⟩:=hr185
 refine lv (iv x180) (qaw isAgg3 rfl (hc184 0 _ rfl))<|lp (iv X) (qab rfl)<|lp (iv x180) (qab rfl)<|ln (hK179 _ _ ?_)
 refine Wc.regionMix [52] (frm [52] [.box g12 70 [.func (.func 56) #[] #[pg j,pg l]],.box j 68 [.func (.func 51) #[] #[pg c]],.box c 3 [iv d],.box l 32 [.slice q o.length u,.slice x p.length y,iv C]] [.own 3 si (.slice D J.length G) P]) (fun _=>rfl) mixed (by decide+kernel) (by decide+kernel) fun w187 hw186=>?_
 replace hC:=hC.step (Fr.qcx hw186)
 have hM:=Fr.refl (fun k=>k∈blocks [.box g12 70 [.func (.func 56) #[] #[pg j,pg l]],.box j 68 [.func (.func 51) #[] #[pg c]],.box c 3 [iv d],.box l 32 [.slice q o.length u,.slice x p.length y,iv C]]) w187
 clear hw186
 have hS:=hC
 have hBf14: ∀g,g<w187.heap.size→some g12=some g→g∈blocks [.box g12 70 [.func (.func 56) #[] #[pg j,pg l]],.box j 68 [.func (.func 51) #[] #[pg c]],.box c 3 [iv d],.box l 32 [.slice q o.length u,.slice x p.length y,iv C]]:=fun g _ hg=>Option.some.inj hg▸qcg (i:=0) rfl
 have hBf3: ∀g,g<w187.heap.size→some j=some g→g∈blocks [.box g12 70 [.func (.func 56) #[] #[pg j,pg l]],.box j 68 [.func (.func 51) #[] #[pg c]],.box c 3 [iv d],.box l 32 [.slice q o.length u,.slice x p.length y,iv C]]:=fun g _ hg=>Option.some.inj hg▸qcg (i:=1) rfl
 have hBf4: ∀g,g<w187.heap.size→some c=some g→g∈blocks [.box g12 70 [.func (.func 56) #[] #[pg j,pg l]],.box j 68 [.func (.func 51) #[] #[pg c]],.box c 3 [iv d],.box l 32 [.slice q o.length u,.slice x p.length y,iv C]]:=fun g _ hg=>Option.some.inj hg▸qcg (i:=2) rfl
 have hBf5: ∀g,g<w187.heap.size→some l=some g→g∈blocks [.box g12 70 [.func (.func 56) #[] #[pg j,pg l]],.box j 68 [.func (.func 51) #[] #[pg c]],.box c 3 [iv d],.box l 32 [.slice q o.length u,.slice x p.length y,iv C]]:=fun g _ hg=>Option.some.inj hg▸qcg (i:=3) rfl
 have hD:Fr (fun k=>k∈blocks ([.box g12 70 [.func (.func 56) #[] #[pg j,pg l]],.box j 68 [.func (.func 51) #[] #[pg c]],.box c 3 [iv d],.box l 32 [.slice q o.length u,.slice x p.length y,iv C]]++[.own 3 si (.slice D J.length G) P])) w187 w187:=hM.wide
 have hUf14:g12<w187.heap.size→g12∈blocks ([.box g12 70 [.func (.func 56) #[] #[pg j,pg l]],.box j 68 [.func (.func 51) #[] #[pg c]],.box c 3 [iv d],.box l 32 [.slice q o.length u,.slice x p.length y,iv C]]++[.own 3 si (.slice D J.length G) P]):=fun _=>qcg (i:=0) rfl
 have hUf3:j<w187.heap.size→j∈blocks ([.box g12 70 [.func (.func 56) #[] #[pg j,pg l]],.box j 68 [.func (.func 51) #[] #[pg c]],.box c 3 [iv d],.box l 32 [.slice q o.length u,.slice x p.length y,iv C]]++[.own 3 si (.slice D J.length G) P]):=fun _=>qcg (i:=1) rfl
 have hUf4:c<w187.heap.size→c∈blocks ([.box g12 70 [.func (.func 56) #[] #[pg j,pg l]],.box j 68 [.func (.func 51) #[] #[pg c]],.box c 3 [iv d],.box l 32 [.slice q o.length u,.slice x p.length y,iv C]]++[.own 3 si (.slice D J.length G) P]):=fun _=>qcg (i:=2) rfl
 have hUf5:l<w187.heap.size→l∈blocks ([.box g12 70 [.func (.func 56) #[] #[pg j,pg l]],.box j 68 [.func (.func 51) #[] #[pg c]],.box c 3 [iv d],.box l 32 [.slice q o.length u,.slice x p.length y,iv C]]++[.own 3 si (.slice D J.length G) P]):=fun _=>qcg (i:=3) rfl
 have b3:Beside ([.box g12 70 [.func (.func 56) #[] #[pg j,pg l]],.box j 68 [.func (.func 51) #[] #[pg c]],.box c 3 [iv d],.box l 32 [.slice q o.length u,.slice x p.length y,iv C]]++[.own 3 si (.slice D J.length G) P]) w187 (.slice D J.length G):=Beside.of (i:=4) rfl
 refine mp (.pointer (some ((⟨gP8,0,none⟩:Addr).add 1))) (qaf (sz:=1) underlying32 rfl sizeOf22 (by decide) rfl e8)<|mixE.steady hD (v:=.slice D J.length G) (fun _ hF=>qal (hS.bx2 (i:=7) rfl [1,2,3,4,9] (by decide) hF) isAgg22 rfl rfl)<|mp (.func (.func 64) #[] #[pg g12]) (qaa e7)<|mp (iv X) (qaa rfl) ?_
 replace hC:Cx I O0 w w187 ([.box g12 70 [.func (.func 56) #[] #[pg j,pg l]],.box j 68 [.func (.func 51) #[] #[pg c]],.box c 3 [iv d],.box l 32 [.slice q o.length u,.slice x p.length y,iv C]]++[.box g15 32 [.slice none 0 0,.slice none 0 0,iv 0],.ro (.sl si) [.slice q o.length u] o,.ro (.sl si) [.slice x p.length y] p,.box gP8 32 [.slice K M.length L,.slice D J.length G,iv Q],.own 3 si (.slice K M.length L) N,.own 3 si (.slice D J.length G) P,.ro (.sl si) [.slice (some ad182) z.length R] z]):=hC.sE [1,2,3,4,0,5,6,7,8,9,10]
 obtain ⟨y188,h189,hb⟩:=bd hb
 refine mixE.cl hM (⟨_,_,qco (vs:=[iv X,pg g12]) (ca:=#[pg g12]) call64 rfl rfl rfl,mirror_move_c1_ok n hC.lt a4 Y (hC.rd (i:=5) rfl) (hC.rd (i:=6) rfl) a7 hC.give h189⟩) ?_
 rintro _ w191 ⟨rfl,hr190,hK⟩
 have hL192: ∀f∈([.box g12 70 [.func (.func 56) #[] #[pg j,pg l]],.box j 68 [.func (.func 51) #[] #[pg c]],.box c 3 [iv d],.box l 32 [.slice q o.length u,.slice x p.length y,iv C]]:List Fact),∀g,g<w187.heap.size→f.blk=some g→g∈blocks [.box g12 70 [.func (.func 56) #[] #[pg j,pg l]],.box j 68 [.func (.func 51) #[] #[pg c]],.box c 3 [iv d],.box l 32 [.slice q o.length u,.slice x p.length y,iv C]]:=List.forall_mem_cons.2 ⟨hBf14,List.forall_mem_cons.2 ⟨hBf3,List.forall_mem_cons.2 ⟨hBf4,List.forall_mem_cons.2 ⟨hBf5,fun _ h=>absurd h List.not_mem_nil⟩⟩⟩⟩
 replace hM:=hM.besideL hL192 hK.fr
 replace hD:=hM.wide (H:=[.own 3 si (.slice D J.length G) P])
 refine ⟨hM,?_⟩
 replace hC:=hC.back hK
 clear hK
 refine mp (.func (.func 64) #[] #[pg g12]) (qaa e7)<|mp (iv x180) (qaa rfl) ?_
 replace hC:Cx I O0 w w191 ([.box g12 70 [.func (.func 56) #[] #[pg j,pg l]],.box j 68 [.func (.func 51) #[] #[pg c]],.box c 3 [iv d],.box l 32 [.slice q o.length u,.slice x p.length y,iv C]]++[.box g15 32 [.slice none 0 0,.slice none 0 0,iv 0],.ro (.sl si) [.slice q o.length u] o,.ro (.sl si) [.slice x p.length y] p,.box gP8 32 [.slice K M.length L,.slice D J.length G,iv Q],.own 3 si (.slice K M.length L) N,.own 3 si (.slice D J.length G) P,.ro (.sl si) [.slice (some ad182) z.length R] z]):=hC.sE [0,1,2,3,4,5,6,7,8,9,10]
 obtain ⟨y193,h194,hb⟩:=bd hb
 refine mixE.cl hM (⟨_,_,qco (vs:=[iv x180,pg g12]) (ca:=#[pg g12]) call64 rfl rfl rfl,mirror_move_c1_ok n hC.lt (qbi hr185') Y (hC.rd (i:=5) rfl) (hC.rd (i:=6) rfl) a7 hC.give h194⟩) ?_
 rintro _ w196 ⟨rfl,hr195,hK⟩
 have hL197: ∀f∈([.box g12 70 [.func (.func 56) #[] #[pg j,pg l]],.box j 68 [.func (.func 51) #[] #[pg c]],.box c 3 [iv d],.box l 32 [.slice q o.length u,.slice x p.length y,iv C]]:List Fact),∀g,g<w187.heap.size→f.blk=some g→g∈blocks [.box g12 70 [.func (.func 56) #[] #[pg j,pg l]],.box j 68 [.func (.func 51) #[] #[pg c]],.box c 3 [iv d],.box l 32 [.slice q o.length u,.slice x p.length y,iv C]]:=List.forall_mem_cons.2 ⟨hBf14,List.forall_mem_cons.2 ⟨hBf3,List.forall_mem_cons.2 ⟨hBf4,List.forall_mem_cons.2 ⟨hBf5,fun _ h=>absurd h List.not_mem_nil⟩⟩⟩⟩
 replace hM:=hM.besideL hL197 hK.fr
 replace hD:=hM.wide (H:=[.own 3 si (.slice D J.length G) P])
 refine ⟨hM,?_⟩
 replace hC:=hC.back hK
 clear hK
 obtain ⟨x198,h199,hb⟩:=bd hb
 obtain ⟨ad200,cs201,hA,ho204,hc202,hr203⟩:=hS.elo2 (i:=9) rfl (qad h199).2 [1,2,3,4] (by decide)
 subst hA
 refine mp (.pointer (some (ad200.add (y188.toNat*1)))) (qar (a:=y188) underlying22 sizeOf3 rfl rfl (by rw [(hC.ow (i:=9) rfl).qae.1]; exact (qad h199).1))<|mixE.sk hD (hC.put (i:=9) rfl rfl sizeOf3 (k:=y188.toNat) (a:=y193) (by have:=(qad h199).1; simp at this⊢; omega) (⟨rfl,I64.wr hr195⟩) rfl rfl rfl) ?_
 rintro w205 ⟨hC,hF⟩
 replace hD:=hD.beside b3 hF
 clear hF
 refine ⟨hD,?_⟩
 refine mixE.nil ?_
 clear hS hM
 clear hD
 refine hK178 _ _<|rg ?_
 obtain ⟨z206,h207,hb⟩:=bd hb
 refine lp (iv z206) (qau (a:=X) (b:=1) e46 rfl h207)<|lp (iv z206) (qaa rfl)<|ln ?_
 obtain rfl:=os hb
 exact hK170 m171' _ _ (Nat.lt_succ_self _) ⟨z206,(P.set y188.toNat y193),e6,e7,e8,e44,e45,rfl,(qah h207),hC.sE [4,0,1,2,3,5,6,7,8,9,10],lN hl2⟩
 replace hb:=tf hq177 hb
 refine Wc.exit rfl ?_
 obtain rfl:=os hb
 obtain rfl:=(lX hl2).symm
 exact hK169 _ _ ⟨X,P,e6,e8,a4,hC.sE [0,7,8,9,2,3,4,5,6],hbK2⟩
 clear hb hC hl2
 rintro E209 w208 ⟨X,P,e6,e8,a4,hC,hb⟩
 subst hf168
 refine hK166 _ _<|Wc.seq fun _ hK210=>rg<|lv (.agg #[.slice K M.length L,.slice D J.length G,iv Q]) (qaq (hC.bx (i:=1) rfl) isAgg32 sizeOf32 e8)<|lex.sk (hC.seta (i:=0) (ds:=[.slice K M.length L,.slice D J.length G,iv Q]) rfl type32 rfl rfl rfl e6 rfl) ?_
 rintro w211 ⟨hC,hF⟩
 refine ln (hK210 _ _ ?_)
 obtain rfl:=os hb
 subst hI
 refine Wc.ret (hKR _ _ ?_)
 refine ⟨_,res1 results57 ⟨_,e6,qai (hC.bx (i:=0) rfl) isAgg32 sizeOf32⟩,_,rfl,K,M.length,L,D,J.length,G,rfl,b4,hC.sE [2,3,4,5,6]⟩
