import Derived.Test.YtlkmcbgkohpmiaaS
import Derived.Test.YtlkmcbgkohpmiaaG8
import Derived.Test.YtlkmcbgkohpmiaaG11
import Derived.Test.YtlkmcbgkohpmiaaG12
set_option linter.all false
namespace Go.Proofs.Ytlkmcbgkohpmiaa
open Ev Try
set_option maxRecDepth 100000
set_option maxHeartbeats 4000000
theorem homs_find_homs_Count_c1_ok (n:Nat) {w:World} {O0:List Nat} (hO: ∀k∈O0,k<w.heap.size) {c:Int} (S:I64 c) {p:Option Addr} {U u:Nat} {m:List Int} (V:Rep O0 w (.sl si) [.slice p U u] m) {x:Option Addr} {X y:Nat} {o:List (List Int)} (Y:Rep O0 w (.sl (.sl si)) [.slice x X y] o) {l:Int} (T:I64 l) {D:Option Addr} {Q G:Nat} {A:List Int} (R:Rep O0 w (.sl si) [.slice D Q G] A) {d:Nat} {f:Int} (z:I64 f) (hio:Tk O0 w [.box d 3 [iv f]]) {r:Int×Int} (hb:F.qbp n c m o l A f=some r):
    Calls prog 54 #[.agg #[iv c,.slice p U u,.slice x X y],iv l,.slice D Q G,.func (.func 55) #[] #[pg d]] w fun e w'=> ∃v,e=.returned v∧v=iv r.1∧I64 r.1∧I64 r.2∧Cx (fun k=>k∈blocks [.box d 3 [iv f]]) O0 w w' [.box d 3 [iv r.2]]:=by
 unfold F.qbp at hb
 have hC:=Cx.startTk hO hio
 have hsub:=hio.2.2
 replace hC:=hC.argTk (by first | exact hsub | exact fun k hk=>hsub k (by simpa [blocks,Fact.blk] using hk)) V
 replace hC:=hC.argTk (by first | exact hsub | exact fun k hk=>hsub k (by simpa [blocks,Fact.blk] using hk)) Y
 replace hC:=hC.argTk (by first | exact hsub | exact fun k hk=>hsub k (by simpa [blocks,Fact.blk] using hk)) R
 clear hO
 obtain ⟨rfl,a5,a6⟩:=V.qaf
 obtain ⟨rfl,a7,a8⟩:=Y.qaf
 obtain ⟨rfl,Z,a0⟩:=R.qaf
 clear hio hsub
 obtain ⟨I,hI,hC⟩: ∃I:Nat→Prop,I=(fun k=>k∈blocks [.box d 3 [iv f]])∧Cx I O0 w w ([.ro (.sl si) [.slice D A.length G] A,.ro (.sl (.sl si)) [.slice x o.length y] o,.ro (.sl si) [.slice p m.length u] m,.box d 3 [iv f]]):=⟨_,rfl,hC⟩
 refine qao func54 rfl (by rw [ntmps54]; exact nb rfl) fun KR hKR=>?_
 refine Wc.seq fun _ hK5=>rg<|lex.op (hC.box (cs:=[iv c,.slice p m.length u,.slice x o.length y]) rfl rfl) ?_
 rintro _ w7 ⟨g6,rfl,hC,hF,-⟩
 refine lex.op (hC.box (cs:=[.func (.func 55) #[] #[pg d]]) rfl rfl) ?_
 rintro _ w10 ⟨g9,rfl,hC,hF,-⟩
 refine lp (iv 0) (qab rfl)<|ln (hK5 _ _ ?_)
 refine Wc.seq fun _ hK12=>?_
 refine Wc.seq fun _ hK13=>rg<|lv (.agg #[iv c,.slice p m.length u,.slice x o.length y]) (qbm (hC.bx (i:=1) rfl) isAgg48 sizeOf48 rfl) ?_
 obtain ⟨y14,h15,hb⟩:=bd hb
 refine lex.cl (⟨_,_,qas (vs:=[.agg #[iv c,.slice p m.length u,.slice x o.length y]]) call75 rfl rfl rfl,wirtinger_Valid_ok n hC.lt S (hC.rd (i:=4) rfl) (hC.rd (i:=3) rfl) h15⟩) ?_
 rintro _ w16 ⟨rfl,hK⟩
 replace hC:=hC.merge hK
 clear hK
 refine lp (.bool (!y14)) (qcd (q:=y14) rfl)<|ln (hK13 _ _ ?_)
 refine Wc.cond (t:=(!y14)) (rfl) (fun hq17=>?_) (fun hq17=>?_)
 replace hb:=tt hq17 hb
 refine Wc.seq fun _ hK18=>rg<|lp (iv 1) (qab rfl)<|ln (hK18 _ _ ?_)
 obtain rfl:=os hb
 subst hI
 refine Wc.ret (hKR _ _ ?_)
 refine ⟨_,res1 results54 (tV (iv 1) rfl),_,rfl,rfl,(show I64 1 from by unfold I64; omega),z,hC.sE [5]⟩
 replace hb:=tf hq17 hb
 refine Wc.skip (hK12 _ _ ?_)
 refine Wc.seq fun _ hK19=>?_
 refine Wc.seq fun _ hK20=>rg<|lp (iv l) (qaa rfl)<|lp (.bool (decide (l<1))) (qau (k:=.i64) (a:=l) (b:=1) rfl rfl)<|lp (.bool (decide (l<1))) (qaa rfl) ?_
 rcases bS (decide (l<1)) with hq21 | hq21
 replace hb:=tt hq21 hb
 refine gs rfl rfl (decide (l<1)) rfl hq21<|gs rfl rfl (decide (l<1)) rfl hq21<|lp (.bool true) (qap (q:=(decide (l<1))) rfl hq21 rfl)<|ln (hK20 _ _ ?_)
 refine Wc.cond_true (rfl) ?_
 refine Wc.seq fun _ hK22=>rg<|lp (iv 2) (qab rfl)<|ln (hK22 _ _ ?_)
 obtain rfl:=os hb
 subst hI
 refine Wc.ret (hKR _ _ ?_)
 refine ⟨_,res1 results54 (tV (iv 2) rfl),_,rfl,rfl,(show I64 2 from by unfold I64; omega),z,hC.sE [5]⟩
 replace hb:=tf hq21 hb
 refine gp rfl rfl (decide (l<1)) rfl hq21 (iv l) (qaa rfl)<|gp rfl rfl (decide (l<1)) rfl hq21 (.bool (decide (5<l))) (qbi (k:=.i64) (a:=l) (b:=5) rfl rfl)<|lp (.bool (decide (5<l))) (qat (q:=(decide (l<1))) rfl hq21 rfl)<|ln (hK20 _ _ ?_)
 refine Wc.cond (t:=(decide (5<l))) (rfl) (fun hq23=>?_) (fun hq23=>?_)
 replace hb:=tt hq23 hb
 refine Wc.seq fun _ hK24=>rg<|lp (iv 2) (qab rfl)<|ln (hK24 _ _ ?_)
 obtain rfl:=os hb
 subst hI
 refine Wc.ret (hKR _ _ ?_)
 refine ⟨_,res1 results54 (tV (iv 2) rfl),_,rfl,rfl,(show I64 2 from by unfold I64; omega),z,hC.sE [5]⟩
 replace hb:=tf hq23 hb
 refine Wc.skip (hK19 _ _ ?_)
 refine Wc.fresh fun E25 hE=>?_
 have e1:E25 1=iv l:=cg hE 1 rfl
 have e2:E25 2=.slice D A.length G:=cg hE 2 rfl
 have e4:E25 4=pg g6:=cg hE 4 rfl
 have e7:E25 7=pg g9:=cg hE 7 rfl
 have e8:E25 8=iv 0:=cg hE 8 rfl
 clear hE
 refine Wc.seq fun _ hK26=>rg<|lp _ (qaa e1)<|lp _ (qaa e2) ?_
 obtain ⟨y27,h28,hb⟩:=bd hb
 refine lex.cl (⟨_,_,qas (vs:=[iv l,.slice D A.length G]) call76 rfl rfl rfl,perm_Class_ok n hC.lt T (hC.rd (i:=2) rfl) h28⟩) ?_
 rintro _ w34 ⟨A29,m30,c31,rfl,hr33,hK⟩
 replace hC:=hC.merge hK
 clear hK
 obtain ⟨rfl,hl35,hc36⟩:=(hC.ow (i:=0) rfl).qaf
 refine lp (.tuple #[.slice A29 y27.1.length c31,iv y27.2]) (qaa rfl)<|lp (.slice A29 y27.1.length c31) (qaz rfl rfl)<|lp (iv y27.2) (qaz rfl rfl)<|lex.op (hC.alloc (cs:=[.slice none 0 0]) zeroValue77 rfl) ?_
 rintro _ w38 ⟨g37,rfl,hC,hF,-⟩
 refine lex.sk (hC.setf (i:=0) (k:=0) (v:=.slice A29 y27.1.length c31) rfl sizeOf77 rfl (by rw [Addr.add_zero']; exact rfl) rfl rfl) ?_
 rintro w40 ⟨hC,hF⟩
 refine lp (iv y27.2) (qab rfl)<|ln (hK26 _ _ ?_)
 refine Wc.seq fun _ hK41=>?_
 refine Wc.seq fun _ hK42=>rg<|lp (iv y27.2) (qaa rfl)<|lp (.bool (!(decide (y27.2=0)))) (qbv (k:=.i64) (a:=y27.2) (b:=0) rfl rfl)<|ln (hK42 _ _ ?_)
 refine Wc.cond (t:=(!(decide (y27.2=0)))) (rfl) (fun hq43=>?_) (fun hq43=>?_)
 replace hb:=tt hq43 hb
 refine Wc.seq fun _ hK44=>rg<|lp (iv 1) (qab rfl)<|ln (hK44 _ _ ?_)
 obtain rfl:=os hb
 subst hI
 refine Wc.ret (hKR _ _ ?_)
 refine ⟨_,res1 results54 (tV (iv 1) rfl),_,rfl,rfl,(show I64 1 from by unfold I64; omega),z,hC.sE [7]⟩
 replace hb:=tf hq43 hb
 refine Wc.skip (hK41 _ _ ?_)
 refine Wc.fresh fun E45 hE=>?_
 have e1:=cg hE 1 e1
 have e4:=cg hE 4 e4
 have e7:=cg hE 7 e7
 have e8:=cg hE 8 e8
 have e9:E45 9=pg g37:=cg hE 9 rfl
 clear hE
 refine Wc.seq fun _ hK46=>rg<|lv (.agg #[iv c,.slice p m.length u,.slice x o.length y]) (qbm (hC.bx (i:=3) rfl) isAgg48 sizeOf48 e4) ?_
 obtain ⟨y47,h48,hb⟩:=bd hb
 refine lex.cl (⟨_,_,qas (vs:=[.agg #[iv c,.slice p m.length u,.slice x o.length y]]) call77 rfl rfl rfl,homs_byGreatest_ok n hC.lt S (hC.rd (i:=6) rfl) (hC.rd (i:=5) rfl) h48⟩) ?_
 rintro _ w53 ⟨A49,m50,c51,rfl,hK⟩
 replace hC:=hC.merge hK
 clear hK
 obtain ⟨rfl,hl54,hc55⟩:=(hC.rd (i:=0) rfl).qaf
 refine lex.op (hC.alloc (cs:=[.slice none 0 0]) zeroValue118 rfl) ?_
 rintro _ w57 ⟨g56,rfl,hC,hF,-⟩
 refine lex.sk (hC.setf (i:=0) (k:=0) (v:=.slice A49 y47.length c51) rfl sizeOf118 rfl (by rw [Addr.add_zero']; exact rfl) rfl rfl) ?_
 rintro w59 ⟨hC,hF⟩
 refine ln (hK46 _ _ ?_)
 refine Wc.seq fun _ hK60=>rg<|lp _ (qaa e1) ?_
 obtain ⟨y61,h62,hb⟩:=bd hb
 refine lex.cl (⟨_,_,qas (vs:=[iv l]) call78 rfl rfl rfl,homs_identity_ok n hC.lt T h62⟩) ?_
 rintro _ w67 ⟨A63,m64,c65,rfl,hK⟩
 replace hC:=hC.merge hK
 clear hK
 obtain ⟨rfl,hl68,hc69⟩:=(hC.ow (i:=0) rfl).qaf
 refine lp _ (qaa e1) ?_
 obtain ⟨y70,h71,hb⟩:=bd hb
 refine lex.cl (⟨_,_,qas (vs:=[iv l]) call78 rfl rfl rfl,homs_identity_ok n hC.lt T h71⟩) ?_
 rintro _ w76 ⟨A72,m73,c74,rfl,hK⟩
 replace hC:=hC.merge hK
 clear hK
 obtain ⟨rfl,hl77,hc78⟩:=(hC.ow (i:=0) rfl).qaf
 refine lex.op (hC.alloc (cs:=[.slice none 0 0]) zeroValue52 rfl) ?_
 rintro _ w80 ⟨g79,rfl,hC,hF,-⟩
 refine lex.op (hC.alloc (cs:=[.slice none 0 0]) zeroValue52 rfl) ?_
 rintro _ w83 ⟨g82,rfl,hC,hF,-⟩
 refine lex.sk (hC.setf (i:=1) (k:=0) (v:=.slice A63 y61.length c65) rfl sizeOf52 rfl (by rw [Addr.add_zero']; exact rfl) rfl rfl) ?_
 rintro w85 ⟨hC,hF⟩
 refine lex.sk (hC.setf (i:=0) (k:=0) (v:=.slice A72 y70.length c74) rfl sizeOf52 rfl (by rw [Addr.add_zero']; exact rfl) rfl rfl) ?_
 rintro w86 ⟨hC,hF⟩
 refine ln (hK60 _ _ ?_)
 refine Wc.seqJ (fun E wv=> ∃(gP14:Nat) (gP15:Nat) (B:List (List Int)) (C:List (List Int)) (J:Option Addr) (N K:Nat) (L:Option Addr) (P M:Nat),E 4=pg g6∧E 7=pg g9∧E 8=iv 0∧E 9=pg g37∧E 11=pg g56∧E 12=pg g79∧E 13=pg g82∧E 14=pg gP14∧E 15=pg gP15∧Cx I O0 w wv [.box g6 48 [iv c,.slice p m.length u,.slice x o.length y],.ro (.sl si) [.slice p m.length u] m,.ro (.sl (.sl si)) [.slice x o.length y] o,.box g9 98 [.func (.func 55) #[] #[pg d]],.box d 3 [iv f],.box g37 77 [.slice A29 y27.1.length c31],.own 52 (.sl si) (.slice A29 y27.1.length c31) y27.1,.box g56 118 [.slice A49 y47.length c51],.ro (.sl (.sl (.sl si))) [.slice A49 y47.length c51] y47,.box g79 52 [.slice A63 y61.length c65],.own 3 si (.slice A63 y61.length c65) y61,.box g82 52 [.slice A72 y70.length c74],.own 3 si (.slice A72 y70.length c74) y70,.box gP14 77 [.slice J N K],.own 52 (.sl si) (.slice J N K) B,.box gP15 77 [.slice L P M],.own 52 (.sl si) (.slice L P M) C]∧F.qcw n c m o f y27 y47 y61 y70 B C=some r) (fun _ hK87=>?_) ?_
 refine Wc.regionPlan [42,45] (frm [42,45] ([]:List Fact) ([]:List Fact)) (chainP [0,1,3,4] (.alt (chainP [2] (.alt (chainP [5] (.alt (chainP [6] (chainP [7,8,9] .done)) (chainP [7] (chainP [6,8,9] .done)))) (.alt (chainP [6] (.alt (chainP [5] (chainP [7,8,9] .done)) (chainP [7] (.alt (chainP [5] (chainP [8,9] .done)) (chainP [8] (chainP [5,9] .done)))))) (chainP [7] (.alt (chainP [5] (chainP [6,8,9] .done)) (chainP [6] (.alt (chainP [5] (chainP [8,9] .done)) (chainP [8] (chainP [5,9] .done))))))))) (.alt (chainP [5] (.alt (chainP [2] (.alt (chainP [6] (chainP [7,8,9] .done)) (chainP [7] (chainP [6,8,9] .done)))) (.alt (chainP [6] (.alt (chainP [2] (chainP [7,8,9] .done)) (chainP [7] (chainP [2,8,9] .done)))) (chainP [7] (.alt (chainP [2] (chainP [6,8,9] .done)) (chainP [6] (chainP [2,8,9] .done))))))) (.alt (chainP [6] (.alt (chainP [2] (.alt (chainP [5] (chainP [7,8,9] .done)) (chainP [7] (.alt (chainP [5] (chainP [8,9] .done)) (chainP [8] (chainP [5,9] .done)))))) (.alt (chainP [5] (.alt (chainP [2] (chainP [7,8,9] .done)) (chainP [7] (chainP [2,8,9] .done)))) (chainP [7] (.alt (chainP [2] (.alt (chainP [5] (chainP [8,9] .done)) (chainP [8] (chainP [5,9] .done)))) (chainP [5] (chainP [2,8,9] .done))))))) (chainP [7] (.alt (chainP [2] (.alt (chainP [5] (chainP [6,8,9] .done)) (chainP [6] (.alt (chainP [5] (chainP [8,9] .done)) (chainP [8] (chainP [5,9] .done)))))) (.alt (chainP [5] (.alt (chainP [2] (chainP [6,8,9] .done)) (chainP [6] (chainP [2,8,9] .done)))) (chainP [6] (.alt (chainP [2] (.alt (chainP [5] (chainP [8,9] .done)) (chainP [8] (chainP [5,9] .done)))) (chainP [5] (chainP [2,8,9] .done))))))))))) (fun _=>rfl) mixed (by decide+kernel) (by decide+kernel) fun w89 hw88=>?_
 replace hC:=hC.step (Fr.qbh hw88)
 have hM:=Fr.refl (fun k=>k∈blocks ([]:List Fact)) w89
 clear hw88
 have hS:=hC
 have hD:Fr (fun k=>k∈blocks (([]:List Fact)++([]:List Fact))) w89 w89:=hM.wide
 refine qad ?_
 refine mp (.pointer (some ((⟨g6,0,none⟩:Addr).add 0))) (qal (sz:=1) underlying48 rfl sizeOf3 (by decide) rfl e4)<|mixE.steady hD (v:=iv c) (fun _ hF=>qar (hS.bx2 (i:=9) rfl [] (by decide) hF) isAgg3 rfl rfl)<|mp (.pointer (some ((⟨g6,0,none⟩:Addr).add 0))) (qal (sz:=1) underlying48 rfl sizeOf3 (by decide) rfl e4)<|mixE.steady hD (v:=iv c) (fun _ hF=>qar (hS.bx2 (i:=9) rfl [] (by decide) hF) isAgg3 rfl rfl)<|mixE.nil ?_
 refine qaq ?_ ?_
 refine qad ?_
 obtain ⟨u90,h91,hb⟩:=bd hb
 refine mixE.op hM (hC.make (s:=(.sl si)) (n:=c) underlying77 type52 rfl rfl rfl rfl rfl (qae h91).1 (qae h91).2 (by decide)) ?_
 rintro _ w96 ⟨A92,c93,rfl,hl94,hc95,hC,hF,hN⟩
 have hBf97:=Beside.new hM hN
 have hUf97:=Beside.new (hM.wide (H:=([]:List Fact))) hN
 replace hM:=hM.none hF
 replace hD:=hM.wide (H:=([]:List Fact))
 refine ⟨hM,?_⟩
 clear hF hN
 refine mixE.nil ?_
 refine qaq ?_ ?_
 refine qad ?_
 obtain ⟨u98,h99,hb⟩:=bd hb
 refine mixE.op hM (hC.make (s:=(.sl si)) (n:=c) underlying77 type52 rfl rfl rfl rfl rfl (qae h99).1 (qae h99).2 (by decide)) ?_
 rintro _ w104 ⟨A100,c101,rfl,hl102,hc103,hC,hF,hN⟩
 have hBf105:=Beside.new hM hN
 have hUf105:=Beside.new (hM.wide (H:=([]:List Fact))) hN
 replace hM:=hM.none hF
 replace hD:=hM.wide (H:=([]:List Fact))
 refine ⟨hM,?_⟩
 clear hF hN
 refine mixE.nil ?_
 refine qaq ?_ ?_
 refine qad ?_
 refine mixE.op hM (hC.alloc (cs:=[.slice none 0 0]) zeroValue77 rfl) ?_
 rintro _ w107 ⟨g106,rfl,hC,hF,hG⟩
 have hUf108:g106<w89.heap.size→g106∈blocks (([]:List Fact)++([]:List Fact)):=fun h=>absurd (Nat.lt_of_lt_of_le h (Nat.le_trans hM.size hG)) (Nat.lt_irrefl _)
 have hVf108:g106<w89.heap.size→g106∈blocks ([]:List Fact):=fun h=>absurd (Nat.lt_of_lt_of_le h (Nat.le_trans hM.size hG)) (Nat.lt_irrefl _)
 clear hG
 replace hM:=hM.none hF
 replace hD:=hM.wide (H:=([]:List Fact))
 refine ⟨hM,?_⟩
 refine mixE.nil ?_
 refine qad ?_
 refine mixE.op hM (hC.alloc (cs:=[.slice none 0 0]) zeroValue77 rfl) ?_
 rintro _ w110 ⟨g109,rfl,hC,hF,hG⟩
 have hUf111:g109<w89.heap.size→g109∈blocks (([]:List Fact)++([]:List Fact)):=fun h=>absurd (Nat.lt_of_lt_of_le h (Nat.le_trans hM.size hG)) (Nat.lt_irrefl _)
 have hVf111:g109<w89.heap.size→g109∈blocks ([]:List Fact):=fun h=>absurd (Nat.lt_of_lt_of_le h (Nat.le_trans hM.size hG)) (Nat.lt_irrefl _)
 clear hG
 replace hM:=hM.none hF
 replace hD:=hM.wide (H:=([]:List Fact))
 refine ⟨hM,?_⟩
 refine mixE.sk hD (hC.setf (i:=1) (k:=0) (v:=.slice A92 (((List.replicate c.toNat ([]:List Int))).length) c93) rfl sizeOf77 rfl (by rw [Addr.add_zero']; exact rfl) rfl rfl) ?_
 rintro w112 ⟨hC,hF⟩
 replace hD:=hD.besideG hUf108 hF
 replace hM:=hM.besideG hVf108 hF
 clear hF
 refine ⟨hD,?_⟩
 refine mixE.sk hD (hC.setf (i:=0) (k:=0) (v:=.slice A100 (((List.replicate c.toNat ([]:List Int))).length) c101) rfl sizeOf77 rfl (by rw [Addr.add_zero']; exact rfl) rfl rfl) ?_
 rintro w113 ⟨hC,hF⟩
 replace hD:=hD.besideG hUf111 hF
 replace hM:=hM.besideG hVf111 hF
 clear hF
 refine ⟨hD,?_⟩
 refine mixE.nil ?_
 clear hS hM
 clear hD
 exact hK87 _ _ ⟨g106,g109,(List.replicate c.toNat ([]:List Int)),(List.replicate c.toNat ([]:List Int)),A92,((List.replicate c.toNat ([]:List Int))).length,c93,A100,((List.replicate c.toNat ([]:List Int))).length,c101,e4,e7,e8,e9,rfl,rfl,rfl,rfl,rfl,hC.sE [13,16,15,12,17,10,11,8,9,5,7,4,6,1,3,0,2],hb⟩
 refine qad ?_
 refine mixE.op hM (hC.alloc (cs:=[.slice none 0 0]) zeroValue77 rfl) ?_
 rintro _ w115 ⟨g114,rfl,hC,hF,hG⟩
 have hUf116:g114<w89.heap.size→g114∈blocks (([]:List Fact)++([]:List Fact)):=fun h=>absurd (Nat.lt_of_lt_of_le h (Nat.le_trans hM.size hG)) (Nat.lt_irrefl _)
 have hVf116:g114<w89.heap.size→g114∈blocks ([]:List Fact):=fun h=>absurd (Nat.lt_of_lt_of_le h (Nat.le_trans hM.size hG)) (Nat.lt_irrefl _)
 clear hG
 replace hM:=hM.none hF
 replace hD:=hM.wide (H:=([]:List Fact))
 refine ⟨hM,?_⟩
 refine mixE.nil ?_
 refine qad ?_
 refine mixE.op hM (hC.alloc (cs:=[.slice none 0 0]) zeroValue77 rfl) ?_
 rintro _ w118 ⟨g117,rfl,hC,hF,hG⟩
 have hUf119:g117<w89.heap.size→g117∈blocks (([]:List Fact)++([]:List Fact)):=fun h=>absurd (Nat.lt_of_lt_of_le h (Nat.le_trans hM.size hG)) (Nat.lt_irrefl _)
 have hVf119:g117<w89.heap.size→g117∈blocks ([]:List Fact):=fun h=>absurd (Nat.lt_of_lt_of_le h (Nat.le_trans hM.size hG)) (Nat.lt_irrefl _)
 clear hG
 replace hM:=hM.none hF
 replace hD:=hM.wide (H:=([]:List Fact))
 refine ⟨hM,?_⟩
 refine mixE.sk hD (hC.setf (i:=0) (k:=0) (v:=.slice A92 (((List.replicate c.toNat ([]:List Int))).length) c93) rfl sizeOf77 rfl (by rw [Addr.add_zero']; exact rfl) rfl rfl) ?_
 rintro w120 ⟨hC,hF⟩
 replace hD:=hD.besideG hUf119 hF
 replace hM:=hM.besideG hVf119 hF
 clear hF
 refine ⟨hD,?_⟩
 refine mixE.sk hD (hC.setf (i:=1) (k:=0) (v:=.slice A100 (((List.replicate c.toNat ([]:List Int))).length) c101) rfl sizeOf77 rfl (by rw [Addr.add_zero']; exact rfl) rfl rfl) ?_
 rintro w121 ⟨hC,hF⟩
 replace hD:=hD.besideG hUf116 hF
 replace hM:=hM.besideG hVf116 hF
 clear hF
 refine ⟨hD,?_⟩
 refine mixE.nil ?_
 clear hS hM
 clear hD
 exact hK87 _ _ ⟨g117,g114,(List.replicate c.toNat ([]:List Int)),(List.replicate c.toNat ([]:List Int)),A92,((List.replicate c.toNat ([]:List Int))).length,c93,A100,((List.replicate c.toNat ([]:List Int))).length,c101,e4,e7,e8,e9,rfl,rfl,rfl,rfl,rfl,hC.sE [13,16,15,12,17,10,11,8,9,5,7,4,6,0,3,1,2],hb⟩
 refine qaq ?_ ?_
 refine qad ?_
 refine mixE.op hM (hC.alloc (cs:=[.slice none 0 0]) zeroValue77 rfl) ?_
 rintro _ w123 ⟨g122,rfl,hC,hF,hG⟩
 have hUf124:g122<w89.heap.size→g122∈blocks (([]:List Fact)++([]:List Fact)):=fun h=>absurd (Nat.lt_of_lt_of_le h (Nat.le_trans hM.size hG)) (Nat.lt_irrefl _)
 have hVf124:g122<w89.heap.size→g122∈blocks ([]:List Fact):=fun h=>absurd (Nat.lt_of_lt_of_le h (Nat.le_trans hM.size hG)) (Nat.lt_irrefl _)
 clear hG
 replace hM:=hM.none hF
 replace hD:=hM.wide (H:=([]:List Fact))
 refine ⟨hM,?_⟩
 refine mixE.nil ?_
 refine qaq ?_ ?_
 refine qad ?_
 obtain ⟨u98,h126,hb⟩:=bd hb
 refine mixE.op hM (hC.make (s:=(.sl si)) (n:=c) underlying77 type52 rfl rfl rfl rfl rfl (qae h126).1 (qae h126).2 (by decide)) ?_
 rintro _ w131 ⟨A127,c128,rfl,hl129,hc130,hC,hF,hN⟩
 have hBf132:=Beside.new hM hN
 have hUf132:=Beside.new (hM.wide (H:=([]:List Fact))) hN
 replace hM:=hM.none hF
 replace hD:=hM.wide (H:=([]:List Fact))
 refine ⟨hM,?_⟩
 clear hF hN
 refine mixE.nil ?_
 refine qad ?_
 refine mixE.op hM (hC.alloc (cs:=[.slice none 0 0]) zeroValue77 rfl) ?_
 rintro _ w134 ⟨g133,rfl,hC,hF,hG⟩
 have hUf135:g133<w89.heap.size→g133∈blocks (([]:List Fact)++([]:List Fact)):=fun h=>absurd (Nat.lt_of_lt_of_le h (Nat.le_trans hM.size hG)) (Nat.lt_irrefl _)
 have hVf135:g133<w89.heap.size→g133∈blocks ([]:List Fact):=fun h=>absurd (Nat.lt_of_lt_of_le h (Nat.le_trans hM.size hG)) (Nat.lt_irrefl _)
 clear hG
 replace hM:=hM.none hF
 replace hD:=hM.wide (H:=([]:List Fact))
 refine ⟨hM,?_⟩
 refine mixE.sk hD (hC.setf (i:=2) (k:=0) (v:=.slice A92 (((List.replicate c.toNat ([]:List Int))).length) c93) rfl sizeOf77 rfl (by rw [Addr.add_zero']; exact rfl) rfl rfl) ?_
 rintro w136 ⟨hC,hF⟩
 replace hD:=hD.besideG hUf124 hF
 replace hM:=hM.besideG hVf124 hF
 clear hF
 refine ⟨hD,?_⟩
 refine mixE.sk hD (hC.setf (i:=0) (k:=0) (v:=.slice A127 (((List.replicate c.toNat ([]:List Int))).length) c128) rfl sizeOf77 rfl (by rw [Addr.add_zero']; exact rfl) rfl rfl) ?_
 rintro w137 ⟨hC,hF⟩
 replace hD:=hD.besideG hUf135 hF
 replace hM:=hM.besideG hVf135 hF
 clear hF
 refine ⟨hD,?_⟩
 refine mixE.nil ?_
 clear hS hM
 clear hD
 exact hK87 _ _ ⟨g122,g133,(List.replicate c.toNat ([]:List Int)),(List.replicate c.toNat ([]:List Int)),A92,((List.replicate c.toNat ([]:List Int))).length,c93,A127,((List.replicate c.toNat ([]:List Int))).length,c128,e4,e7,e8,e9,rfl,rfl,rfl,rfl,rfl,hC.sE [13,16,15,12,17,10,11,8,9,5,7,4,6,2,3,0,1],hb⟩
 refine qad ?_
 refine mixE.op hM (hC.alloc (cs:=[.slice none 0 0]) zeroValue77 rfl) ?_
 rintro _ w139 ⟨g138,rfl,hC,hF,hG⟩
 have hUf140:g138<w89.heap.size→g138∈blocks (([]:List Fact)++([]:List Fact)):=fun h=>absurd (Nat.lt_of_lt_of_le h (Nat.le_trans hM.size hG)) (Nat.lt_irrefl _)
 have hVf140:g138<w89.heap.size→g138∈blocks ([]:List Fact):=fun h=>absurd (Nat.lt_of_lt_of_le h (Nat.le_trans hM.size hG)) (Nat.lt_irrefl _)
 clear hG
 replace hM:=hM.none hF
 replace hD:=hM.wide (H:=([]:List Fact))
 refine ⟨hM,?_⟩
 refine mixE.nil ?_
 refine qaq ?_ ?_
 refine qad ?_
 obtain ⟨u98,h142,hb⟩:=bd hb
 refine mixE.op hM (hC.make (s:=(.sl si)) (n:=c) underlying77 type52 rfl rfl rfl rfl rfl (qae h142).1 (qae h142).2 (by decide)) ?_
 rintro _ w147 ⟨A143,c144,rfl,hl145,hc146,hC,hF,hN⟩
 have hBf148:=Beside.new hM hN
 have hUf148:=Beside.new (hM.wide (H:=([]:List Fact))) hN
 replace hM:=hM.none hF
 replace hD:=hM.wide (H:=([]:List Fact))
 refine ⟨hM,?_⟩
 clear hF hN
 refine mixE.nil ?_
 refine qad ?_
 refine mixE.sk hD (hC.setf (i:=2) (k:=0) (v:=.slice A92 (((List.replicate c.toNat ([]:List Int))).length) c93) rfl sizeOf77 rfl (by rw [Addr.add_zero']; exact rfl) rfl rfl) ?_
 rintro w149 ⟨hC,hF⟩
 replace hD:=hD.besideG hUf124 hF
 replace hM:=hM.besideG hVf124 hF
 clear hF
 refine ⟨hD,?_⟩
 refine mixE.sk hD (hC.setf (i:=1) (k:=0) (v:=.slice A143 (((List.replicate c.toNat ([]:List Int))).length) c144) rfl sizeOf77 rfl (by rw [Addr.add_zero']; exact rfl) rfl rfl) ?_
 rintro w150 ⟨hC,hF⟩
 replace hD:=hD.besideG hUf140 hF
 replace hM:=hM.besideG hVf140 hF
 clear hF
 refine ⟨hD,?_⟩
 refine mixE.nil ?_
 clear hS hM
 clear hD
 exact hK87 _ _ ⟨g122,g138,(List.replicate c.toNat ([]:List Int)),(List.replicate c.toNat ([]:List Int)),A92,((List.replicate c.toNat ([]:List Int))).length,c93,A143,((List.replicate c.toNat ([]:List Int))).length,c144,e4,e7,e8,e9,rfl,rfl,rfl,rfl,rfl,hC.sE [13,16,15,12,17,10,11,8,9,5,7,4,6,2,3,1,0],hb⟩
 refine qad ?_
 refine mixE.sk hD (hC.setf (i:=1) (k:=0) (v:=.slice A92 (((List.replicate c.toNat ([]:List Int))).length) c93) rfl sizeOf77 rfl (by rw [Addr.add_zero']; exact rfl) rfl rfl) ?_
 rintro w151 ⟨hC,hF⟩
 replace hD:=hD.besideG hUf124 hF
 replace hM:=hM.besideG hVf124 hF
 clear hF
 refine ⟨hD,?_⟩
 refine mixE.nil ?_
 refine qad ?_
 obtain ⟨u98,h153,hb⟩:=bd hb
 refine mixE.op hM (hC.make (s:=(.sl si)) (n:=c) underlying77 type52 rfl rfl rfl rfl rfl (qae h153).1 (qae h153).2 (by decide)) ?_
 rintro _ w158 ⟨A154,c155,rfl,hl156,hc157,hC,hF,hN⟩
 have hBf159:=Beside.new hM hN
 have hUf159:=Beside.new (hM.wide (H:=([]:List Fact))) hN
 replace hM:=hM.none hF
 replace hD:=hM.wide (H:=([]:List Fact))
 refine ⟨hM,?_⟩
 clear hF hN
 refine mixE.sk hD (hC.setf (i:=1) (k:=0) (v:=.slice A154 (((List.replicate c.toNat ([]:List Int))).length) c155) rfl sizeOf77 rfl (by rw [Addr.add_zero']; exact rfl) rfl rfl) ?_
 rintro w160 ⟨hC,hF⟩
 replace hD:=hD.besideG hUf140 hF
 replace hM:=hM.besideG hVf140 hF
 clear hF
 refine ⟨hD,?_⟩
 refine mixE.nil ?_
 clear hS hM
 clear hD
 exact hK87 _ _ ⟨g122,g138,(List.replicate c.toNat ([]:List Int)),(List.replicate c.toNat ([]:List Int)),A92,((List.replicate c.toNat ([]:List Int))).length,c93,A154,((List.replicate c.toNat ([]:List Int))).length,c155,e4,e7,e8,e9,rfl,rfl,rfl,rfl,rfl,hC.sE [13,16,15,12,17,10,11,8,9,5,7,4,6,2,3,1,0],hb⟩
 refine qad ?_
 refine mixE.op hM (hC.alloc (cs:=[.slice none 0 0]) zeroValue77 rfl) ?_
 rintro _ w162 ⟨g161,rfl,hC,hF,hG⟩
 have hUf163:g161<w89.heap.size→g161∈blocks (([]:List Fact)++([]:List Fact)):=fun h=>absurd (Nat.lt_of_lt_of_le h (Nat.le_trans hM.size hG)) (Nat.lt_irrefl _)
 have hVf163:g161<w89.heap.size→g161∈blocks ([]:List Fact):=fun h=>absurd (Nat.lt_of_lt_of_le h (Nat.le_trans hM.size hG)) (Nat.lt_irrefl _)
 clear hG
 replace hM:=hM.none hF
 replace hD:=hM.wide (H:=([]:List Fact))
 refine ⟨hM,?_⟩
 refine mixE.nil ?_
 refine qaq ?_ ?_
 refine qad ?_
 obtain ⟨u98,h165,hb⟩:=bd hb
 refine mixE.op hM (hC.make (s:=(.sl si)) (n:=c) underlying77 type52 rfl rfl rfl rfl rfl (qae h165).1 (qae h165).2 (by decide)) ?_
 rintro _ w170 ⟨A166,c167,rfl,hl168,hc169,hC,hF,hN⟩
 have hBf171:=Beside.new hM hN
 have hUf171:=Beside.new (hM.wide (H:=([]:List Fact))) hN
 replace hM:=hM.none hF
 replace hD:=hM.wide (H:=([]:List Fact))
 refine ⟨hM,?_⟩
 clear hF hN
 refine mixE.nil ?_
 refine qad ?_
 refine mixE.op hM (hC.alloc (cs:=[.slice none 0 0]) zeroValue77 rfl) ?_
 rintro _ w173 ⟨g172,rfl,hC,hF,hG⟩
 have hUf174:g172<w89.heap.size→g172∈blocks (([]:List Fact)++([]:List Fact)):=fun h=>absurd (Nat.lt_of_lt_of_le h (Nat.le_trans hM.size hG)) (Nat.lt_irrefl _)
 have hVf174:g172<w89.heap.size→g172∈blocks ([]:List Fact):=fun h=>absurd (Nat.lt_of_lt_of_le h (Nat.le_trans hM.size hG)) (Nat.lt_irrefl _)
 clear hG
 replace hM:=hM.none hF
 replace hD:=hM.wide (H:=([]:List Fact))
 refine ⟨hM,?_⟩
 refine mixE.sk hD (hC.setf (i:=0) (k:=0) (v:=.slice A92 (((List.replicate c.toNat ([]:List Int))).length) c93) rfl sizeOf77 rfl (by rw [Addr.add_zero']; exact rfl) rfl rfl) ?_
 rintro w175 ⟨hC,hF⟩
 replace hD:=hD.besideG hUf174 hF
 replace hM:=hM.besideG hVf174 hF
 clear hF
 refine ⟨hD,?_⟩
 refine mixE.sk hD (hC.setf (i:=2) (k:=0) (v:=.slice A166 (((List.replicate c.toNat ([]:List Int))).length) c167) rfl sizeOf77 rfl (by rw [Addr.add_zero']; exact rfl) rfl rfl) ?_
 rintro w176 ⟨hC,hF⟩
 replace hD:=hD.besideG hUf163 hF
 replace hM:=hM.besideG hVf163 hF
 clear hF
 refine ⟨hD,?_⟩
 refine mixE.nil ?_
 clear hS hM
 clear hD
 exact hK87 _ _ ⟨g172,g161,(List.replicate c.toNat ([]:List Int)),(List.replicate c.toNat ([]:List Int)),A92,((List.replicate c.toNat ([]:List Int))).length,c93,A166,((List.replicate c.toNat ([]:List Int))).length,c167,e4,e7,e8,e9,rfl,rfl,rfl,rfl,rfl,hC.sE [13,16,15,12,17,10,11,8,9,5,7,4,6,0,3,2,1],hb⟩
 refine qad ?_
 refine mixE.op hM (hC.alloc (cs:=[.slice none 0 0]) zeroValue77 rfl) ?_
 rintro _ w178 ⟨g177,rfl,hC,hF,hG⟩
 have hUf179:g177<w89.heap.size→g177∈blocks (([]:List Fact)++([]:List Fact)):=fun h=>absurd (Nat.lt_of_lt_of_le h (Nat.le_trans hM.size hG)) (Nat.lt_irrefl _)
 have hVf179:g177<w89.heap.size→g177∈blocks ([]:List Fact):=fun h=>absurd (Nat.lt_of_lt_of_le h (Nat.le_trans hM.size hG)) (Nat.lt_irrefl _)
 clear hG
 replace hM:=hM.none hF
 replace hD:=hM.wide (H:=([]:List Fact))
 refine ⟨hM,?_⟩
 refine mixE.nil ?_
 refine qaq ?_ ?_
 refine qad ?_
 obtain ⟨u98,h181,hb⟩:=bd hb
 refine mixE.op hM (hC.make (s:=(.sl si)) (n:=c) underlying77 type52 rfl rfl rfl rfl rfl (qae h181).1 (qae h181).2 (by decide)) ?_
 rintro _ w186 ⟨A182,c183,rfl,hl184,hc185,hC,hF,hN⟩
 have hBf187:=Beside.new hM hN
 have hUf187:=Beside.new (hM.wide (H:=([]:List Fact))) hN
 replace hM:=hM.none hF
 replace hD:=hM.wide (H:=([]:List Fact))
 refine ⟨hM,?_⟩
 clear hF hN
 refine mixE.nil ?_
 refine qad ?_
 refine mixE.sk hD (hC.setf (i:=1) (k:=0) (v:=.slice A92 (((List.replicate c.toNat ([]:List Int))).length) c93) rfl sizeOf77 rfl (by rw [Addr.add_zero']; exact rfl) rfl rfl) ?_
 rintro w188 ⟨hC,hF⟩
 replace hD:=hD.besideG hUf179 hF
 replace hM:=hM.besideG hVf179 hF
 clear hF
 refine ⟨hD,?_⟩
 refine mixE.sk hD (hC.setf (i:=2) (k:=0) (v:=.slice A182 (((List.replicate c.toNat ([]:List Int))).length) c183) rfl sizeOf77 rfl (by rw [Addr.add_zero']; exact rfl) rfl rfl) ?_
 rintro w189 ⟨hC,hF⟩
 replace hD:=hD.besideG hUf163 hF
 replace hM:=hM.besideG hVf163 hF
 clear hF
 refine ⟨hD,?_⟩
 refine mixE.nil ?_
 clear hS hM
 clear hD
 exact hK87 _ _ ⟨g177,g161,(List.replicate c.toNat ([]:List Int)),(List.replicate c.toNat ([]:List Int)),A92,((List.replicate c.toNat ([]:List Int))).length,c93,A182,((List.replicate c.toNat ([]:List Int))).length,c183,e4,e7,e8,e9,rfl,rfl,rfl,rfl,rfl,hC.sE [13,16,15,12,17,10,11,8,9,5,7,4,6,1,3,2,0],hb⟩
 refine qad ?_
 refine mixE.sk hD (hC.setf (i:=0) (k:=0) (v:=.slice A92 (((List.replicate c.toNat ([]:List Int))).length) c93) rfl sizeOf77 rfl (by rw [Addr.add_zero']; exact rfl) rfl rfl) ?_
 rintro w190 ⟨hC,hF⟩
 replace hD:=hD.besideG hUf179 hF
 replace hM:=hM.besideG hVf179 hF
 clear hF
 refine ⟨hD,?_⟩
 refine mixE.nil ?_
 refine qad ?_
 obtain ⟨u98,h192,hb⟩:=bd hb
 refine mixE.op hM (hC.make (s:=(.sl si)) (n:=c) underlying77 type52 rfl rfl rfl rfl rfl (qae h192).1 (qae h192).2 (by decide)) ?_
 rintro _ w197 ⟨A193,c194,rfl,hl195,hc196,hC,hF,hN⟩
 have hBf198:=Beside.new hM hN
 have hUf198:=Beside.new (hM.wide (H:=([]:List Fact))) hN
 replace hM:=hM.none hF
 replace hD:=hM.wide (H:=([]:List Fact))
 refine ⟨hM,?_⟩
 clear hF hN
 refine mixE.sk hD (hC.setf (i:=2) (k:=0) (v:=.slice A193 (((List.replicate c.toNat ([]:List Int))).length) c194) rfl sizeOf77 rfl (by rw [Addr.add_zero']; exact rfl) rfl rfl) ?_
 rintro w199 ⟨hC,hF⟩
 replace hD:=hD.besideG hUf163 hF
 replace hM:=hM.besideG hVf163 hF
 clear hF
 refine ⟨hD,?_⟩
 refine mixE.nil ?_
 clear hS hM
 clear hD
 exact hK87 _ _ ⟨g177,g161,(List.replicate c.toNat ([]:List Int)),(List.replicate c.toNat ([]:List Int)),A92,((List.replicate c.toNat ([]:List Int))).length,c93,A193,((List.replicate c.toNat ([]:List Int))).length,c194,e4,e7,e8,e9,rfl,rfl,rfl,rfl,rfl,hC.sE [13,16,15,12,17,10,11,8,9,5,7,4,6,1,3,2,0],hb⟩
 refine qaq ?_ ?_
 refine qad ?_
 obtain ⟨u90,h201,hb⟩:=bd hb
 refine mixE.op hM (hC.make (s:=(.sl si)) (n:=c) underlying77 type52 rfl rfl rfl rfl rfl (qae h201).1 (qae h201).2 (by decide)) ?_
 rintro _ w206 ⟨A202,c203,rfl,hl204,hc205,hC,hF,hN⟩
 have hBf207:=Beside.new hM hN
 have hUf207:=Beside.new (hM.wide (H:=([]:List Fact))) hN
 replace hM:=hM.none hF
 replace hD:=hM.wide (H:=([]:List Fact))
 refine ⟨hM,?_⟩
 clear hF hN
 refine mixE.nil ?_
 refine qaq ?_ ?_
 refine qad ?_
 obtain ⟨u98,h209,hb⟩:=bd hb
 refine mixE.op hM (hC.make (s:=(.sl si)) (n:=c) underlying77 type52 rfl rfl rfl rfl rfl (qae h209).1 (qae h209).2 (by decide)) ?_
 rintro _ w214 ⟨A210,c211,rfl,hl212,hc213,hC,hF,hN⟩
 have hBf215:=Beside.new hM hN
 have hUf215:=Beside.new (hM.wide (H:=([]:List Fact))) hN
 replace hM:=hM.none hF
 replace hD:=hM.wide (H:=([]:List Fact))
 refine ⟨hM,?_⟩
 clear hF hN
 refine mixE.nil ?_
 refine qaq ?_ ?_
 refine qad ?_
 refine mixE.op hM (hC.alloc (cs:=[.slice none 0 0]) zeroValue77 rfl) ?_
 rintro _ w217 ⟨g216,rfl,hC,hF,hG⟩
 have hUf218:g216<w89.heap.size→g216∈blocks (([]:List Fact)++([]:List Fact)):=fun h=>absurd (Nat.lt_of_lt_of_le h (Nat.le_trans hM.size hG)) (Nat.lt_irrefl _)
 have hVf218:g216<w89.heap.size→g216∈blocks ([]:List Fact):=fun h=>absurd (Nat.lt_of_lt_of_le h (Nat.le_trans hM.size hG)) (Nat.lt_irrefl _)
 clear hG
 replace hM:=hM.none hF
 replace hD:=hM.wide (H:=([]:List Fact))
 refine ⟨hM,?_⟩
 refine mixE.nil ?_
 refine qad ?_
 refine mixE.op hM (hC.alloc (cs:=[.slice none 0 0]) zeroValue77 rfl) ?_
 rintro _ w220 ⟨g219,rfl,hC,hF,hG⟩
 have hUf221:g219<w89.heap.size→g219∈blocks (([]:List Fact)++([]:List Fact)):=fun h=>absurd (Nat.lt_of_lt_of_le h (Nat.le_trans hM.size hG)) (Nat.lt_irrefl _)
 have hVf221:g219<w89.heap.size→g219∈blocks ([]:List Fact):=fun h=>absurd (Nat.lt_of_lt_of_le h (Nat.le_trans hM.size hG)) (Nat.lt_irrefl _)
 clear hG
 replace hM:=hM.none hF
 replace hD:=hM.wide (H:=([]:List Fact))
 refine ⟨hM,?_⟩
 refine mixE.sk hD (hC.setf (i:=1) (k:=0) (v:=.slice A210 (((List.replicate c.toNat ([]:List Int))).length) c211) rfl sizeOf77 rfl (by rw [Addr.add_zero']; exact rfl) rfl rfl) ?_
 rintro w222 ⟨hC,hF⟩
 replace hD:=hD.besideG hUf218 hF
 replace hM:=hM.besideG hVf218 hF
 clear hF
 refine ⟨hD,?_⟩
 refine mixE.sk hD (hC.setf (i:=0) (k:=0) (v:=.slice A202 (((List.replicate c.toNat ([]:List Int))).length) c203) rfl sizeOf77 rfl (by rw [Addr.add_zero']; exact rfl) rfl rfl) ?_
 rintro w223 ⟨hC,hF⟩
 replace hD:=hD.besideG hUf221 hF
 replace hM:=hM.besideG hVf221 hF
 clear hF
 refine ⟨hD,?_⟩
 refine mixE.nil ?_
 clear hS hM
 clear hD
 exact hK87 _ _ ⟨g216,g219,(List.replicate c.toNat ([]:List Int)),(List.replicate c.toNat ([]:List Int)),A210,((List.replicate c.toNat ([]:List Int))).length,c211,A202,((List.replicate c.toNat ([]:List Int))).length,c203,e4,e7,e8,e9,rfl,rfl,rfl,rfl,rfl,hC.sE [13,16,15,12,17,10,11,8,9,5,7,4,6,1,2,0,3],hb⟩
 refine qad ?_
 refine mixE.op hM (hC.alloc (cs:=[.slice none 0 0]) zeroValue77 rfl) ?_
 rintro _ w225 ⟨g224,rfl,hC,hF,hG⟩
 have hUf226:g224<w89.heap.size→g224∈blocks (([]:List Fact)++([]:List Fact)):=fun h=>absurd (Nat.lt_of_lt_of_le h (Nat.le_trans hM.size hG)) (Nat.lt_irrefl _)
 have hVf226:g224<w89.heap.size→g224∈blocks ([]:List Fact):=fun h=>absurd (Nat.lt_of_lt_of_le h (Nat.le_trans hM.size hG)) (Nat.lt_irrefl _)
 clear hG
 replace hM:=hM.none hF
 replace hD:=hM.wide (H:=([]:List Fact))
 refine ⟨hM,?_⟩
 refine mixE.nil ?_
 refine qad ?_
 refine mixE.op hM (hC.alloc (cs:=[.slice none 0 0]) zeroValue77 rfl) ?_
 rintro _ w228 ⟨g227,rfl,hC,hF,hG⟩
 have hUf229:g227<w89.heap.size→g227∈blocks (([]:List Fact)++([]:List Fact)):=fun h=>absurd (Nat.lt_of_lt_of_le h (Nat.le_trans hM.size hG)) (Nat.lt_irrefl _)
 have hVf229:g227<w89.heap.size→g227∈blocks ([]:List Fact):=fun h=>absurd (Nat.lt_of_lt_of_le h (Nat.le_trans hM.size hG)) (Nat.lt_irrefl _)
 clear hG
 replace hM:=hM.none hF
 replace hD:=hM.wide (H:=([]:List Fact))
 refine ⟨hM,?_⟩
 refine mixE.sk hD (hC.setf (i:=0) (k:=0) (v:=.slice A210 (((List.replicate c.toNat ([]:List Int))).length) c211) rfl sizeOf77 rfl (by rw [Addr.add_zero']; exact rfl) rfl rfl) ?_
 rintro w230 ⟨hC,hF⟩
 replace hD:=hD.besideG hUf229 hF
 replace hM:=hM.besideG hVf229 hF
 clear hF
 refine ⟨hD,?_⟩
 refine mixE.sk hD (hC.setf (i:=1) (k:=0) (v:=.slice A202 (((List.replicate c.toNat ([]:List Int))).length) c203) rfl sizeOf77 rfl (by rw [Addr.add_zero']; exact rfl) rfl rfl) ?_
 rintro w231 ⟨hC,hF⟩
 replace hD:=hD.besideG hUf226 hF
 replace hM:=hM.besideG hVf226 hF
 clear hF
 refine ⟨hD,?_⟩
 refine mixE.nil ?_
 clear hS hM
 clear hD
 exact hK87 _ _ ⟨g227,g224,(List.replicate c.toNat ([]:List Int)),(List.replicate c.toNat ([]:List Int)),A210,((List.replicate c.toNat ([]:List Int))).length,c211,A202,((List.replicate c.toNat ([]:List Int))).length,c203,e4,e7,e8,e9,rfl,rfl,rfl,rfl,rfl,hC.sE [13,16,15,12,17,10,11,8,9,5,7,4,6,0,2,1,3],hb⟩
 refine qaq ?_ ?_
 refine qad ?_
 refine mixE.op hM (hC.alloc (cs:=[.slice none 0 0]) zeroValue77 rfl) ?_
 rintro _ w233 ⟨g232,rfl,hC,hF,hG⟩
 have hUf234:g232<w89.heap.size→g232∈blocks (([]:List Fact)++([]:List Fact)):=fun h=>absurd (Nat.lt_of_lt_of_le h (Nat.le_trans hM.size hG)) (Nat.lt_irrefl _)
 have hVf234:g232<w89.heap.size→g232∈blocks ([]:List Fact):=fun h=>absurd (Nat.lt_of_lt_of_le h (Nat.le_trans hM.size hG)) (Nat.lt_irrefl _)
 clear hG
 replace hM:=hM.none hF
 replace hD:=hM.wide (H:=([]:List Fact))
 refine ⟨hM,?_⟩
 refine mixE.nil ?_
 refine qaq ?_ ?_
 refine qad ?_
 obtain ⟨u98,h236,hb⟩:=bd hb
 refine mixE.op hM (hC.make (s:=(.sl si)) (n:=c) underlying77 type52 rfl rfl rfl rfl rfl (qae h236).1 (qae h236).2 (by decide)) ?_
 rintro _ w241 ⟨A237,c238,rfl,hl239,hc240,hC,hF,hN⟩
 have hBf242:=Beside.new hM hN
 have hUf242:=Beside.new (hM.wide (H:=([]:List Fact))) hN
 replace hM:=hM.none hF
 replace hD:=hM.wide (H:=([]:List Fact))
 refine ⟨hM,?_⟩
 clear hF hN
 refine mixE.nil ?_
 refine qad ?_
 refine mixE.op hM (hC.alloc (cs:=[.slice none 0 0]) zeroValue77 rfl) ?_
 rintro _ w244 ⟨g243,rfl,hC,hF,hG⟩
 have hUf245:g243<w89.heap.size→g243∈blocks (([]:List Fact)++([]:List Fact)):=fun h=>absurd (Nat.lt_of_lt_of_le h (Nat.le_trans hM.size hG)) (Nat.lt_irrefl _)
 have hVf245:g243<w89.heap.size→g243∈blocks ([]:List Fact):=fun h=>absurd (Nat.lt_of_lt_of_le h (Nat.le_trans hM.size hG)) (Nat.lt_irrefl _)
 clear hG
 replace hM:=hM.none hF
 replace hD:=hM.wide (H:=([]:List Fact))
 refine ⟨hM,?_⟩
 refine mixE.sk hD (hC.setf (i:=2) (k:=0) (v:=.slice A237 (((List.replicate c.toNat ([]:List Int))).length) c238) rfl sizeOf77 rfl (by rw [Addr.add_zero']; exact rfl) rfl rfl) ?_
 rintro w246 ⟨hC,hF⟩
 replace hD:=hD.besideG hUf234 hF
 replace hM:=hM.besideG hVf234 hF
 clear hF
 refine ⟨hD,?_⟩
 refine mixE.sk hD (hC.setf (i:=0) (k:=0) (v:=.slice A202 (((List.replicate c.toNat ([]:List Int))).length) c203) rfl sizeOf77 rfl (by rw [Addr.add_zero']; exact rfl) rfl rfl) ?_
 rintro w247 ⟨hC,hF⟩
 replace hD:=hD.besideG hUf245 hF
 replace hM:=hM.besideG hVf245 hF
 clear hF
 refine ⟨hD,?_⟩
 refine mixE.nil ?_
 clear hS hM
 clear hD
 exact hK87 _ _ ⟨g232,g243,(List.replicate c.toNat ([]:List Int)),(List.replicate c.toNat ([]:List Int)),A237,((List.replicate c.toNat ([]:List Int))).length,c238,A202,((List.replicate c.toNat ([]:List Int))).length,c203,e4,e7,e8,e9,rfl,rfl,rfl,rfl,rfl,hC.sE [13,16,15,12,17,10,11,8,9,5,7,4,6,2,1,0,3],hb⟩
 refine qad ?_
 refine mixE.op hM (hC.alloc (cs:=[.slice none 0 0]) zeroValue77 rfl) ?_
 rintro _ w249 ⟨g248,rfl,hC,hF,hG⟩
 have hUf250:g248<w89.heap.size→g248∈blocks (([]:List Fact)++([]:List Fact)):=fun h=>absurd (Nat.lt_of_lt_of_le h (Nat.le_trans hM.size hG)) (Nat.lt_irrefl _)
 have hVf250:g248<w89.heap.size→g248∈blocks ([]:List Fact):=fun h=>absurd (Nat.lt_of_lt_of_le h (Nat.le_trans hM.size hG)) (Nat.lt_irrefl _)
 clear hG
 replace hM:=hM.none hF
 replace hD:=hM.wide (H:=([]:List Fact))
 refine ⟨hM,?_⟩
 refine mixE.nil ?_
 refine qad ?_
 obtain ⟨u98,h252,hb⟩:=bd hb
 refine mixE.op hM (hC.make (s:=(.sl si)) (n:=c) underlying77 type52 rfl rfl rfl rfl rfl (qae h252).1 (qae h252).2 (by decide)) ?_
 rintro _ w257 ⟨A253,c254,rfl,hl255,hc256,hC,hF,hN⟩
 have hBf258:=Beside.new hM hN
 have hUf258:=Beside.new (hM.wide (H:=([]:List Fact))) hN
 replace hM:=hM.none hF
 replace hD:=hM.wide (H:=([]:List Fact))
 refine ⟨hM,?_⟩
 clear hF hN
 refine mixE.sk hD (hC.setf (i:=2) (k:=0) (v:=.slice A253 (((List.replicate c.toNat ([]:List Int))).length) c254) rfl sizeOf77 rfl (by rw [Addr.add_zero']; exact rfl) rfl rfl) ?_
 rintro w259 ⟨hC,hF⟩
 replace hD:=hD.besideG hUf234 hF
 replace hM:=hM.besideG hVf234 hF
 clear hF
 refine ⟨hD,?_⟩
 refine mixE.sk hD (hC.setf (i:=1) (k:=0) (v:=.slice A202 (((List.replicate c.toNat ([]:List Int))).length) c203) rfl sizeOf77 rfl (by rw [Addr.add_zero']; exact rfl) rfl rfl) ?_
 rintro w260 ⟨hC,hF⟩
 replace hD:=hD.besideG hUf250 hF
 replace hM:=hM.besideG hVf250 hF
 clear hF
 refine ⟨hD,?_⟩
 refine mixE.nil ?_
 clear hS hM
 clear hD
 exact hK87 _ _ ⟨g232,g248,(List.replicate c.toNat ([]:List Int)),(List.replicate c.toNat ([]:List Int)),A253,((List.replicate c.toNat ([]:List Int))).length,c254,A202,((List.replicate c.toNat ([]:List Int))).length,c203,e4,e7,e8,e9,rfl,rfl,rfl,rfl,rfl,hC.sE [13,16,15,12,17,10,11,8,9,5,7,4,6,2,0,1,3],hb⟩
 refine qad ?_
 refine mixE.op hM (hC.alloc (cs:=[.slice none 0 0]) zeroValue77 rfl) ?_
 rintro _ w262 ⟨g261,rfl,hC,hF,hG⟩
 have hUf263:g261<w89.heap.size→g261∈blocks (([]:List Fact)++([]:List Fact)):=fun h=>absurd (Nat.lt_of_lt_of_le h (Nat.le_trans hM.size hG)) (Nat.lt_irrefl _)
 have hVf263:g261<w89.heap.size→g261∈blocks ([]:List Fact):=fun h=>absurd (Nat.lt_of_lt_of_le h (Nat.le_trans hM.size hG)) (Nat.lt_irrefl _)
 clear hG
 replace hM:=hM.none hF
 replace hD:=hM.wide (H:=([]:List Fact))
 refine ⟨hM,?_⟩
 refine mixE.nil ?_
 refine qaq ?_ ?_
 refine qad ?_
 obtain ⟨u98,h265,hb⟩:=bd hb
 refine mixE.op hM (hC.make (s:=(.sl si)) (n:=c) underlying77 type52 rfl rfl rfl rfl rfl (qae h265).1 (qae h265).2 (by decide)) ?_
 rintro _ w270 ⟨A266,c267,rfl,hl268,hc269,hC,hF,hN⟩
 have hBf271:=Beside.new hM hN
 have hUf271:=Beside.new (hM.wide (H:=([]:List Fact))) hN
 replace hM:=hM.none hF
 replace hD:=hM.wide (H:=([]:List Fact))
 refine ⟨hM,?_⟩
 clear hF hN
 refine mixE.nil ?_
 refine qad ?_
 refine mixE.op hM (hC.alloc (cs:=[.slice none 0 0]) zeroValue77 rfl) ?_
 rintro _ w273 ⟨g272,rfl,hC,hF,hG⟩
 have hUf274:g272<w89.heap.size→g272∈blocks (([]:List Fact)++([]:List Fact)):=fun h=>absurd (Nat.lt_of_lt_of_le h (Nat.le_trans hM.size hG)) (Nat.lt_irrefl _)
 have hVf274:g272<w89.heap.size→g272∈blocks ([]:List Fact):=fun h=>absurd (Nat.lt_of_lt_of_le h (Nat.le_trans hM.size hG)) (Nat.lt_irrefl _)
 clear hG
 replace hM:=hM.none hF
 replace hD:=hM.wide (H:=([]:List Fact))
 refine ⟨hM,?_⟩
 refine mixE.sk hD (hC.setf (i:=0) (k:=0) (v:=.slice A266 (((List.replicate c.toNat ([]:List Int))).length) c267) rfl sizeOf77 rfl (by rw [Addr.add_zero']; exact rfl) rfl rfl) ?_
 rintro w275 ⟨hC,hF⟩
 replace hD:=hD.besideG hUf274 hF
 replace hM:=hM.besideG hVf274 hF
 clear hF
 refine ⟨hD,?_⟩
 refine mixE.sk hD (hC.setf (i:=2) (k:=0) (v:=.slice A202 (((List.replicate c.toNat ([]:List Int))).length) c203) rfl sizeOf77 rfl (by rw [Addr.add_zero']; exact rfl) rfl rfl) ?_
 rintro w276 ⟨hC,hF⟩
 replace hD:=hD.besideG hUf263 hF
 replace hM:=hM.besideG hVf263 hF
 clear hF
 refine ⟨hD,?_⟩
 refine mixE.nil ?_
 clear hS hM
 clear hD
 exact hK87 _ _ ⟨g272,g261,(List.replicate c.toNat ([]:List Int)),(List.replicate c.toNat ([]:List Int)),A266,((List.replicate c.toNat ([]:List Int))).length,c267,A202,((List.replicate c.toNat ([]:List Int))).length,c203,e4,e7,e8,e9,rfl,rfl,rfl,rfl,rfl,hC.sE [13,16,15,12,17,10,11,8,9,5,7,4,6,0,1,2,3],hb⟩
 refine qad ?_
 refine mixE.op hM (hC.alloc (cs:=[.slice none 0 0]) zeroValue77 rfl) ?_
 rintro _ w278 ⟨g277,rfl,hC,hF,hG⟩
 have hUf279:g277<w89.heap.size→g277∈blocks (([]:List Fact)++([]:List Fact)):=fun h=>absurd (Nat.lt_of_lt_of_le h (Nat.le_trans hM.size hG)) (Nat.lt_irrefl _)
 have hVf279:g277<w89.heap.size→g277∈blocks ([]:List Fact):=fun h=>absurd (Nat.lt_of_lt_of_le h (Nat.le_trans hM.size hG)) (Nat.lt_irrefl _)
 clear hG
 replace hM:=hM.none hF
 replace hD:=hM.wide (H:=([]:List Fact))
 refine ⟨hM,?_⟩
 refine mixE.nil ?_
 refine qad ?_
 obtain ⟨u98,h281,hb⟩:=bd hb
 refine mixE.op hM (hC.make (s:=(.sl si)) (n:=c) underlying77 type52 rfl rfl rfl rfl rfl (qae h281).1 (qae h281).2 (by decide)) ?_
 rintro _ w286 ⟨A282,c283,rfl,hl284,hc285,hC,hF,hN⟩
 have hBf287:=Beside.new hM hN
 have hUf287:=Beside.new (hM.wide (H:=([]:List Fact))) hN
 replace hM:=hM.none hF
 replace hD:=hM.wide (H:=([]:List Fact))
 refine ⟨hM,?_⟩
 clear hF hN
 refine mixE.sk hD (hC.setf (i:=1) (k:=0) (v:=.slice A282 (((List.replicate c.toNat ([]:List Int))).length) c283) rfl sizeOf77 rfl (by rw [Addr.add_zero']; exact rfl) rfl rfl) ?_
 rintro w288 ⟨hC,hF⟩
 replace hD:=hD.besideG hUf279 hF
 replace hM:=hM.besideG hVf279 hF
 clear hF
 refine ⟨hD,?_⟩
 refine mixE.sk hD (hC.setf (i:=2) (k:=0) (v:=.slice A202 (((List.replicate c.toNat ([]:List Int))).length) c203) rfl sizeOf77 rfl (by rw [Addr.add_zero']; exact rfl) rfl rfl) ?_
 rintro w289 ⟨hC,hF⟩
 replace hD:=hD.besideG hUf263 hF
 replace hM:=hM.besideG hVf263 hF
 clear hF
 refine ⟨hD,?_⟩
 refine mixE.nil ?_
 clear hS hM
 clear hD
 exact hK87 _ _ ⟨g277,g261,(List.replicate c.toNat ([]:List Int)),(List.replicate c.toNat ([]:List Int)),A282,((List.replicate c.toNat ([]:List Int))).length,c283,A202,((List.replicate c.toNat ([]:List Int))).length,c203,e4,e7,e8,e9,rfl,rfl,rfl,rfl,rfl,hC.sE [13,16,15,12,17,10,11,8,9,5,7,4,6,1,0,2,3],hb⟩
 refine qaq ?_ ?_
 refine qad ?_
 refine mixE.op hM (hC.alloc (cs:=[.slice none 0 0]) zeroValue77 rfl) ?_
 rintro _ w291 ⟨g290,rfl,hC,hF,hG⟩
 have hUf292:g290<w89.heap.size→g290∈blocks (([]:List Fact)++([]:List Fact)):=fun h=>absurd (Nat.lt_of_lt_of_le h (Nat.le_trans hM.size hG)) (Nat.lt_irrefl _)
 have hVf292:g290<w89.heap.size→g290∈blocks ([]:List Fact):=fun h=>absurd (Nat.lt_of_lt_of_le h (Nat.le_trans hM.size hG)) (Nat.lt_irrefl _)
 clear hG
 replace hM:=hM.none hF
 replace hD:=hM.wide (H:=([]:List Fact))
 refine ⟨hM,?_⟩
 refine mixE.nil ?_
 refine qaq ?_ ?_
 refine qad ?_
 obtain ⟨u90,h294,hb⟩:=bd hb
 refine mixE.op hM (hC.make (s:=(.sl si)) (n:=c) underlying77 type52 rfl rfl rfl rfl rfl (qae h294).1 (qae h294).2 (by decide)) ?_
 rintro _ w299 ⟨A295,c296,rfl,hl297,hc298,hC,hF,hN⟩
 have hBf300:=Beside.new hM hN
 have hUf300:=Beside.new (hM.wide (H:=([]:List Fact))) hN
 replace hM:=hM.none hF
 replace hD:=hM.wide (H:=([]:List Fact))
 refine ⟨hM,?_⟩
 clear hF hN
 refine mixE.nil ?_
 refine qaq ?_ ?_
 refine qad ?_
 obtain ⟨u98,h302,hb⟩:=bd hb
 refine mixE.op hM (hC.make (s:=(.sl si)) (n:=c) underlying77 type52 rfl rfl rfl rfl rfl (qae h302).1 (qae h302).2 (by decide)) ?_
 rintro _ w307 ⟨A303,c304,rfl,hl305,hc306,hC,hF,hN⟩
 have hBf308:=Beside.new hM hN
 have hUf308:=Beside.new (hM.wide (H:=([]:List Fact))) hN
 replace hM:=hM.none hF
 replace hD:=hM.wide (H:=([]:List Fact))
 refine ⟨hM,?_⟩
 clear hF hN
 refine mixE.nil ?_
 refine qad ?_
 refine mixE.op hM (hC.alloc (cs:=[.slice none 0 0]) zeroValue77 rfl) ?_
 rintro _ w310 ⟨g309,rfl,hC,hF,hG⟩
 have hUf311:g309<w89.heap.size→g309∈blocks (([]:List Fact)++([]:List Fact)):=fun h=>absurd (Nat.lt_of_lt_of_le h (Nat.le_trans hM.size hG)) (Nat.lt_irrefl _)
 have hVf311:g309<w89.heap.size→g309∈blocks ([]:List Fact):=fun h=>absurd (Nat.lt_of_lt_of_le h (Nat.le_trans hM.size hG)) (Nat.lt_irrefl _)
 clear hG
 replace hM:=hM.none hF
 replace hD:=hM.wide (H:=([]:List Fact))
 refine ⟨hM,?_⟩
 refine mixE.sk hD (hC.setf (i:=3) (k:=0) (v:=.slice A295 (((List.replicate c.toNat ([]:List Int))).length) c296) rfl sizeOf77 rfl (by rw [Addr.add_zero']; exact rfl) rfl rfl) ?_
 rintro w312 ⟨hC,hF⟩
 replace hD:=hD.besideG hUf292 hF
 replace hM:=hM.besideG hVf292 hF
 clear hF
 refine ⟨hD,?_⟩
 refine mixE.sk hD (hC.setf (i:=0) (k:=0) (v:=.slice A303 (((List.replicate c.toNat ([]:List Int))).length) c304) rfl sizeOf77 rfl (by rw [Addr.add_zero']; exact rfl) rfl rfl) ?_
 rintro w313 ⟨hC,hF⟩
 replace hD:=hD.besideG hUf311 hF
 replace hM:=hM.besideG hVf311 hF
 clear hF
 refine ⟨hD,?_⟩
 refine mixE.nil ?_
 clear hS hM
 clear hD
 exact hK87 _ _ ⟨g290,g309,(List.replicate c.toNat ([]:List Int)),(List.replicate c.toNat ([]:List Int)),A295,((List.replicate c.toNat ([]:List Int))).length,c296,A303,((List.replicate c.toNat ([]:List Int))).length,c304,e4,e7,e8,e9,rfl,rfl,rfl,rfl,rfl,hC.sE [13,16,15,12,17,10,11,8,9,5,7,4,6,3,2,0,1],hb⟩
 refine qad ?_
 refine mixE.op hM (hC.alloc (cs:=[.slice none 0 0]) zeroValue77 rfl) ?_
 rintro _ w315 ⟨g314,rfl,hC,hF,hG⟩
 have hUf316:g314<w89.heap.size→g314∈blocks (([]:List Fact)++([]:List Fact)):=fun h=>absurd (Nat.lt_of_lt_of_le h (Nat.le_trans hM.size hG)) (Nat.lt_irrefl _)
 have hVf316:g314<w89.heap.size→g314∈blocks ([]:List Fact):=fun h=>absurd (Nat.lt_of_lt_of_le h (Nat.le_trans hM.size hG)) (Nat.lt_irrefl _)
 clear hG
 replace hM:=hM.none hF
 replace hD:=hM.wide (H:=([]:List Fact))
 refine ⟨hM,?_⟩
 refine mixE.nil ?_
 refine qaq ?_ ?_
 refine qad ?_
 obtain ⟨u98,h318,hb⟩:=bd hb
 refine mixE.op hM (hC.make (s:=(.sl si)) (n:=c) underlying77 type52 rfl rfl rfl rfl rfl (qae h318).1 (qae h318).2 (by decide)) ?_
 rintro _ w323 ⟨A319,c320,rfl,hl321,hc322,hC,hF,hN⟩
 have hBf324:=Beside.new hM hN
 have hUf324:=Beside.new (hM.wide (H:=([]:List Fact))) hN
 replace hM:=hM.none hF
 replace hD:=hM.wide (H:=([]:List Fact))
 refine ⟨hM,?_⟩
 clear hF hN
 refine mixE.nil ?_
 refine qad ?_
 refine mixE.sk hD (hC.setf (i:=3) (k:=0) (v:=.slice A295 (((List.replicate c.toNat ([]:List Int))).length) c296) rfl sizeOf77 rfl (by rw [Addr.add_zero']; exact rfl) rfl rfl) ?_
 rintro w325 ⟨hC,hF⟩
 replace hD:=hD.besideG hUf292 hF
 replace hM:=hM.besideG hVf292 hF
 clear hF
 refine ⟨hD,?_⟩
 refine mixE.sk hD (hC.setf (i:=1) (k:=0) (v:=.slice A319 (((List.replicate c.toNat ([]:List Int))).length) c320) rfl sizeOf77 rfl (by rw [Addr.add_zero']; exact rfl) rfl rfl) ?_
 rintro w326 ⟨hC,hF⟩
 replace hD:=hD.besideG hUf316 hF
 replace hM:=hM.besideG hVf316 hF
 clear hF
 refine ⟨hD,?_⟩
 refine mixE.nil ?_
 clear hS hM
 clear hD
 exact hK87 _ _ ⟨g290,g314,(List.replicate c.toNat ([]:List Int)),(List.replicate c.toNat ([]:List Int)),A295,((List.replicate c.toNat ([]:List Int))).length,c296,A319,((List.replicate c.toNat ([]:List Int))).length,c320,e4,e7,e8,e9,rfl,rfl,rfl,rfl,rfl,hC.sE [13,16,15,12,17,10,11,8,9,5,7,4,6,3,2,1,0],hb⟩
 refine qad ?_
 refine mixE.sk hD (hC.setf (i:=2) (k:=0) (v:=.slice A295 (((List.replicate c.toNat ([]:List Int))).length) c296) rfl sizeOf77 rfl (by rw [Addr.add_zero']; exact rfl) rfl rfl) ?_
 rintro w327 ⟨hC,hF⟩
 replace hD:=hD.besideG hUf292 hF
 replace hM:=hM.besideG hVf292 hF
 clear hF
 refine ⟨hD,?_⟩
 refine mixE.nil ?_
 refine qad ?_
 obtain ⟨u98,h329,hb⟩:=bd hb
 refine mixE.op hM (hC.make (s:=(.sl si)) (n:=c) underlying77 type52 rfl rfl rfl rfl rfl (qae h329).1 (qae h329).2 (by decide)) ?_
 rintro _ w334 ⟨A330,c331,rfl,hl332,hc333,hC,hF,hN⟩
 have hBf335:=Beside.new hM hN
 have hUf335:=Beside.new (hM.wide (H:=([]:List Fact))) hN
 replace hM:=hM.none hF
 replace hD:=hM.wide (H:=([]:List Fact))
 refine ⟨hM,?_⟩
 clear hF hN
 refine mixE.sk hD (hC.setf (i:=1) (k:=0) (v:=.slice A330 (((List.replicate c.toNat ([]:List Int))).length) c331) rfl sizeOf77 rfl (by rw [Addr.add_zero']; exact rfl) rfl rfl) ?_
 rintro w336 ⟨hC,hF⟩
 replace hD:=hD.besideG hUf316 hF
 replace hM:=hM.besideG hVf316 hF
 clear hF
 refine ⟨hD,?_⟩
 refine mixE.nil ?_
 clear hS hM
 clear hD
 exact hK87 _ _ ⟨g290,g314,(List.replicate c.toNat ([]:List Int)),(List.replicate c.toNat ([]:List Int)),A295,((List.replicate c.toNat ([]:List Int))).length,c296,A330,((List.replicate c.toNat ([]:List Int))).length,c331,e4,e7,e8,e9,rfl,rfl,rfl,rfl,rfl,hC.sE [13,16,15,12,17,10,11,8,9,5,7,4,6,3,2,1,0],hb⟩
 refine qaq ?_ ?_
 refine qad ?_
 obtain ⟨u90,h338,hb⟩:=bd hb
 refine mixE.op hM (hC.make (s:=(.sl si)) (n:=c) underlying77 type52 rfl rfl rfl rfl rfl (qae h338).1 (qae h338).2 (by decide)) ?_
 rintro _ w343 ⟨A339,c340,rfl,hl341,hc342,hC,hF,hN⟩
 have hBf344:=Beside.new hM hN
 have hUf344:=Beside.new (hM.wide (H:=([]:List Fact))) hN
 replace hM:=hM.none hF
 replace hD:=hM.wide (H:=([]:List Fact))
 refine ⟨hM,?_⟩
 clear hF hN
 refine mixE.nil ?_
 refine qaq ?_ ?_
 refine qad ?_
 obtain ⟨u98,h346,hb⟩:=bd hb
 refine mixE.op hM (hC.make (s:=(.sl si)) (n:=c) underlying77 type52 rfl rfl rfl rfl rfl (qae h346).1 (qae h346).2 (by decide)) ?_
 rintro _ w351 ⟨A347,c348,rfl,hl349,hc350,hC,hF,hN⟩
 have hBf352:=Beside.new hM hN
 have hUf352:=Beside.new (hM.wide (H:=([]:List Fact))) hN
 replace hM:=hM.none hF
 replace hD:=hM.wide (H:=([]:List Fact))
 refine ⟨hM,?_⟩
 clear hF hN
 refine mixE.nil ?_
 refine qad ?_
 refine mixE.op hM (hC.alloc (cs:=[.slice none 0 0]) zeroValue77 rfl) ?_
 rintro _ w354 ⟨g353,rfl,hC,hF,hG⟩
 have hUf355:g353<w89.heap.size→g353∈blocks (([]:List Fact)++([]:List Fact)):=fun h=>absurd (Nat.lt_of_lt_of_le h (Nat.le_trans hM.size hG)) (Nat.lt_irrefl _)
 have hVf355:g353<w89.heap.size→g353∈blocks ([]:List Fact):=fun h=>absurd (Nat.lt_of_lt_of_le h (Nat.le_trans hM.size hG)) (Nat.lt_irrefl _)
 clear hG
 replace hM:=hM.none hF
 replace hD:=hM.wide (H:=([]:List Fact))
 refine ⟨hM,?_⟩
 refine mixE.sk hD (hC.setf (i:=3) (k:=0) (v:=.slice A347 (((List.replicate c.toNat ([]:List Int))).length) c348) rfl sizeOf77 rfl (by rw [Addr.add_zero']; exact rfl) rfl rfl) ?_
 rintro w356 ⟨hC,hF⟩
 replace hD:=hD.besideG hUf292 hF
 replace hM:=hM.besideG hVf292 hF
 clear hF
 refine ⟨hD,?_⟩
 refine mixE.sk hD (hC.setf (i:=0) (k:=0) (v:=.slice A339 (((List.replicate c.toNat ([]:List Int))).length) c340) rfl sizeOf77 rfl (by rw [Addr.add_zero']; exact rfl) rfl rfl) ?_
 rintro w357 ⟨hC,hF⟩
 replace hD:=hD.besideG hUf355 hF
 replace hM:=hM.besideG hVf355 hF
 clear hF
 refine ⟨hD,?_⟩
 refine mixE.nil ?_
 clear hS hM
 clear hD
 exact hK87 _ _ ⟨g290,g353,(List.replicate c.toNat ([]:List Int)),(List.replicate c.toNat ([]:List Int)),A347,((List.replicate c.toNat ([]:List Int))).length,c348,A339,((List.replicate c.toNat ([]:List Int))).length,c340,e4,e7,e8,e9,rfl,rfl,rfl,rfl,rfl,hC.sE [13,16,15,12,17,10,11,8,9,5,7,4,6,3,1,0,2],hb⟩
 refine qad ?_
 refine mixE.op hM (hC.alloc (cs:=[.slice none 0 0]) zeroValue77 rfl) ?_
 rintro _ w359 ⟨g358,rfl,hC,hF,hG⟩
 have hUf360:g358<w89.heap.size→g358∈blocks (([]:List Fact)++([]:List Fact)):=fun h=>absurd (Nat.lt_of_lt_of_le h (Nat.le_trans hM.size hG)) (Nat.lt_irrefl _)
 have hVf360:g358<w89.heap.size→g358∈blocks ([]:List Fact):=fun h=>absurd (Nat.lt_of_lt_of_le h (Nat.le_trans hM.size hG)) (Nat.lt_irrefl _)
 clear hG
 replace hM:=hM.none hF
 replace hD:=hM.wide (H:=([]:List Fact))
 refine ⟨hM,?_⟩
 refine mixE.nil ?_
 refine qad ?_
 obtain ⟨u98,h362,hb⟩:=bd hb
 refine mixE.op hM (hC.make (s:=(.sl si)) (n:=c) underlying77 type52 rfl rfl rfl rfl rfl (qae h362).1 (qae h362).2 (by decide)) ?_
 rintro _ w367 ⟨A363,c364,rfl,hl365,hc366,hC,hF,hN⟩
 have hBf368:=Beside.new hM hN
 have hUf368:=Beside.new (hM.wide (H:=([]:List Fact))) hN
 replace hM:=hM.none hF
 replace hD:=hM.wide (H:=([]:List Fact))
 refine ⟨hM,?_⟩
 clear hF hN
 refine mixE.sk hD (hC.setf (i:=3) (k:=0) (v:=.slice A363 (((List.replicate c.toNat ([]:List Int))).length) c364) rfl sizeOf77 rfl (by rw [Addr.add_zero']; exact rfl) rfl rfl) ?_
 rintro w369 ⟨hC,hF⟩
 replace hD:=hD.besideG hUf292 hF
 replace hM:=hM.besideG hVf292 hF
 clear hF
 refine ⟨hD,?_⟩
 refine mixE.sk hD (hC.setf (i:=1) (k:=0) (v:=.slice A339 (((List.replicate c.toNat ([]:List Int))).length) c340) rfl sizeOf77 rfl (by rw [Addr.add_zero']; exact rfl) rfl rfl) ?_
 rintro w370 ⟨hC,hF⟩
 replace hD:=hD.besideG hUf360 hF
 replace hM:=hM.besideG hVf360 hF
 clear hF
 refine ⟨hD,?_⟩
 refine mixE.nil ?_
 clear hS hM
 clear hD
 exact hK87 _ _ ⟨g290,g358,(List.replicate c.toNat ([]:List Int)),(List.replicate c.toNat ([]:List Int)),A363,((List.replicate c.toNat ([]:List Int))).length,c364,A339,((List.replicate c.toNat ([]:List Int))).length,c340,e4,e7,e8,e9,rfl,rfl,rfl,rfl,rfl,hC.sE [13,16,15,12,17,10,11,8,9,5,7,4,6,3,0,1,2],hb⟩
 refine qad ?_
 refine mixE.op hM (hC.alloc (cs:=[.slice none 0 0]) zeroValue77 rfl) ?_
 rintro _ w372 ⟨g371,rfl,hC,hF,hG⟩
 have hUf373:g371<w89.heap.size→g371∈blocks (([]:List Fact)++([]:List Fact)):=fun h=>absurd (Nat.lt_of_lt_of_le h (Nat.le_trans hM.size hG)) (Nat.lt_irrefl _)
 have hVf373:g371<w89.heap.size→g371∈blocks ([]:List Fact):=fun h=>absurd (Nat.lt_of_lt_of_le h (Nat.le_trans hM.size hG)) (Nat.lt_irrefl _)
 clear hG
 replace hM:=hM.none hF
 replace hD:=hM.wide (H:=([]:List Fact))
 refine ⟨hM,?_⟩
 refine mixE.nil ?_
 refine qaq ?_ ?_
 refine qad ?_
 obtain ⟨u90,h375,hb⟩:=bd hb
 refine mixE.op hM (hC.make (s:=(.sl si)) (n:=c) underlying77 type52 rfl rfl rfl rfl rfl (qae h375).1 (qae h375).2 (by decide)) ?_
 rintro _ w380 ⟨A376,c377,rfl,hl378,hc379,hC,hF,hN⟩
 have hBf381:=Beside.new hM hN
 have hUf381:=Beside.new (hM.wide (H:=([]:List Fact))) hN
 replace hM:=hM.none hF
 replace hD:=hM.wide (H:=([]:List Fact))
 refine ⟨hM,?_⟩
 clear hF hN
 refine mixE.nil ?_
 refine qaq ?_ ?_
 refine qad ?_
 obtain ⟨u98,h383,hb⟩:=bd hb
 refine mixE.op hM (hC.make (s:=(.sl si)) (n:=c) underlying77 type52 rfl rfl rfl rfl rfl (qae h383).1 (qae h383).2 (by decide)) ?_
 rintro _ w388 ⟨A384,c385,rfl,hl386,hc387,hC,hF,hN⟩
 have hBf389:=Beside.new hM hN
 have hUf389:=Beside.new (hM.wide (H:=([]:List Fact))) hN
 replace hM:=hM.none hF
 replace hD:=hM.wide (H:=([]:List Fact))
 refine ⟨hM,?_⟩
 clear hF hN
 refine mixE.nil ?_
 refine qad ?_
 refine mixE.sk hD (hC.setf (i:=3) (k:=0) (v:=.slice A376 (((List.replicate c.toNat ([]:List Int))).length) c377) rfl sizeOf77 rfl (by rw [Addr.add_zero']; exact rfl) rfl rfl) ?_
 rintro w390 ⟨hC,hF⟩
 replace hD:=hD.besideG hUf292 hF
 replace hM:=hM.besideG hVf292 hF
 clear hF
 refine ⟨hD,?_⟩
 refine mixE.sk hD (hC.setf (i:=2) (k:=0) (v:=.slice A384 (((List.replicate c.toNat ([]:List Int))).length) c385) rfl sizeOf77 rfl (by rw [Addr.add_zero']; exact rfl) rfl rfl) ?_
 rintro w391 ⟨hC,hF⟩
 replace hD:=hD.besideG hUf373 hF
 replace hM:=hM.besideG hVf373 hF
 clear hF
 refine ⟨hD,?_⟩
 refine mixE.nil ?_
 clear hS hM
 clear hD
 exact hK87 _ _ ⟨g290,g371,(List.replicate c.toNat ([]:List Int)),(List.replicate c.toNat ([]:List Int)),A376,((List.replicate c.toNat ([]:List Int))).length,c377,A384,((List.replicate c.toNat ([]:List Int))).length,c385,e4,e7,e8,e9,rfl,rfl,rfl,rfl,rfl,hC.sE [13,16,15,12,17,10,11,8,9,5,7,4,6,3,1,2,0],hb⟩
 refine qad ?_
 refine mixE.sk hD (hC.setf (i:=2) (k:=0) (v:=.slice A376 (((List.replicate c.toNat ([]:List Int))).length) c377) rfl sizeOf77 rfl (by rw [Addr.add_zero']; exact rfl) rfl rfl) ?_
 rintro w392 ⟨hC,hF⟩
 replace hD:=hD.besideG hUf292 hF
 replace hM:=hM.besideG hVf292 hF
 clear hF
 refine ⟨hD,?_⟩
 refine mixE.nil ?_
 refine qad ?_
 obtain ⟨u98,h394,hb⟩:=bd hb
 refine mixE.op hM (hC.make (s:=(.sl si)) (n:=c) underlying77 type52 rfl rfl rfl rfl rfl (qae h394).1 (qae h394).2 (by decide)) ?_
 rintro _ w399 ⟨A395,c396,rfl,hl397,hc398,hC,hF,hN⟩
 have hBf400:=Beside.new hM hN
 have hUf400:=Beside.new (hM.wide (H:=([]:List Fact))) hN
 replace hM:=hM.none hF
 replace hD:=hM.wide (H:=([]:List Fact))
 refine ⟨hM,?_⟩
 clear hF hN
 refine mixE.sk hD (hC.setf (i:=2) (k:=0) (v:=.slice A395 (((List.replicate c.toNat ([]:List Int))).length) c396) rfl sizeOf77 rfl (by rw [Addr.add_zero']; exact rfl) rfl rfl) ?_
 rintro w401 ⟨hC,hF⟩
 replace hD:=hD.besideG hUf373 hF
 replace hM:=hM.besideG hVf373 hF
 clear hF
 refine ⟨hD,?_⟩
 refine mixE.nil ?_
 clear hS hM
 clear hD
 exact hK87 _ _ ⟨g290,g371,(List.replicate c.toNat ([]:List Int)),(List.replicate c.toNat ([]:List Int)),A376,((List.replicate c.toNat ([]:List Int))).length,c377,A395,((List.replicate c.toNat ([]:List Int))).length,c396,e4,e7,e8,e9,rfl,rfl,rfl,rfl,rfl,hC.sE [13,16,15,12,17,10,11,8,9,5,7,4,6,3,1,2,0],hb⟩
 refine qad ?_
 obtain ⟨u90,h403,hb⟩:=bd hb
 refine mixE.op hM (hC.make (s:=(.sl si)) (n:=c) underlying77 type52 rfl rfl rfl rfl rfl (qae h403).1 (qae h403).2 (by decide)) ?_
 rintro _ w408 ⟨A404,c405,rfl,hl406,hc407,hC,hF,hN⟩
 have hBf409:=Beside.new hM hN
 have hUf409:=Beside.new (hM.wide (H:=([]:List Fact))) hN
 replace hM:=hM.none hF
 replace hD:=hM.wide (H:=([]:List Fact))
 refine ⟨hM,?_⟩
 clear hF hN
 refine mixE.nil ?_
 refine qad ?_
 obtain ⟨u98,h411,hb⟩:=bd hb
 refine mixE.op hM (hC.make (s:=(.sl si)) (n:=c) underlying77 type52 rfl rfl rfl rfl rfl (qae h411).1 (qae h411).2 (by decide)) ?_
 rintro _ w416 ⟨A412,c413,rfl,hl414,hc415,hC,hF,hN⟩
 have hBf417:=Beside.new hM hN
 have hUf417:=Beside.new (hM.wide (H:=([]:List Fact))) hN
 replace hM:=hM.none hF
 replace hD:=hM.wide (H:=([]:List Fact))
 refine ⟨hM,?_⟩
 clear hF hN
 refine mixE.sk hD (hC.setf (i:=3) (k:=0) (v:=.slice A412 (((List.replicate c.toNat ([]:List Int))).length) c413) rfl sizeOf77 rfl (by rw [Addr.add_zero']; exact rfl) rfl rfl) ?_
 rintro w418 ⟨hC,hF⟩
 replace hD:=hD.besideG hUf292 hF
 replace hM:=hM.besideG hVf292 hF
 clear hF
 refine ⟨hD,?_⟩
 refine mixE.sk hD (hC.setf (i:=2) (k:=0) (v:=.slice A404 (((List.replicate c.toNat ([]:List Int))).length) c405) rfl sizeOf77 rfl (by rw [Addr.add_zero']; exact rfl) rfl rfl) ?_
 rintro w419 ⟨hC,hF⟩
 replace hD:=hD.besideG hUf373 hF
 replace hM:=hM.besideG hVf373 hF
 clear hF
 refine ⟨hD,?_⟩
 refine mixE.nil ?_
 clear hS hM
 clear hD
 exact hK87 _ _ ⟨g290,g371,(List.replicate c.toNat ([]:List Int)),(List.replicate c.toNat ([]:List Int)),A412,((List.replicate c.toNat ([]:List Int))).length,c413,A404,((List.replicate c.toNat ([]:List Int))).length,c405,e4,e7,e8,e9,rfl,rfl,rfl,rfl,rfl,hC.sE [13,16,15,12,17,10,11,8,9,5,7,4,6,3,0,2,1],hb⟩
 refine qad ?_
 refine mixE.op hM (hC.alloc (cs:=[.slice none 0 0]) zeroValue77 rfl) ?_
 rintro _ w421 ⟨g420,rfl,hC,hF,hG⟩
 have hUf422:g420<w89.heap.size→g420∈blocks (([]:List Fact)++([]:List Fact)):=fun h=>absurd (Nat.lt_of_lt_of_le h (Nat.le_trans hM.size hG)) (Nat.lt_irrefl _)
 have hVf422:g420<w89.heap.size→g420∈blocks ([]:List Fact):=fun h=>absurd (Nat.lt_of_lt_of_le h (Nat.le_trans hM.size hG)) (Nat.lt_irrefl _)
 clear hG
 replace hM:=hM.none hF
 replace hD:=hM.wide (H:=([]:List Fact))
 refine ⟨hM,?_⟩
 refine mixE.nil ?_
 refine qaq ?_ ?_
 refine qad ?_
 obtain ⟨u90,h424,hb⟩:=bd hb
 refine mixE.op hM (hC.make (s:=(.sl si)) (n:=c) underlying77 type52 rfl rfl rfl rfl rfl (qae h424).1 (qae h424).2 (by decide)) ?_
 rintro _ w429 ⟨A425,c426,rfl,hl427,hc428,hC,hF,hN⟩
 have hBf430:=Beside.new hM hN
 have hUf430:=Beside.new (hM.wide (H:=([]:List Fact))) hN
 replace hM:=hM.none hF
 replace hD:=hM.wide (H:=([]:List Fact))
 refine ⟨hM,?_⟩
 clear hF hN
 refine mixE.nil ?_
 refine qaq ?_ ?_
 refine qad ?_
 obtain ⟨u98,h432,hb⟩:=bd hb
 refine mixE.op hM (hC.make (s:=(.sl si)) (n:=c) underlying77 type52 rfl rfl rfl rfl rfl (qae h432).1 (qae h432).2 (by decide)) ?_
 rintro _ w437 ⟨A433,c434,rfl,hl435,hc436,hC,hF,hN⟩
 have hBf438:=Beside.new hM hN
 have hUf438:=Beside.new (hM.wide (H:=([]:List Fact))) hN
 replace hM:=hM.none hF
 replace hD:=hM.wide (H:=([]:List Fact))
 refine ⟨hM,?_⟩
 clear hF hN
 refine mixE.nil ?_
 refine qad ?_
 refine mixE.op hM (hC.alloc (cs:=[.slice none 0 0]) zeroValue77 rfl) ?_
 rintro _ w440 ⟨g439,rfl,hC,hF,hG⟩
 have hUf441:g439<w89.heap.size→g439∈blocks (([]:List Fact)++([]:List Fact)):=fun h=>absurd (Nat.lt_of_lt_of_le h (Nat.le_trans hM.size hG)) (Nat.lt_irrefl _)
 have hVf441:g439<w89.heap.size→g439∈blocks ([]:List Fact):=fun h=>absurd (Nat.lt_of_lt_of_le h (Nat.le_trans hM.size hG)) (Nat.lt_irrefl _)
 clear hG
 replace hM:=hM.none hF
 replace hD:=hM.wide (H:=([]:List Fact))
 refine ⟨hM,?_⟩
 refine mixE.sk hD (hC.setf (i:=0) (k:=0) (v:=.slice A425 (((List.replicate c.toNat ([]:List Int))).length) c426) rfl sizeOf77 rfl (by rw [Addr.add_zero']; exact rfl) rfl rfl) ?_
 rintro w442 ⟨hC,hF⟩
 replace hD:=hD.besideG hUf441 hF
 replace hM:=hM.besideG hVf441 hF
 clear hF
 refine ⟨hD,?_⟩
 refine mixE.sk hD (hC.setf (i:=3) (k:=0) (v:=.slice A433 (((List.replicate c.toNat ([]:List Int))).length) c434) rfl sizeOf77 rfl (by rw [Addr.add_zero']; exact rfl) rfl rfl) ?_
 rintro w443 ⟨hC,hF⟩
 replace hD:=hD.besideG hUf422 hF
 replace hM:=hM.besideG hVf422 hF
 clear hF
 refine ⟨hD,?_⟩
 refine mixE.nil ?_
 clear hS hM
 clear hD
 exact hK87 _ _ ⟨g439,g420,(List.replicate c.toNat ([]:List Int)),(List.replicate c.toNat ([]:List Int)),A425,((List.replicate c.toNat ([]:List Int))).length,c426,A433,((List.replicate c.toNat ([]:List Int))).length,c434,e4,e7,e8,e9,rfl,rfl,rfl,rfl,rfl,hC.sE [13,16,15,12,17,10,11,8,9,5,7,4,6,0,2,3,1],hb⟩
 refine qad ?_
 refine mixE.op hM (hC.alloc (cs:=[.slice none 0 0]) zeroValue77 rfl) ?_
 rintro _ w445 ⟨g444,rfl,hC,hF,hG⟩
 have hUf446:g444<w89.heap.size→g444∈blocks (([]:List Fact)++([]:List Fact)):=fun h=>absurd (Nat.lt_of_lt_of_le h (Nat.le_trans hM.size hG)) (Nat.lt_irrefl _)
 have hVf446:g444<w89.heap.size→g444∈blocks ([]:List Fact):=fun h=>absurd (Nat.lt_of_lt_of_le h (Nat.le_trans hM.size hG)) (Nat.lt_irrefl _)
 clear hG
 replace hM:=hM.none hF
 replace hD:=hM.wide (H:=([]:List Fact))
 refine ⟨hM,?_⟩
 refine mixE.nil ?_
 refine qaq ?_ ?_
 refine qad ?_
 obtain ⟨u98,h448,hb⟩:=bd hb
 refine mixE.op hM (hC.make (s:=(.sl si)) (n:=c) underlying77 type52 rfl rfl rfl rfl rfl (qae h448).1 (qae h448).2 (by decide)) ?_
 rintro _ w453 ⟨A449,c450,rfl,hl451,hc452,hC,hF,hN⟩
 have hBf454:=Beside.new hM hN
 have hUf454:=Beside.new (hM.wide (H:=([]:List Fact))) hN
 replace hM:=hM.none hF
 replace hD:=hM.wide (H:=([]:List Fact))
 refine ⟨hM,?_⟩
 clear hF hN
 refine mixE.nil ?_
 refine qad ?_
 refine mixE.sk hD (hC.setf (i:=1) (k:=0) (v:=.slice A425 (((List.replicate c.toNat ([]:List Int))).length) c426) rfl sizeOf77 rfl (by rw [Addr.add_zero']; exact rfl) rfl rfl) ?_
 rintro w455 ⟨hC,hF⟩
 replace hD:=hD.besideG hUf446 hF
 replace hM:=hM.besideG hVf446 hF
 clear hF
 refine ⟨hD,?_⟩
 refine mixE.sk hD (hC.setf (i:=3) (k:=0) (v:=.slice A449 (((List.replicate c.toNat ([]:List Int))).length) c450) rfl sizeOf77 rfl (by rw [Addr.add_zero']; exact rfl) rfl rfl) ?_
 rintro w456 ⟨hC,hF⟩
 replace hD:=hD.besideG hUf422 hF
 replace hM:=hM.besideG hVf422 hF
 clear hF
 refine ⟨hD,?_⟩
 refine mixE.nil ?_
 clear hS hM
 clear hD
 exact hK87 _ _ ⟨g444,g420,(List.replicate c.toNat ([]:List Int)),(List.replicate c.toNat ([]:List Int)),A425,((List.replicate c.toNat ([]:List Int))).length,c426,A449,((List.replicate c.toNat ([]:List Int))).length,c450,e4,e7,e8,e9,rfl,rfl,rfl,rfl,rfl,hC.sE [13,16,15,12,17,10,11,8,9,5,7,4,6,1,2,3,0],hb⟩
 refine qad ?_
 refine mixE.sk hD (hC.setf (i:=0) (k:=0) (v:=.slice A425 (((List.replicate c.toNat ([]:List Int))).length) c426) rfl sizeOf77 rfl (by rw [Addr.add_zero']; exact rfl) rfl rfl) ?_
 rintro w457 ⟨hC,hF⟩
 replace hD:=hD.besideG hUf446 hF
 replace hM:=hM.besideG hVf446 hF
 clear hF
 refine ⟨hD,?_⟩
 refine mixE.nil ?_
 refine qad ?_
 obtain ⟨u98,h459,hb⟩:=bd hb
 refine mixE.op hM (hC.make (s:=(.sl si)) (n:=c) underlying77 type52 rfl rfl rfl rfl rfl (qae h459).1 (qae h459).2 (by decide)) ?_
 rintro _ w464 ⟨A460,c461,rfl,hl462,hc463,hC,hF,hN⟩
 have hBf465:=Beside.new hM hN
 have hUf465:=Beside.new (hM.wide (H:=([]:List Fact))) hN
 replace hM:=hM.none hF
 replace hD:=hM.wide (H:=([]:List Fact))
 refine ⟨hM,?_⟩
 clear hF hN
 refine mixE.sk hD (hC.setf (i:=3) (k:=0) (v:=.slice A460 (((List.replicate c.toNat ([]:List Int))).length) c461) rfl sizeOf77 rfl (by rw [Addr.add_zero']; exact rfl) rfl rfl) ?_
 rintro w466 ⟨hC,hF⟩
 replace hD:=hD.besideG hUf422 hF
 replace hM:=hM.besideG hVf422 hF
 clear hF
 refine ⟨hD,?_⟩
 refine mixE.nil ?_
 clear hS hM
 clear hD
 exact hK87 _ _ ⟨g444,g420,(List.replicate c.toNat ([]:List Int)),(List.replicate c.toNat ([]:List Int)),A425,((List.replicate c.toNat ([]:List Int))).length,c426,A460,((List.replicate c.toNat ([]:List Int))).length,c461,e4,e7,e8,e9,rfl,rfl,rfl,rfl,rfl,hC.sE [13,16,15,12,17,10,11,8,9,5,7,4,6,1,2,3,0],hb⟩
 refine qaq ?_ ?_
 refine qad ?_
 obtain ⟨u90,h468,hb⟩:=bd hb
 refine mixE.op hM (hC.make (s:=(.sl si)) (n:=c) underlying77 type52 rfl rfl rfl rfl rfl (qae h468).1 (qae h468).2 (by decide)) ?_
 rintro _ w473 ⟨A469,c470,rfl,hl471,hc472,hC,hF,hN⟩
 have hBf474:=Beside.new hM hN
 have hUf474:=Beside.new (hM.wide (H:=([]:List Fact))) hN
 replace hM:=hM.none hF
 replace hD:=hM.wide (H:=([]:List Fact))
 refine ⟨hM,?_⟩
 clear hF hN
 refine mixE.nil ?_
 refine qaq ?_ ?_
 refine qad ?_
 obtain ⟨u98,h476,hb⟩:=bd hb
 refine mixE.op hM (hC.make (s:=(.sl si)) (n:=c) underlying77 type52 rfl rfl rfl rfl rfl (qae h476).1 (qae h476).2 (by decide)) ?_
 rintro _ w481 ⟨A477,c478,rfl,hl479,hc480,hC,hF,hN⟩
 have hBf482:=Beside.new hM hN
 have hUf482:=Beside.new (hM.wide (H:=([]:List Fact))) hN
 replace hM:=hM.none hF
 replace hD:=hM.wide (H:=([]:List Fact))
 refine ⟨hM,?_⟩
 clear hF hN
 refine mixE.nil ?_
 refine qad ?_
 refine mixE.op hM (hC.alloc (cs:=[.slice none 0 0]) zeroValue77 rfl) ?_
 rintro _ w484 ⟨g483,rfl,hC,hF,hG⟩
 have hUf485:g483<w89.heap.size→g483∈blocks (([]:List Fact)++([]:List Fact)):=fun h=>absurd (Nat.lt_of_lt_of_le h (Nat.le_trans hM.size hG)) (Nat.lt_irrefl _)
 have hVf485:g483<w89.heap.size→g483∈blocks ([]:List Fact):=fun h=>absurd (Nat.lt_of_lt_of_le h (Nat.le_trans hM.size hG)) (Nat.lt_irrefl _)
 clear hG
 replace hM:=hM.none hF
 replace hD:=hM.wide (H:=([]:List Fact))
 refine ⟨hM,?_⟩
 refine mixE.sk hD (hC.setf (i:=0) (k:=0) (v:=.slice A477 (((List.replicate c.toNat ([]:List Int))).length) c478) rfl sizeOf77 rfl (by rw [Addr.add_zero']; exact rfl) rfl rfl) ?_
 rintro w486 ⟨hC,hF⟩
 replace hD:=hD.besideG hUf485 hF
 replace hM:=hM.besideG hVf485 hF
 clear hF
 refine ⟨hD,?_⟩
 refine mixE.sk hD (hC.setf (i:=3) (k:=0) (v:=.slice A469 (((List.replicate c.toNat ([]:List Int))).length) c470) rfl sizeOf77 rfl (by rw [Addr.add_zero']; exact rfl) rfl rfl) ?_
 rintro w487 ⟨hC,hF⟩
 replace hD:=hD.besideG hUf422 hF
 replace hM:=hM.besideG hVf422 hF
 clear hF
 refine ⟨hD,?_⟩
 refine mixE.nil ?_
 clear hS hM
 clear hD
 exact hK87 _ _ ⟨g483,g420,(List.replicate c.toNat ([]:List Int)),(List.replicate c.toNat ([]:List Int)),A477,((List.replicate c.toNat ([]:List Int))).length,c478,A469,((List.replicate c.toNat ([]:List Int))).length,c470,e4,e7,e8,e9,rfl,rfl,rfl,rfl,rfl,hC.sE [13,16,15,12,17,10,11,8,9,5,7,4,6,0,1,3,2],hb⟩
 refine qad ?_
 refine mixE.op hM (hC.alloc (cs:=[.slice none 0 0]) zeroValue77 rfl) ?_
 rintro _ w489 ⟨g488,rfl,hC,hF,hG⟩
 have hUf490:g488<w89.heap.size→g488∈blocks (([]:List Fact)++([]:List Fact)):=fun h=>absurd (Nat.lt_of_lt_of_le h (Nat.le_trans hM.size hG)) (Nat.lt_irrefl _)
 have hVf490:g488<w89.heap.size→g488∈blocks ([]:List Fact):=fun h=>absurd (Nat.lt_of_lt_of_le h (Nat.le_trans hM.size hG)) (Nat.lt_irrefl _)
 clear hG
 replace hM:=hM.none hF
 replace hD:=hM.wide (H:=([]:List Fact))
 refine ⟨hM,?_⟩
 refine mixE.nil ?_
 refine qad ?_
 obtain ⟨u98,h492,hb⟩:=bd hb
 refine mixE.op hM (hC.make (s:=(.sl si)) (n:=c) underlying77 type52 rfl rfl rfl rfl rfl (qae h492).1 (qae h492).2 (by decide)) ?_
 rintro _ w497 ⟨A493,c494,rfl,hl495,hc496,hC,hF,hN⟩
 have hBf498:=Beside.new hM hN
 have hUf498:=Beside.new (hM.wide (H:=([]:List Fact))) hN
 replace hM:=hM.none hF
 replace hD:=hM.wide (H:=([]:List Fact))
 refine ⟨hM,?_⟩
 clear hF hN
 refine mixE.sk hD (hC.setf (i:=1) (k:=0) (v:=.slice A493 (((List.replicate c.toNat ([]:List Int))).length) c494) rfl sizeOf77 rfl (by rw [Addr.add_zero']; exact rfl) rfl rfl) ?_
 rintro w499 ⟨hC,hF⟩
 replace hD:=hD.besideG hUf490 hF
 replace hM:=hM.besideG hVf490 hF
 clear hF
 refine ⟨hD,?_⟩
 refine mixE.sk hD (hC.setf (i:=3) (k:=0) (v:=.slice A469 (((List.replicate c.toNat ([]:List Int))).length) c470) rfl sizeOf77 rfl (by rw [Addr.add_zero']; exact rfl) rfl rfl) ?_
 rintro w500 ⟨hC,hF⟩
 replace hD:=hD.besideG hUf422 hF
 replace hM:=hM.besideG hVf422 hF
 clear hF
 refine ⟨hD,?_⟩
 refine mixE.nil ?_
 clear hS hM
 clear hD
 exact hK87 _ _ ⟨g488,g420,(List.replicate c.toNat ([]:List Int)),(List.replicate c.toNat ([]:List Int)),A493,((List.replicate c.toNat ([]:List Int))).length,c494,A469,((List.replicate c.toNat ([]:List Int))).length,c470,e4,e7,e8,e9,rfl,rfl,rfl,rfl,rfl,hC.sE [13,16,15,12,17,10,11,8,9,5,7,4,6,1,0,3,2],hb⟩
 refine qad ?_
 refine mixE.op hM (hC.alloc (cs:=[.slice none 0 0]) zeroValue77 rfl) ?_
 rintro _ w502 ⟨g501,rfl,hC,hF,hG⟩
 have hUf503:g501<w89.heap.size→g501∈blocks (([]:List Fact)++([]:List Fact)):=fun h=>absurd (Nat.lt_of_lt_of_le h (Nat.le_trans hM.size hG)) (Nat.lt_irrefl _)
 have hVf503:g501<w89.heap.size→g501∈blocks ([]:List Fact):=fun h=>absurd (Nat.lt_of_lt_of_le h (Nat.le_trans hM.size hG)) (Nat.lt_irrefl _)
 clear hG
 replace hM:=hM.none hF
 replace hD:=hM.wide (H:=([]:List Fact))
 refine ⟨hM,?_⟩
 refine mixE.nil ?_
 refine qaq ?_ ?_
 refine qad ?_
 obtain ⟨u90,h505,hb⟩:=bd hb
 refine mixE.op hM (hC.make (s:=(.sl si)) (n:=c) underlying77 type52 rfl rfl rfl rfl rfl (qae h505).1 (qae h505).2 (by decide)) ?_
 rintro _ w510 ⟨A506,c507,rfl,hl508,hc509,hC,hF,hN⟩
 have hBf511:=Beside.new hM hN
 have hUf511:=Beside.new (hM.wide (H:=([]:List Fact))) hN
 replace hM:=hM.none hF
 replace hD:=hM.wide (H:=([]:List Fact))
 refine ⟨hM,?_⟩
 clear hF hN
 refine mixE.nil ?_
 refine qaq ?_ ?_
 refine qad ?_
 obtain ⟨u98,h513,hb⟩:=bd hb
 refine mixE.op hM (hC.make (s:=(.sl si)) (n:=c) underlying77 type52 rfl rfl rfl rfl rfl (qae h513).1 (qae h513).2 (by decide)) ?_
 rintro _ w518 ⟨A514,c515,rfl,hl516,hc517,hC,hF,hN⟩
 have hBf519:=Beside.new hM hN
 have hUf519:=Beside.new (hM.wide (H:=([]:List Fact))) hN
 replace hM:=hM.none hF
 replace hD:=hM.wide (H:=([]:List Fact))
 refine ⟨hM,?_⟩
 clear hF hN
 refine mixE.nil ?_
 refine qad ?_
 refine mixE.sk hD (hC.setf (i:=2) (k:=0) (v:=.slice A506 (((List.replicate c.toNat ([]:List Int))).length) c507) rfl sizeOf77 rfl (by rw [Addr.add_zero']; exact rfl) rfl rfl) ?_
 rintro w520 ⟨hC,hF⟩
 replace hD:=hD.besideG hUf503 hF
 replace hM:=hM.besideG hVf503 hF
 clear hF
 refine ⟨hD,?_⟩
 refine mixE.sk hD (hC.setf (i:=3) (k:=0) (v:=.slice A514 (((List.replicate c.toNat ([]:List Int))).length) c515) rfl sizeOf77 rfl (by rw [Addr.add_zero']; exact rfl) rfl rfl) ?_
 rintro w521 ⟨hC,hF⟩
 replace hD:=hD.besideG hUf422 hF
 replace hM:=hM.besideG hVf422 hF
 clear hF
 refine ⟨hD,?_⟩
 refine mixE.nil ?_
 clear hS hM
 clear hD
 exact hK87 _ _ ⟨g501,g420,(List.replicate c.toNat ([]:List Int)),(List.replicate c.toNat ([]:List Int)),A506,((List.replicate c.toNat ([]:List Int))).length,c507,A514,((List.replicate c.toNat ([]:List Int))).length,c515,e4,e7,e8,e9,rfl,rfl,rfl,rfl,rfl,hC.sE [13,16,15,12,17,10,11,8,9,5,7,4,6,2,1,3,0],hb⟩
 refine qad ?_
 refine mixE.sk hD (hC.setf (i:=1) (k:=0) (v:=.slice A506 (((List.replicate c.toNat ([]:List Int))).length) c507) rfl sizeOf77 rfl (by rw [Addr.add_zero']; exact rfl) rfl rfl) ?_
 rintro w522 ⟨hC,hF⟩
 replace hD:=hD.besideG hUf503 hF
 replace hM:=hM.besideG hVf503 hF
 clear hF
 refine ⟨hD,?_⟩
 refine mixE.nil ?_
 refine qad ?_
 obtain ⟨u98,h524,hb⟩:=bd hb
 refine mixE.op hM (hC.make (s:=(.sl si)) (n:=c) underlying77 type52 rfl rfl rfl rfl rfl (qae h524).1 (qae h524).2 (by decide)) ?_
 rintro _ w529 ⟨A525,c526,rfl,hl527,hc528,hC,hF,hN⟩
 have hBf530:=Beside.new hM hN
 have hUf530:=Beside.new (hM.wide (H:=([]:List Fact))) hN
 replace hM:=hM.none hF
 replace hD:=hM.wide (H:=([]:List Fact))
 refine ⟨hM,?_⟩
 clear hF hN
 refine mixE.sk hD (hC.setf (i:=3) (k:=0) (v:=.slice A525 (((List.replicate c.toNat ([]:List Int))).length) c526) rfl sizeOf77 rfl (by rw [Addr.add_zero']; exact rfl) rfl rfl) ?_
 rintro w531 ⟨hC,hF⟩
 replace hD:=hD.besideG hUf422 hF
 replace hM:=hM.besideG hVf422 hF
 clear hF
 refine ⟨hD,?_⟩
 refine mixE.nil ?_
 clear hS hM
 clear hD
 exact hK87 _ _ ⟨g501,g420,(List.replicate c.toNat ([]:List Int)),(List.replicate c.toNat ([]:List Int)),A506,((List.replicate c.toNat ([]:List Int))).length,c507,A525,((List.replicate c.toNat ([]:List Int))).length,c526,e4,e7,e8,e9,rfl,rfl,rfl,rfl,rfl,hC.sE [13,16,15,12,17,10,11,8,9,5,7,4,6,2,1,3,0],hb⟩
 refine qad ?_
 obtain ⟨u90,h533,hb⟩:=bd hb
 refine mixE.op hM (hC.make (s:=(.sl si)) (n:=c) underlying77 type52 rfl rfl rfl rfl rfl (qae h533).1 (qae h533).2 (by decide)) ?_
 rintro _ w538 ⟨A534,c535,rfl,hl536,hc537,hC,hF,hN⟩
 have hBf539:=Beside.new hM hN
 have hUf539:=Beside.new (hM.wide (H:=([]:List Fact))) hN
 replace hM:=hM.none hF
 replace hD:=hM.wide (H:=([]:List Fact))
 refine ⟨hM,?_⟩
 clear hF hN
 refine mixE.nil ?_
 refine qad ?_
 obtain ⟨u98,h541,hb⟩:=bd hb
 refine mixE.op hM (hC.make (s:=(.sl si)) (n:=c) underlying77 type52 rfl rfl rfl rfl rfl (qae h541).1 (qae h541).2 (by decide)) ?_
 rintro _ w546 ⟨A542,c543,rfl,hl544,hc545,hC,hF,hN⟩
 have hBf547:=Beside.new hM hN
 have hUf547:=Beside.new (hM.wide (H:=([]:List Fact))) hN
 replace hM:=hM.none hF
 replace hD:=hM.wide (H:=([]:List Fact))
 refine ⟨hM,?_⟩
 clear hF hN
 refine mixE.sk hD (hC.setf (i:=2) (k:=0) (v:=.slice A542 (((List.replicate c.toNat ([]:List Int))).length) c543) rfl sizeOf77 rfl (by rw [Addr.add_zero']; exact rfl) rfl rfl) ?_
 rintro w548 ⟨hC,hF⟩
 replace hD:=hD.besideG hUf503 hF
 replace hM:=hM.besideG hVf503 hF
 clear hF
 refine ⟨hD,?_⟩
 refine mixE.sk hD (hC.setf (i:=3) (k:=0) (v:=.slice A534 (((List.replicate c.toNat ([]:List Int))).length) c535) rfl sizeOf77 rfl (by rw [Addr.add_zero']; exact rfl) rfl rfl) ?_
 rintro w549 ⟨hC,hF⟩
 replace hD:=hD.besideG hUf422 hF
 replace hM:=hM.besideG hVf422 hF
 clear hF
 refine ⟨hD,?_⟩
 refine mixE.nil ?_
 clear hS hM
 clear hD
 exact hK87 _ _ ⟨g501,g420,(List.replicate c.toNat ([]:List Int)),(List.replicate c.toNat ([]:List Int)),A542,((List.replicate c.toNat ([]:List Int))).length,c543,A534,((List.replicate c.toNat ([]:List Int))).length,c535,e4,e7,e8,e9,rfl,rfl,rfl,rfl,rfl,hC.sE [13,16,15,12,17,10,11,8,9,5,7,4,6,2,0,3,1],hb⟩
 clear hb hC
 rintro E551 w550 ⟨gP14,gP15,B,C,J,N,K,L,P,M,e4,e7,e8,e9,e11,e12,e13,e14,e15,hC,hb⟩
 unfold F.qcw at hb
 obtain ⟨rfl,a1,a2⟩:=(hC.ow (i:=14) rfl).qaf
 obtain ⟨rfl,a3,a4⟩:=(hC.ow (i:=16) rfl).qaf
 refine Wc.seq fun _ hK552=>rg<|lex.op (hC.alloc (cs:=[iv 0]) zeroValue3 rfl) ?_
 rintro _ w554 ⟨g553,rfl,hC,hF,-⟩
 refine lex.sk (hC.setf (i:=0) (k:=0) (v:=iv 0) rfl sizeOf3 rfl (by rw [Addr.add_zero']; exact rfl) rfl rfl) ?_
 rintro w556 ⟨hC,hF⟩
 refine ln (hK552 _ _ ?_)
 refine Wc.seq fun _ hK557=>rg<|lex.op (hC.alloc (cs:=[.nilFunc]) zeroValue113 rfl) ?_
 rintro _ w559 ⟨g558,rfl,hC,hF,-⟩
 refine ln (hK557 _ _ ?_)
 refine Wc.seq fun _ hK561=>rg<|lp (.func (.func 79) #[] #[pg g6,pg g9,pg gP14,pg g37,pg g553,pg gP15,pg g56,pg g82,pg g79,pg g558]) (qga (map_of (qdi e4 (qdi e7 (qdi e14 (qdi e9 (qdi rfl (qdi e15 (qdi e11 (qdi e13 (qdi e12 (qdi rfl m2_nil))))))))))))<|lex.sk (hC.setf (i:=0) (k:=0) (v:=.func (.func 79) #[] #[pg g6,pg g9,pg gP14,pg g37,pg g553,pg gP15,pg g56,pg g82,pg g79,pg g558]) rfl sizeOf113 rfl (by rw [Addr.add_zero']; exact rfl) rfl rfl) ?_
 rintro w562 ⟨hC,hF⟩
 replace hC:=hC.freezeB (i:=2) rfl (hC.box_newI hI (i:=2) rfl (List.forall_mem_cons.2 ⟨fun g hg=>⟨6,_,rfl,by decide,hg⟩,fun _ h=>absurd h List.not_mem_nil⟩))
 replace hC:=hC.freezeB (i:=5) rfl (hC.box_newI hI (i:=5) rfl (List.forall_mem_cons.2 ⟨fun g hg=>⟨6,_,rfl,by decide,hg⟩,fun _ h=>absurd h List.not_mem_nil⟩))
 replace hC:=hC.freezeB (i:=15) rfl (hC.box_newI hI (i:=15) rfl (List.forall_mem_cons.2 ⟨fun g hg=>⟨6,_,rfl,by decide,hg⟩,fun _ h=>absurd h List.not_mem_nil⟩))
 replace hC:=hC.freezeB (i:=7) rfl (hC.box_newI hI (i:=7) rfl (List.forall_mem_cons.2 ⟨fun g hg=>⟨6,_,rfl,by decide,hg⟩,fun _ h=>absurd h List.not_mem_nil⟩))
 replace hC:=hC.freezeB (i:=17) rfl (hC.box_newI hI (i:=17) rfl (List.forall_mem_cons.2 ⟨fun g hg=>⟨6,_,rfl,by decide,hg⟩,fun _ h=>absurd h List.not_mem_nil⟩))
 replace hC:=hC.freezeB (i:=9) rfl (hC.box_newI hI (i:=9) rfl (List.forall_mem_cons.2 ⟨fun g hg=>⟨6,_,rfl,by decide,hg⟩,fun _ h=>absurd h List.not_mem_nil⟩))
 replace hC:=hC.freezeB (i:=13) rfl (hC.box_newI hI (i:=13) rfl (List.forall_mem_cons.2 ⟨fun g hg=>⟨6,_,rfl,by decide,hg⟩,fun _ h=>absurd h List.not_mem_nil⟩))
 replace hC:=hC.freezeB (i:=11) rfl (hC.box_newI hI (i:=11) rfl (List.forall_mem_cons.2 ⟨fun g hg=>⟨6,_,rfl,by decide,hg⟩,fun _ h=>absurd h List.not_mem_nil⟩))
 replace hC:=hC.freezeB (i:=0) rfl (hC.box_newI hI (i:=0) rfl (List.forall_mem_cons.2 ⟨fun g hg=>⟨6,_,rfl,by decide,hg⟩,fun _ h=>absurd h List.not_mem_nil⟩))
 refine ln (hK561 _ _ ?_)
 refine Wc.seq fun _ hK563=>rg<|lv (.func (.func 79) #[] #[pg g6,pg g9,pg gP14,pg g37,pg g553,pg gP15,pg g56,pg g82,pg g79,pg g558]) (qah isAgg113 rfl ((hC.rbx (i:=0) rfl).cell (j:=0) rfl)) ?_
 replace hC:=hC.freeze (i:=12) rfl (hC.own_newI hI (i:=12) rfl (List.forall_mem_cons.2 ⟨fun g hg=>⟨6,_,rfl,by decide,hg⟩,fun _ h=>absurd h List.not_mem_nil⟩))
 replace hC:=hC.freeze (i:=8) rfl (hC.own_newI hI (i:=8) rfl (List.forall_mem_cons.2 ⟨fun g hg=>⟨6,_,rfl,by decide,hg⟩,fun _ h=>absurd h List.not_mem_nil⟩))
 replace hC:Cx I O0 w w562 ([.own 52 (.sl si) (.slice J B.length K) B,.own 52 (.sl si) (.slice L C.length M) C,.own 3 si (.slice A72 y70.length c74) y70,.box d 3 [iv f],.box g553 3 [iv 0]]++[.rbox g558 113 [.func (.func 79) #[] #[pg g6,pg g9,pg gP14,pg g37,pg g553,pg gP15,pg g56,pg g82,pg g79,pg g558]],.rbox g6 48 [iv c,.slice p m.length u,.slice x o.length y],.ro (.sl si) [.slice p m.length u] m,.ro (.sl (.sl si)) [.slice x o.length y] o,.rbox g9 98 [.func (.func 55) #[] #[pg d]],.rbox g37 77 [.slice A29 y27.1.length c31],.ro (.sl (.sl si)) [.slice A29 y27.1.length c31] y27.1,.rbox g56 118 [.slice A49 y47.length c51],.ro (.sl (.sl (.sl si))) [.slice A49 y47.length c51] y47,.rbox g79 52 [.slice A63 y61.length c65],.ro (.sl si) [.slice A63 y61.length c65] y61,.rbox g82 52 [.slice A72 y70.length c74],.rbox gP14 77 [.slice J B.length K],.rbox gP15 77 [.slice L C.length M]]):=hC.sE [16,18,14,6,1,0,2,3,4,5,7,8,9,10,11,12,13,15,17]
 obtain ⟨y564,h565,hb⟩:=bd hb
 refine lex.cl (⟨_,_,qcf (vs:=[iv 0,pg g6,pg g9,pg gP14,pg g37,pg g553,pg gP15,pg g56,pg g82,pg g79,pg g558]) (ca:=#[pg g6,pg g9,pg gP14,pg g37,pg g553,pg gP15,pg g56,pg g82,pg g79,pg g558]) call79 rfl rfl rfl,homs_find_c1_ok n hC.lt (show I64 0 from by unfold I64; omega) S (hC.rd (i:=7) rfl) (hC.rd (i:=8) rfl) z (hC.rd (i:=11) rfl) (show I64 0 from by unfold I64; omega) (hC.rd (i:=13) rfl) (hC.rd (i:=15) rfl) (hC.rb (i:=6) rfl) (hC.rb (i:=9) rfl) (hC.rb (i:=17) rfl) (hC.rb (i:=10) rfl) (hC.rb (i:=18) rfl) (hC.rb (i:=12) rfl) (hC.rb (i:=16) rfl) (hC.rb (i:=14) rfl) (hC.rb (i:=5) rfl) hC.give h565⟩) ?_
 rintro _ w568 ⟨rfl,hr566,hr567,hK⟩
 replace hC:=hC.back hK
 clear hK
 refine ln (hK563 _ _ ?_)
 refine Wc.seq fun _ hK569=>?_
 refine Wc.seq fun _ hK570=>rg<|lv (iv y564.2.2.2.2.2) (qah isAgg3 rfl ((hC.bx (i:=4) rfl).cell (j:=0) rfl))<|lp (.bool (decide (200000<y564.2.2.2.2.2))) (qbi (k:=.i64) (a:=y564.2.2.2.2.2) (b:=200000) rfl rfl)<|ln (hK570 _ _ ?_)
 refine Wc.cond (t:=(decide (200000<y564.2.2.2.2.2))) (rfl) (fun hq571=>?_) (fun hq571=>?_)
 replace hb:=tt hq571 hb
 refine Wc.seq fun _ hK572=>rg<|lp (iv 13) (qab rfl)<|ln (hK572 _ _ ?_)
 obtain rfl:=os hb
 subst hI
 refine Wc.ret (hKR _ _ ?_)
 refine ⟨_,res1 results54 (tV (iv 13) rfl),_,rfl,rfl,(show I64 13 from by unfold I64; omega),hr566,hC.sE [3]⟩
 replace hb:=tf hq571 hb
 refine Wc.skip (hK569 _ _ ?_)
 refine Wc.seq fun _ hK573=>rg<|lp (iv 0) (qab rfl)<|ln (hK573 _ _ ?_)
 obtain rfl:=os hb
 subst hI
 refine Wc.ret (hKR _ _ ?_)
 refine ⟨_,res1 results54 (tV (iv 0) rfl),_,rfl,rfl,(show I64 0 from by unfold I64; omega),hr566,hC.sE [3]⟩
