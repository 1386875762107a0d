import Derived.Test.YteajmbanlohncaaS
import Derived.Test.YteajmbanlohncaaG8
import Derived.Test.YteajmbanlohncaaG13
set_option linter.unusedVariables false
set_option linter.unusedSimpArgs false
namespace Go.Proofs.Yteajmbanlohncaa
open Ev Try
set_option maxRecDepth 100000
set_option maxHeartbeats 4000000
theorem ref46_at_ok (n:Nat) {w:World} {O0:List Nat} (hO: ∀k∈O0,k<w.heap.size) {x:Int} (R:I64 x) {y:Int} (S:I64 y) {l:Int} (K:I64 l) {m:Int} (L:I64 m) {p:Int} (M:I64 p) {q:Int} (N:I64 q) {s:Int} (P:I64 s) {u:Int} (Q:I64 u) {z:Int} (T:I64 z) {A:Int} (U:I64 A) {c:Int} (B:I64 c) {d:Int} (C:I64 d) {f:Int} (D:I64 f) {g:Int} (G:I64 g) {h:Int} (H:I64 h) {j:Int} (J:I64 j) {r:Int×Int} (hb:F.ref46_at n x y l m p q s u z A c d f g h j=some r):
    Calls prog 60 #[.agg #[iv x,iv y,iv l,iv m,iv p,iv q,iv s,iv u],.agg #[iv z,iv A,iv c,iv d,iv f,iv g,iv h,iv j]] w fun e w'=> ∃v,e=.returned v∧v=.tuple #[iv r.1,iv r.2]∧I64 r.1∧I64 r.2∧Cx (fun _=>False) O0 w w' []:=by
 unfold F.ref46_at at hb
 have hC:=Cx.start hO
 clear hO
 refine calls_of_Wc func60 rfl (by rw [ntmps60]; exact nb rfl) fun KR hKR=>?_
 refine Wc.seq fun _ hK1=>rg<|lex.op (hC.box (cs:=[iv x,iv y,iv l,iv m,iv p,iv q,iv s,iv u]) rfl rfl) ?_
 rintro _ w3 ⟨g2,rfl,hC,hF,-⟩
 refine lex.op (hC.box (cs:=[iv z,iv A,iv c,iv d,iv f,iv g,iv h,iv j]) rfl rfl) ?_
 rintro _ w6 ⟨g5,rfl,hC,hF,-⟩
 refine lp (iv 0) (pu_assign rfl)<|lp (iv 0) (pu_assign rfl)<|ln (hK1 _ _ ?_)
 refine Wc.seq fun _ hK8=>?_
 refine Wc.regionMix [] (frm [] ([]:List Fact) ([]:List Fact)) (fun _=>rfl) mixed (by decide+kernel) (by decide+kernel) fun w10 hw9=>?_
 replace hC:=hC.step (Fr.of_drew hw9)
 have hM:=Fr.refl (fun k=>k∈blocks ([]:List Fact)) w10
 clear hw9
 have hS:=hC
 refine mp (.pointer (some ((⟨g5,0,none⟩:Addr).add 2))) (pu_field (sz:=3) underlying82 rfl sizeOf23 (by decide) rfl rfl)<|mixE.load hM (v:=.agg #[iv c,iv d,iv f]) (fun _ hF=>ld_part (o:=2) (hS.bx2 (i:=0) rfl [] (by decide) hF) isAgg23 sizeOf23 rfl rfl rfl)<|mp (.pointer (some ((⟨g5,0,none⟩:Addr).add 5))) (pu_field (sz:=3) underlying82 rfl sizeOf23 (by decide) rfl rfl)<|mixE.load hM (v:=.agg #[iv g,iv h,iv j]) (fun _ hF=>ld_part (o:=5) (hS.bx2 (i:=0) rfl [] (by decide) hF) isAgg23 sizeOf23 rfl rfl rfl)<|mp (.pointer (some ((⟨g2,0,none⟩:Addr).add 2))) (pu_field (sz:=3) underlying82 rfl sizeOf23 (by decide) rfl rfl)<|mixE.load hM (v:=.agg #[iv l,iv m,iv p]) (fun _ hF=>ld_part (o:=2) (hS.bx2 (i:=1) rfl [] (by decide) hF) isAgg23 sizeOf23 rfl rfl rfl) ?_
 obtain ⟨y11,h12,hb⟩:=bd hb
 refine mixE.cl hM (⟨_,_,op_call (vs:=[.agg #[iv c,iv d,iv f],.agg #[iv g,iv h,iv j],.agg #[iv l,iv m,iv p]]) call49 rfl rfl rfl,ref46_turn_ok n hC.lt B C D G H J K L M h12⟩) ?_
 rintro _ w14 ⟨rfl,hr13,hK⟩
 replace hM:=hM.none hK.fr
 refine ⟨hM,?_⟩
 replace hC:=hC.merge hK
 clear hK
 refine mp (.pointer (some ((⟨g5,0,none⟩:Addr).add 2))) (pu_field (sz:=3) underlying82 rfl sizeOf23 (by decide) rfl rfl)<|mixE.load hM (v:=.agg #[iv c,iv d,iv f]) (fun _ hF=>ld_part (o:=2) (hS.bx2 (i:=0) rfl [] (by decide) hF) isAgg23 sizeOf23 rfl rfl rfl)<|mp (.pointer (some ((⟨g5,0,none⟩:Addr).add 5))) (pu_field (sz:=3) underlying82 rfl sizeOf23 (by decide) rfl rfl)<|mixE.load hM (v:=.agg #[iv g,iv h,iv j]) (fun _ hF=>ld_part (o:=5) (hS.bx2 (i:=0) rfl [] (by decide) hF) isAgg23 sizeOf23 rfl rfl rfl)<|mp (.pointer (some ((⟨g2,0,none⟩:Addr).add 5))) (pu_field (sz:=3) underlying82 rfl sizeOf23 (by decide) rfl rfl)<|mixE.load hM (v:=.agg #[iv q,iv s,iv u]) (fun _ hF=>ld_part (o:=5) (hS.bx2 (i:=1) rfl [] (by decide) hF) isAgg23 sizeOf23 rfl rfl rfl) ?_
 obtain ⟨y15,h16,hb⟩:=bd hb
 refine mixE.cl hM (⟨_,_,op_call (vs:=[.agg #[iv c,iv d,iv f],.agg #[iv g,iv h,iv j],.agg #[iv q,iv s,iv u]]) call49 rfl rfl rfl,ref46_turn_ok n hC.lt B C D G H J N P Q h16⟩) ?_
 rintro _ w18 ⟨rfl,hr17,hK⟩
 replace hM:=hM.none hK.fr
 refine ⟨hM,?_⟩
 replace hC:=hC.merge hK
 clear hK
 refine mp (iv y11) (pu_assign rfl)<|mp (iv y15) (pu_assign rfl)<|mixE.nil ?_
 clear hS hM
 refine hK8 _ _<|Wc.fresh fun E19 hE=>?_
 have e4:E19 4=iv 0:=cg hE 4 rfl
 have e5:E19 5=iv 0:=cg hE 5 rfl
 have e6:E19 6=iv y11:=cg hE 6 rfl
 have e7:E19 7=iv y15:=cg hE 7 rfl
 clear hE
 refine Wc.seq fun _ hK20=>?_
 refine Wc.seq fun _ hK21=>rg<|lp _ (pu_move e6)<|lp _ (pu_move e7) ?_
 obtain ⟨z22,h23,hb⟩:=bd hb
 refine lp (iv z22) (pu_subc (a:=y11) (b:=y15) rfl rfl h23)<|lp (.bool (decide (z22<0))) (pu_lss (k:=.i64) (a:=z22) (b:=0) rfl rfl)<|ln (hK21 _ _ ?_)
 refine Wc.cond (t:=(decide (z22<0))) (rfl) (fun hq24=>?_) (fun hq24=>?_)
 replace hb:=tt hq24 hb
 refine Wc.seq fun _ hK25=>rg<|lp _ (pu_move e6) ?_
 obtain ⟨z26,h27,hb⟩:=bd hb
 refine lp (iv z26) (pu_subc (a:=0) (b:=y11) rfl rfl h27)<|lp _ (pu_move e7)<|lp _ (pu_move e6) ?_
 obtain ⟨z28,h29,hb⟩:=bd hb
 refine lp (iv z28) (pu_subc (a:=y15) (b:=y11) rfl rfl h29)<|lp (iv z26) (pu_assign rfl)<|lp (iv z28) (pu_assign rfl)<|ln (hK25 _ _ ?_)
 obtain rfl:=os hb
 refine Wc.ret (hKR _ _ ?_)
 refine ⟨_,res2 results60 (tV (iv z26) rfl) (tV (iv z28) rfl),_,rfl,rfl,(chk_rng h27),(chk_rng h29),hC.sE []⟩
 replace hb:=tf hq24 hb
 refine Wc.skip (hK20 _ _ ?_)
 refine Wc.seq fun _ hK30=>rg<|lp _ (pu_move e6)<|lp _ (pu_move e6)<|lp _ (pu_move e7) ?_
 obtain ⟨z31,h32,hb⟩:=bd hb
 refine lp (iv z31) (pu_subc (a:=y11) (b:=y15) rfl rfl h32)<|lp (iv y11) (pu_assign rfl)<|lp (iv z31) (pu_assign rfl)<|ln (hK30 _ _ ?_)
 obtain rfl:=os hb
 refine Wc.ret (hKR _ _ ?_)
 refine ⟨_,res2 results60 (tV (iv y11) rfl) (tV (iv z31) rfl),_,rfl,rfl,hr13,(chk_rng h32),hC.sE []⟩

theorem ref46_sorted_ok (n:Nat) {w:World} {O0:List Nat} (hO: ∀k∈O0,k<w.heap.size) {s:Option Addr} {D x:Nat} {z:List (List (Int×(Int×Int)))} (G:Rep O0 w (.sl (.sl (.pr si (.pr si si)))) [.slice s D x] z) {l:Option Addr} {B h:Nat} {g:List (Int×(Int×((Int×(Int×Int))×(Int×(Int×Int)))))} (C:Rep O0 w (.sl (.pr si (.pr si (.pr (.pr si (.pr si si)) (.pr si (.pr si si)))))) [.slice l B h] g) {p:Int} (H:I64 p) {r:(List Int)} (hb:F.ref46_sorted n z g p=some r):
    Calls prog 61 #[.slice s D x,.slice l B h,iv p] w fun e w'=> ∃v,e=.returned v∧∃(A0:Option Addr) (m0 c0:Nat),v=.slice A0 m0 c0∧Cx (fun _=>False) O0 w w' [.own 3 si (.slice A0 m0 c0) r]:=by
 unfold F.ref46_sorted at hb
 have hC:=Cx.start hO
 replace hC:=hC.arg rfl G
 replace hC:=hC.arg rfl C
 clear hO
 obtain ⟨rfl,L,M⟩:=G.sl_len
 obtain ⟨rfl,J,K⟩:=C.sl_len
 refine calls_of_Wc func61 rfl (by rw [ntmps61]; exact nb rfl) fun KR hKR=>?_
 refine Wc.seq fun _ hK3=>rg<|lp (.slice none 0 0) (pu_assign rfl)<|ln (hK3 _ _ ?_)
 refine Wc.seq fun _ hK4=>rg<|lp (.slice s z.length x) (pu_move rfl)<|lp (.slice l g.length h) (pu_move rfl)<|lp (iv p) (pu_move rfl) ?_
 obtain ⟨y5,h6,hb⟩:=bd hb
 refine lex.cl (⟨_,_,op_call (vs:=[.slice s z.length x,.slice l g.length h,iv p]) call59 rfl rfl rfl,ref46_crossers_ok n hC.lt (hC.rd (i:=1) rfl) (hC.rd (i:=0) rfl) H h6⟩) ?_
 rintro _ w11 ⟨A7,m8,c9,rfl,hK⟩
 replace hC:=hC.merge hK
 clear hK
 obtain ⟨rfl,hl12,hc13⟩:=(hC.ow (i:=0) rfl).sl_len
 refine lp (.slice A7 y5.length c9) (pu_assign rfl)<|ln (hK4 _ _ ?_)
 refine Wc.seq fun _ hK14=>?_
 refine Wc.seq fun _ hK15=>rg<|lp (iv 1) (pu_assign rfl)<|ln (hK15 _ _ ?_)
 obtain ⟨o16,hl0,f16,hf16,hb⟩:=bn hb
 refine Wc.cut (fun E wv=> ∃(f:Int) (o:List Int),E 6=.slice none 0 0∧E 7=.slice A7 y5.length c9∧I64 f∧Cx (fun _=>False) O0 w wv [.own 3 si (.slice A7 y5.length c9) o]∧f16 (f,o)=some r) (fun _ hK17=>?_) ?_
 refine Wc.block ?_
 refine Wc.loop (fun m E wv=> ∃(f:Int) (o:List Int),E 1=.slice l g.length h∧E 2=iv p∧E 6=.slice none 0 0∧E 7=.slice A7 y5.length c9∧E 8=iv f∧I64 f∧Cx (fun _=>False) O0 w wv [.ro (.sl (.pr si (.pr si (.pr (.pr si (.pr si si)) (.pr si (.pr si si)))))) [.slice l g.length h] g,.own 3 si (.slice A7 y5.length c9) o]∧loopN m (F.ref46_sorted_b0 n g p y5) (f,o)=some o16) n ⟨1,y5,rfl,rfl,rfl,rfl,rfl,(show I64 1 from by unfold I64; omega),hC.sE [1,0],hl0⟩ ?_
 have hbK0:=hb
 clear hb hC hl0
 rintro m19 E21 w20 ⟨f,o,e1,e2,e6,e7,e8,q,hC,hl0⟩ K18 hK18
 obtain ⟨m19',o22,rfl,hb,hl0⟩:=loopN_some hl0
 unfold F.ref46_sorted_b0 at hb
 refine Wc.seq fun _ hK23=>?_
 refine Wc.seq fun _ hK24=>rg<|lp _ (pu_move e8)<|lp _ (pu_move e7)<|lp (iv (y5.length:Int)) (pu_len (A:=A7) (n:=y5.length) (m:=c9) underlying30 rfl)<|lp (.bool (decide (f<(y5.length:Int)))) (pu_lss (k:=.i64) (a:=f) (b:=(y5.length:Int)) rfl rfl)<|ln (hK24 _ _ ?_)
 refine Wc.cond (t:=(decide (f<(y5.length:Int)))) (rfl) (fun hq25=>?_) (fun hq25=>?_)
 replace hb:=tt hq25 hb
 refine Wc.skip (hK23 _ _ ?_)
 refine Wc.seq fun _ hK26=>?_
 refine Wc.block<|Wc.seq fun _ hK27=>rg<|lp _ (pu_move e8)<|lp (iv f) (pu_assign rfl)<|ln (hK27 _ _ ?_)
 obtain ⟨o28,hl1,hb⟩:=bd hb
 refine Wc.cut (fun E wv=> ∃(c:Int) (d:List Int),E 1=.slice l g.length h∧E 2=iv p∧E 6=.slice none 0 0∧E 7=.slice A7 y5.length c9∧E 8=iv f∧E 9=iv c∧E 21=.bool (decide (f<(y5.length:Int)))∧I64 c∧Cx (fun _=>False) O0 w wv [.ro (.sl (.pr si (.pr si (.pr (.pr si (.pr si si)) (.pr si (.pr si si)))))) [.slice l g.length h] g,.own 3 si (.slice A7 y5.length c9) d]∧((chk (f+1)).bind fun z260=>some (.inl (z260,d)):Option ((Int×(List Int))⊕((Int×(List Int)))))=some o22) (fun _ hK29=>?_) ?_
 refine Wc.block ?_
 refine Wc.loop (fun m E wv=> ∃(c:Int) (d:List Int),E 1=.slice l g.length h∧E 2=iv p∧E 6=.slice none 0 0∧E 7=.slice A7 y5.length c9∧E 8=iv f∧E 9=iv c∧E 21=.bool (decide (f<(y5.length:Int)))∧I64 c∧Cx (fun _=>False) O0 w wv [.ro (.sl (.pr si (.pr si (.pr (.pr si (.pr si si)) (.pr si (.pr si si)))))) [.slice l g.length h] g,.own 3 si (.slice A7 y5.length c9) d]∧loopN m (F.ref46_sorted_b1 n g p) (c,d)=some o28) n ⟨f,o,e1,e2,e6,e7,e8,rfl,rfl,q,hC.sE [0,1],hl1⟩ ?_
 have hbK1:=hb
 clear hb hC hl1
 rintro m31 E33 w32 ⟨c,d,e1,e2,e6,e7,e8,e9,e21,y,hC,hl1⟩ K30 hK30
 obtain ⟨m31',o34,rfl,hb,hl1⟩:=loopN_some hl1
 unfold F.ref46_sorted_b1 at hb
 refine Wc.seq fun _ hK35=>?_
 refine Wc.seq fun _ hK36=>rg<|lp _ (pu_move e9)<|lp (.bool (decide (0<c))) (pu_gtr (k:=.i64) (a:=c) (b:=0) rfl rfl)<|ln (hK36 _ _ ?_)
 refine Wc.cond (t:=(decide (0<c))) (rfl) (fun hq37=>?_) (fun hq37=>?_)
 replace hb:=tt hq37 hb
 refine Wc.skip (hK35 _ _ ?_)
 refine Wc.seq fun _ hK38=>?_
 refine Wc.block ?_
 refine Wc.seq fun _ hK39=>?_
 refine Wc.regionMix [] (frm [] ([]:List Fact) ([]:List Fact)) (fun _=>rfl) mixed (by decide+kernel) (by decide+kernel) fun w41 hw40=>?_
 replace hC:=hC.step (Fr.of_drew hw40)
 have hM:=Fr.refl (fun k=>k∈blocks ([]:List Fact)) w41
 clear hw40
 have hS:=hC
 refine mp (.slice l g.length h) (pu_move e1)<|mp (iv p) (pu_move e2) ?_
 obtain ⟨x42,h43,hb⟩:=bd hb
 obtain ⟨ad44,cs45,hA,ho48,hc46,hr47⟩:=hS.elr2 (i:=0) rfl (get_some h43).2 []
 subst hA
 refine mp (.pointer (some (ad44.add (p.toNat*8)))) (pu_index (a:=p) underlying79 sizeOf82 rfl rfl (get_some h43).1) ?_
 obtain ⟨k49,k50,rfl,hr51,hr52⟩:=hr47
 obtain ⟨rfl,hr51⟩:=hr51
 obtain ⟨k53,k54,rfl,hr55,hr56⟩:=hr52
 obtain ⟨rfl,hr55⟩:=hr55
 obtain ⟨k57,k58,rfl,hr59,hr60⟩:=hr56
 obtain ⟨k61,k62,rfl,hr63,hr64⟩:=hr59
 obtain ⟨rfl,hr63⟩:=hr63
 obtain ⟨k65,k66,rfl,hr67,hr68⟩:=hr64
 obtain ⟨rfl,hr67⟩:=hr67
 obtain ⟨rfl,hr68⟩:=hr68
 obtain ⟨k69,k70,rfl,hr71,hr72⟩:=hr60
 obtain ⟨rfl,hr71⟩:=hr71
 obtain ⟨k73,k74,rfl,hr75,hr76⟩:=hr72
 obtain ⟨rfl,hr75⟩:=hr75
 obtain ⟨rfl,hr76⟩:=hr76
 refine mixE.load hM (v:=.agg #[iv x42.1,iv x42.2.1,iv x42.2.2.1.1,iv x42.2.2.1.2.1,iv x42.2.2.1.2.2,iv x42.2.2.2.1,iv x42.2.2.2.2.1,iv x42.2.2.2.2.2]) (fun _ hF=>ld_agg isAgg82 sizeOf82 rfl rfl (fun j u hu=>hF.cell (hc46 j u hu) (off2 ho48)))<|mp (.slice (some ad44) g.length h) (pu_move e1)<|mp (.slice A7 y5.length c9) (pu_move e7)<|mp (iv c) (pu_move e9) ?_
 obtain ⟨x77,h78,hb⟩:=bd hb
 obtain ⟨ad79,cs80,hA,ho83,hc81,hr82⟩:=hS.elo2 (i:=1) rfl (get_some h78).2 [] (by decide)
 subst hA
 refine mp (.pointer (some (ad79.add (c.toNat*1)))) (pu_index (a:=c) underlying30 sizeOf3 rfl rfl (by rw [(hC.ow (i:=1) rfl).sl_len.1]; exact (get_some h78).1)) ?_
 obtain ⟨rfl,hr82'⟩:=hr82
 refine mixE.load hM (v:=iv x77) (fun _ hF=>ld_one isAgg3 rfl (hF.cell (hc81 0 _ rfl) (off1 ho83))) ?_
 obtain ⟨x84,h85,hb⟩:=bd hb
 obtain ⟨ad86,cs87,hA,ho90,hc88,hr89⟩:=hS.elr2 (i:=0) rfl (get_some h85).2 []
 obtain rfl:=Option.some.inj hA
 refine mp (.pointer (some (ad44.add (x77.toNat*8)))) (pu_index (a:=x77) underlying79 sizeOf82 rfl rfl (get_some h85).1) ?_
 obtain ⟨k91,k92,rfl,hr93,hr94⟩:=hr89
 obtain ⟨rfl,hr93⟩:=hr93
 obtain ⟨k95,k96,rfl,hr97,hr98⟩:=hr94
 obtain ⟨rfl,hr97⟩:=hr97
 obtain ⟨k99,k100,rfl,hr101,hr102⟩:=hr98
 obtain ⟨k103,k104,rfl,hr105,hr106⟩:=hr101
 obtain ⟨rfl,hr105⟩:=hr105
 obtain ⟨k107,k108,rfl,hr109,hr110⟩:=hr106
 obtain ⟨rfl,hr109⟩:=hr109
 obtain ⟨rfl,hr110⟩:=hr110
 obtain ⟨k111,k112,rfl,hr113,hr114⟩:=hr102
 obtain ⟨rfl,hr113⟩:=hr113
 obtain ⟨k115,k116,rfl,hr117,hr118⟩:=hr114
 obtain ⟨rfl,hr117⟩:=hr117
 obtain ⟨rfl,hr118⟩:=hr118
 refine mixE.load hM (v:=.agg #[iv x84.1,iv x84.2.1,iv x84.2.2.1.1,iv x84.2.2.1.2.1,iv x84.2.2.1.2.2,iv x84.2.2.2.1,iv x84.2.2.2.2.1,iv x84.2.2.2.2.2]) (fun _ hF=>ld_agg isAgg82 sizeOf82 rfl rfl (fun j u hu=>hF.cell (hc88 j u hu) (off2 ho90))) ?_
 obtain ⟨y119,h120,hb⟩:=bd hb
 refine mixE.cl hM (⟨_,_,op_call (vs:=[.agg #[iv x42.1,iv x42.2.1,iv x42.2.2.1.1,iv x42.2.2.1.2.1,iv x42.2.2.1.2.2,iv x42.2.2.2.1,iv x42.2.2.2.2.1,iv x42.2.2.2.2.2],.agg #[iv x84.1,iv x84.2.1,iv x84.2.2.1.1,iv x84.2.2.1.2.1,iv x84.2.2.1.2.2,iv x84.2.2.2.1,iv x84.2.2.2.2.1,iv x84.2.2.2.2.2]]) call60 rfl rfl rfl,ref46_at_ok n hC.lt (wrap_I64 hr51) (wrap_I64 hr55) (wrap_I64 hr63) (wrap_I64 hr67) (wrap_I64 hr68) (wrap_I64 hr71) (wrap_I64 hr75) (wrap_I64 hr76) (wrap_I64 hr93) (wrap_I64 hr97) (wrap_I64 hr105) (wrap_I64 hr109) (wrap_I64 hr110) (wrap_I64 hr113) (wrap_I64 hr117) (wrap_I64 hr118) h120⟩) ?_
 rintro _ w123 ⟨rfl,hr121,hr122,hK⟩
 replace hM:=hM.none hK.fr
 refine ⟨hM,?_⟩
 replace hC:=hC.merge hK
 clear hK
 refine mp (.tuple #[iv y119.1,iv y119.2]) (pu_move rfl)<|mp (iv y119.1) (pu_extract rfl rfl)<|mp (iv y119.2) (pu_extract rfl rfl)<|mp (iv y119.1) (pu_assign rfl)<|mp (iv y119.2) (pu_assign rfl)<|mixE.nil ?_
 clear hS hM
 refine hK39 _ _<|Wc.fresh fun E124 hE=>?_
 have e1:=cg hE 1 e1
 have e2:=cg hE 2 e2
 have e6:=cg hE 6 e6
 have e7:=cg hE 7 e7
 have e8:=cg hE 8 e8
 have e9:=cg hE 9 e9
 have e10:E124 10=iv y119.1:=cg hE 10 rfl
 have e11:E124 11=iv y119.2:=cg hE 11 rfl
 have e21:=cg hE 21 e21
 have e26:E124 26=.bool (decide (0<c)):=cg hE 26 rfl
 clear hE
 refine Wc.seq fun _ hK125=>?_
 refine Wc.regionMix [] (frm [] ([]:List Fact) ([]:List Fact)) (fun _=>rfl) mixed (by decide+kernel) (by decide+kernel) fun w127 hw126=>?_
 replace hC:=hC.step (Fr.of_drew hw126)
 have hM:=Fr.refl (fun k=>k∈blocks ([]:List Fact)) w127
 clear hw126
 have hS:=hC
 refine mp (.slice (some ad44) g.length h) (pu_move e1)<|mp (iv p) (pu_move e2) ?_
 obtain ⟨x128,h129,hb⟩:=bd hb
 obtain ⟨ad130,cs131,hA,ho134,hc132,hr133⟩:=hS.elr2 (i:=0) rfl (get_some h129).2 []
 obtain rfl:=Option.some.inj hA
 refine mp (.pointer (some (ad44.add (p.toNat*8)))) (pu_index (a:=p) underlying79 sizeOf82 rfl rfl (get_some h129).1) ?_
 obtain ⟨k135,k136,rfl,hr137,hr138⟩:=hr133
 obtain ⟨rfl,hr137⟩:=hr137
 obtain ⟨k139,k140,rfl,hr141,hr142⟩:=hr138
 obtain ⟨rfl,hr141⟩:=hr141
 obtain ⟨k143,k144,rfl,hr145,hr146⟩:=hr142
 obtain ⟨k147,k148,rfl,hr149,hr150⟩:=hr145
 obtain ⟨rfl,hr149⟩:=hr149
 obtain ⟨k151,k152,rfl,hr153,hr154⟩:=hr150
 obtain ⟨rfl,hr153⟩:=hr153
 obtain ⟨rfl,hr154⟩:=hr154
 obtain ⟨k155,k156,rfl,hr157,hr158⟩:=hr146
 obtain ⟨rfl,hr157⟩:=hr157
 obtain ⟨k159,k160,rfl,hr161,hr162⟩:=hr158
 obtain ⟨rfl,hr161⟩:=hr161
 obtain ⟨rfl,hr162⟩:=hr162
 refine mixE.load hM (v:=.agg #[iv x128.1,iv x128.2.1,iv x128.2.2.1.1,iv x128.2.2.1.2.1,iv x128.2.2.1.2.2,iv x128.2.2.2.1,iv x128.2.2.2.2.1,iv x128.2.2.2.2.2]) (fun _ hF=>ld_agg isAgg82 sizeOf82 rfl rfl (fun j u hu=>hF.cell (hc132 j u hu) (off2 ho134)))<|mp (.slice (some ad44) g.length h) (pu_move e1)<|mp (.slice (some ad79) y5.length c9) (pu_move e7)<|mp (iv c) (pu_move e9) ?_
 obtain ⟨z163,h164,hb⟩:=bd hb
 refine mp (iv z163) (pu_subc (a:=c) (b:=1) rfl rfl h164) ?_
 obtain ⟨x165,h166,hb⟩:=bd hb
 obtain ⟨ad167,cs168,hA,ho171,hc169,hr170⟩:=hS.elo2 (i:=1) rfl (get_some h166).2 [] (by decide)
 obtain rfl:=Option.some.inj hA
 refine mp (.pointer (some (ad79.add (z163.toNat*1)))) (pu_index (a:=z163) underlying30 sizeOf3 rfl rfl (by rw [(hC.ow (i:=1) rfl).sl_len.1]; exact (get_some h166).1)) ?_
 obtain ⟨rfl,hr170'⟩:=hr170
 refine mixE.load hM (v:=iv x165) (fun _ hF=>ld_one isAgg3 rfl (hF.cell (hc169 0 _ rfl) (off1 ho171))) ?_
 obtain ⟨x172,h173,hb⟩:=bd hb
 obtain ⟨ad174,cs175,hA,ho178,hc176,hr177⟩:=hS.elr2 (i:=0) rfl (get_some h173).2 []
 obtain rfl:=Option.some.inj hA
 refine mp (.pointer (some (ad44.add (x165.toNat*8)))) (pu_index (a:=x165) underlying79 sizeOf82 rfl rfl (get_some h173).1) ?_
 obtain ⟨k179,k180,rfl,hr181,hr182⟩:=hr177
 obtain ⟨rfl,hr181⟩:=hr181
 obtain ⟨k183,k184,rfl,hr185,hr186⟩:=hr182
 obtain ⟨rfl,hr185⟩:=hr185
 obtain ⟨k187,k188,rfl,hr189,hr190⟩:=hr186
 obtain ⟨k191,k192,rfl,hr193,hr194⟩:=hr189
 obtain ⟨rfl,hr193⟩:=hr193
 obtain ⟨k195,k196,rfl,hr197,hr198⟩:=hr194
 obtain ⟨rfl,hr197⟩:=hr197
 obtain ⟨rfl,hr198⟩:=hr198
 obtain ⟨k199,k200,rfl,hr201,hr202⟩:=hr190
 obtain ⟨rfl,hr201⟩:=hr201
 obtain ⟨k203,k204,rfl,hr205,hr206⟩:=hr202
 obtain ⟨rfl,hr205⟩:=hr205
 obtain ⟨rfl,hr206⟩:=hr206
 refine mixE.load hM (v:=.agg #[iv x172.1,iv x172.2.1,iv x172.2.2.1.1,iv x172.2.2.1.2.1,iv x172.2.2.1.2.2,iv x172.2.2.2.1,iv x172.2.2.2.2.1,iv x172.2.2.2.2.2]) (fun _ hF=>ld_agg isAgg82 sizeOf82 rfl rfl (fun j u hu=>hF.cell (hc176 j u hu) (off2 ho178))) ?_
 obtain ⟨y207,h208,hb⟩:=bd hb
 refine mixE.cl hM (⟨_,_,op_call (vs:=[.agg #[iv x128.1,iv x128.2.1,iv x128.2.2.1.1,iv x128.2.2.1.2.1,iv x128.2.2.1.2.2,iv x128.2.2.2.1,iv x128.2.2.2.2.1,iv x128.2.2.2.2.2],.agg #[iv x172.1,iv x172.2.1,iv x172.2.2.1.1,iv x172.2.2.1.2.1,iv x172.2.2.1.2.2,iv x172.2.2.2.1,iv x172.2.2.2.2.1,iv x172.2.2.2.2.2]]) call60 rfl rfl rfl,ref46_at_ok n hC.lt (wrap_I64 hr137) (wrap_I64 hr141) (wrap_I64 hr149) (wrap_I64 hr153) (wrap_I64 hr154) (wrap_I64 hr157) (wrap_I64 hr161) (wrap_I64 hr162) (wrap_I64 hr181) (wrap_I64 hr185) (wrap_I64 hr193) (wrap_I64 hr197) (wrap_I64 hr198) (wrap_I64 hr201) (wrap_I64 hr205) (wrap_I64 hr206) h208⟩) ?_
 rintro _ w211 ⟨rfl,hr209,hr210,hK⟩
 replace hM:=hM.none hK.fr
 refine ⟨hM,?_⟩
 replace hC:=hC.merge hK
 clear hK
 refine mp (.tuple #[iv y207.1,iv y207.2]) (pu_move rfl)<|mp (iv y207.1) (pu_extract rfl rfl)<|mp (iv y207.2) (pu_extract rfl rfl)<|mp (iv y207.1) (pu_assign rfl)<|mp (iv y207.2) (pu_assign rfl)<|mixE.nil ?_
 clear hS hM
 refine hK125 _ _<|Wc.fresh fun E212 hE=>?_
 have e1:=cg hE 1 e1
 have e2:=cg hE 2 e2
 have e6:=cg hE 6 e6
 have e7:=cg hE 7 e7
 have e8:=cg hE 8 e8
 have e9:=cg hE 9 e9
 have e10:=cg hE 10 e10
 have e11:=cg hE 11 e11
 have e12:E212 12=iv y207.1:=cg hE 12 rfl
 have e13:E212 13=iv y207.2:=cg hE 13 rfl
 have e21:=cg hE 21 e21
 have e26:=cg hE 26 e26
 clear hE
 refine Wc.seq fun _ hK213=>rg<|lp _ (pu_move e10)<|lp _ (pu_move e13) ?_
 obtain ⟨z214,h215,hb⟩:=bd hb
 refine lp (iv z214) (pu_mulc (a:=y119.1) (b:=y207.2) rfl rfl h215)<|lp _ (pu_move e12)<|lp _ (pu_move e11) ?_
 obtain ⟨z216,h217,hb⟩:=bd hb
 refine lp (iv z216) (pu_mulc (a:=y207.1) (b:=y119.2) rfl rfl h217)<|lp (.bool (decide (z214<z216))) (pu_lss (k:=.i64) (a:=z214) (b:=z216) rfl rfl)<|ln (hK213 _ _ ?_)
 refine Wc.cond (t:=(decide (z214<z216))) (rfl) (fun hq218=>?_) (fun hq218=>?_)
 replace hb:=tt hq218 hb
 refine Wc.regionMix [] (frm [] ([]:List Fact) [.own 3 si (.slice (some ad79) y5.length c9) d]) (fun _=>rfl) mixed (by decide+kernel) (by decide+kernel) fun w220 hw219=>?_
 replace hC:=hC.step (Fr.of_drew hw219)
 have hM:=Fr.refl (fun k=>k∈blocks ([]:List Fact)) w220
 clear hw219
 have hS:=hC
 have hD:Fr (fun k=>k∈blocks (([]:List Fact)++[.own 3 si (.slice (some ad79) y5.length c9) d])) w220 w220:=hM.wide
 have hUf10:Beside (([]:List Fact)++[.own 3 si (.slice (some ad79) y5.length c9) d]) w220 (.slice (some ad79) y5.length c9):=Beside.of (i:=0) rfl
 refine mp (.slice (some ad79) y5.length c9) (pu_move e7)<|mp (iv c) (pu_move e9)<|mp (.slice (some ad79) y5.length c9) (pu_move e7)<|mp (iv c) (pu_move e9) ?_
 obtain ⟨z221,h222,hb⟩:=bd hb
 refine mp (iv z221) (pu_subc (a:=c) (b:=1) rfl rfl h222)<|mp (.slice (some ad79) y5.length c9) (pu_move e7)<|mp (iv c) (pu_move e9) ?_
 obtain ⟨z223,h224,hb⟩:=bd hb
 refine mp (iv z223) (pu_subc (a:=c) (b:=1) rfl rfl h224) ?_
 obtain ⟨x225,h226,hb⟩:=bd hb
 obtain ⟨ad227,cs228,hA,ho231,hc229,hr230⟩:=hS.elo2 (i:=1) rfl (get_some h226).2 [] (by decide)
 obtain rfl:=Option.some.inj hA
 refine mp (.pointer (some (ad79.add (z223.toNat*1)))) (pu_index (a:=z223) underlying30 sizeOf3 rfl rfl (by rw [(hC.ow (i:=1) rfl).sl_len.1]; exact (get_some h226).1)) ?_
 obtain ⟨rfl,hr230'⟩:=hr230
 refine mixE.load hM (v:=iv x225) (fun _ hF=>ld_one isAgg3 rfl (hF.cell (hc229 0 _ rfl) (off1 ho231)))<|mp (.slice (some ad79) y5.length c9) (pu_move e7)<|mp (iv c) (pu_move e9) ?_
 obtain ⟨x232,h233,hb⟩:=bd hb
 obtain ⟨ad234,cs235,hA,ho238,hc236,hr237⟩:=hS.elo2 (i:=1) rfl (get_some h233).2 [] (by decide)
 obtain rfl:=Option.some.inj hA
 refine mp (.pointer (some (ad79.add (c.toNat*1)))) (pu_index (a:=c) underlying30 sizeOf3 rfl rfl (by rw [(hC.ow (i:=1) rfl).sl_len.1]; exact (get_some h233).1)) ?_
 obtain ⟨rfl,hr237'⟩:=hr237
 refine mixE.load hM (v:=iv x232) (fun _ hF=>ld_one isAgg3 rfl (hF.cell (hc236 0 _ rfl) (off1 ho238))) ?_
 obtain ⟨x239,h240,hb⟩:=bd hb
 obtain ⟨ad241,cs242,hA,ho245,hc243,hr244⟩:=hS.elo2 (i:=1) rfl (get_some h240).2 [] (by decide)
 obtain rfl:=Option.some.inj hA
 refine mp (.pointer (some (ad79.add (c.toNat*1)))) (pu_index (a:=c) underlying30 sizeOf3 rfl rfl (by rw [(hC.ow (i:=1) rfl).sl_len.1]; exact (get_some h240).1))<|mixE.sk hD (hC.put (i:=1) rfl rfl sizeOf3 (k:=c.toNat) (a:=x225) (by have:=(get_some h240).1; simp at this⊢; omega) (⟨rfl,I64.wr (wrap_I64 hr230')⟩) rfl rfl rfl) ?_
 rintro w246 ⟨hC,hF⟩
 replace hD:=hD.beside hUf10 hF
 clear hF
 refine ⟨hD,?_⟩
 obtain ⟨x247,h248,hb⟩:=bd hb
 obtain ⟨ad249,cs250,hA,hc251,hr252⟩:=hC.elo (i:=1) rfl (get_some h248).2
 obtain rfl:=Option.some.inj hA
 refine mp (.pointer (some (ad79.add (z221.toNat*1)))) (pu_index (a:=z221) underlying30 sizeOf3 rfl rfl (by rw [(hC.ow (i:=1) rfl).sl_len.1]; exact (get_some h248).1))<|mixE.sk hD (hC.put (i:=1) rfl rfl sizeOf3 (k:=z221.toNat) (a:=x232) (by have:=(get_some h248).1; simp at this⊢; omega) (⟨rfl,I64.wr (wrap_I64 hr237')⟩) rfl rfl rfl) ?_
 rintro w253 ⟨hC,hF⟩
 replace hD:=hD.beside hUf10 hF
 clear hF
 refine ⟨hD,?_⟩
 refine mixE.nil ?_
 clear hS hM
 clear hD
 refine hK38 _ _<|rg<|lp _ (pu_move e9) ?_
 obtain ⟨z254,h255,hb⟩:=bd hb
 refine lp (iv z254) (pu_subc (a:=c) (b:=1) rfl rfl h255)<|lp (iv z254) (pu_assign rfl)<|ln ?_
 obtain rfl:=os hb
 exact hK30 m31' _ _ (Nat.lt_succ_self _) ⟨z254,((d.set c.toNat x225).set z221.toNat x232),e1,e2,e6,e7,e8,rfl,e21,(chk_rng h255),hC.sE [0,1],lN hl1⟩
 replace hb:=tf hq218 hb
 refine Wc.skip (hK38 _ _ ?_)
 refine rg<|lp _ (pu_move e9) ?_
 obtain ⟨z256,h257,hb⟩:=bd hb
 refine lp (iv z256) (pu_subc (a:=c) (b:=1) rfl rfl h257)<|lp (iv z256) (pu_assign rfl)<|ln ?_
 obtain rfl:=os hb
 exact hK30 m31' _ _ (Nat.lt_succ_self _) ⟨z256,d,e1,e2,e6,e7,e8,rfl,e21,(chk_rng h257),hC.sE [0,1],lN hl1⟩
 replace hb:=tf hq37 hb
 refine Wc.exit rfl ?_
 obtain rfl:=os hb
 obtain rfl:=(lX hl1).symm
 exact hK29 _ _ ⟨c,d,e1,e2,e6,e7,e8,e9,e21,y,hC.sE [0,1],hbK1⟩
 clear hb hC hl1
 rintro E259 w258 ⟨c,d,e1,e2,e6,e7,e8,e9,e21,y,hC,hb⟩
 refine hK26 _ _<|rg<|lp _ (pu_move e8) ?_
 obtain ⟨z260,h261,hb⟩:=bd hb
 refine lp (iv z260) (pu_addc (a:=f) (b:=1) rfl rfl h261)<|lp (iv z260) (pu_assign rfl)<|ln ?_
 obtain rfl:=os hb
 exact hK18 m19' _ _ (Nat.lt_succ_self _) ⟨z260,d,e1,e2,e6,e7,rfl,(chk_rng h261),hC.sE [0,1],lN hl0⟩
 replace hb:=tf hq25 hb
 refine Wc.exit rfl ?_
 obtain rfl:=os hb
 obtain rfl:=(lX hl0).symm
 exact hK17 _ _ ⟨f,o,e6,e7,q,hC.sE [1],hbK0⟩
 clear hb hC hl0
 rintro E263 w262 ⟨f,o,e6,e7,q,hC,hb⟩
 subst hf16
 refine hK14 _ _<|Wc.seq fun _ hK264=>rg<|lp _ (pu_move e7)<|lp (.slice A7 y5.length c9) (pu_assign rfl)<|ln (hK264 _ _ ?_)
 obtain rfl:=os hb
 refine Wc.ret (hKR _ _ ?_)
 refine ⟨_,res1 results61 (tV (.slice A7 y5.length c9) rfl),_,rfl,A7,y5.length,c9,rfl,hC.sE [0]⟩

theorem ref02_ends_ok (n:Nat) {w:World} {O0:List Nat} (hO: ∀k∈O0,k<w.heap.size) {f:Option Addr} {j g:Nat} {h:List Int} (l:Rep O0 w (.sl si) [.slice f j g] h) {c:Int} (p:I64 c) {d:Bool} {r:Int×Int} (hb:F.ref02_ends n h c d=some r):
    Calls prog 63 #[.slice f j g,.agg #[iv c,.bool d]] w fun e w'=> ∃v,e=.returned v∧v=.tuple #[iv r.1,iv r.2]∧I64 r.1∧I64 r.2∧Cx (fun _=>False) O0 w w' []:=by
 unfold F.ref02_ends at hb
 have hC:=Cx.start hO
 replace hC:=hC.arg rfl l
 clear hO
 obtain ⟨rfl,m,o⟩:=l.sl_len
 refine calls_of_Wc func63 rfl (by rw [ntmps63]; exact nb rfl) fun KR hKR=>?_
 refine Wc.seq fun _ hK2=>rg<|lex.op (hC.box (cs:=[iv c,.bool d]) rfl rfl) ?_
 rintro _ w4 ⟨g3,rfl,hC,hF,-⟩
 refine lp (iv 0) (pu_assign rfl)<|lp (iv 0) (pu_assign rfl)<|ln (hK2 _ _ ?_)
 refine Wc.seq fun _ hK6=>rg<|lp (.pointer (some ((⟨g3,0,none⟩:Addr).add 0))) (pu_field (sz:=1) underlying89 rfl sizeOf3 (by decide) rfl rfl)<|lv (iv c) (ld_fld (hC.bx (i:=0) rfl) isAgg3 rfl rfl) ?_
 obtain ⟨z7,h8,hb⟩:=bd hb
 refine lp (iv z7) (pu_mulc (a:=4) (b:=c) rfl rfl h8)<|lp (iv z7) (pu_assign rfl)<|ln (hK6 _ _ ?_)
 refine Wc.seq fun _ hK9=>?_
 refine Wc.seq fun _ hK10=>rg<|lp (.pointer (some ((⟨g3,0,none⟩:Addr).add 1))) (pu_field (sz:=1) underlying89 rfl sizeOf4 (by decide) rfl rfl)<|lv (.bool d) (ld_fld (hC.bx (i:=0) rfl) isAgg4 rfl rfl)<|lp (.bool (!d)) (pu_not (q:=d) rfl)<|ln (hK10 _ _ ?_)
 refine Wc.fresh fun E11 hE=>?_
 have e0:E11 0=.slice f h.length g:=cg hE 0 rfl
 have e3:E11 3=pg g3:=cg hE 3 rfl
 have e4:E11 4=iv 0:=cg hE 4 rfl
 have e5:E11 5=iv 0:=cg hE 5 rfl
 have e6:E11 6=iv z7:=cg hE 6 rfl
 have e12:E11 12=.bool (!d):=cg hE 12 rfl
 clear hE
 refine Wc.cond (t:=(!d)) (e12) (fun hq12=>?_) (fun hq12=>?_)
 replace hb:=tt hq12 hb
 refine Wc.seq fun _ hK13=>rg<|lp _ (pu_move e6) ?_
 obtain ⟨z14,h15,hb⟩:=bd hb
 refine lp (iv z14) (pu_addc (a:=z7) (b:=2) rfl rfl h15)<|lp _ (pu_move e6)<|lp (iv z14) (pu_assign rfl)<|lp (iv z7) (pu_assign rfl)<|ln (hK13 _ _ ?_)
 obtain rfl:=os hb
 refine Wc.ret (hKR _ _ ?_)
 refine ⟨_,res2 results63 (tV (iv z14) rfl) (tV (iv z7) rfl),_,rfl,rfl,(chk_rng h15),(chk_rng h8),hC.sE []⟩
 replace hb:=tf hq12 hb
 refine Wc.skip (hK9 _ _ ?_)
 refine Wc.seq fun _ hK16=>?_
 refine Wc.seq fun _ hK17=>rg<|lp _ (pu_move e0)<|lp (.pointer (some ((⟨g3,0,none⟩:Addr).add 0))) (pu_field (sz:=1) underlying89 rfl sizeOf3 (by decide) rfl e3)<|lv (iv c) (ld_fld (hC.bx (i:=0) rfl) isAgg3 rfl rfl) ?_
 obtain ⟨x18,h19,hb⟩:=bd hb
 obtain ⟨ad20,cs21,hA,hc22,hr23⟩:=hC.elr (i:=1) rfl (get_some h19).2
 subst hA
 refine lp (.pointer (some (ad20.add (c.toNat*1)))) (pu_index (a:=c) underlying30 sizeOf3 rfl rfl (get_some h19).1) ?_
 obtain ⟨rfl,hr23'⟩:=hr23
 refine lv (iv x18) (ld_one isAgg3 rfl (hc22 0 _ rfl))<|lp (.bool (decide (x18=1))) (pu_eql (k:=.i64) (a:=x18) (b:=1) rfl rfl)<|ln (hK17 _ _ ?_)
 refine Wc.cond (t:=(decide (x18=1))) (rfl) (fun hq24=>?_) (fun hq24=>?_)
 replace hb:=tt hq24 hb
 refine Wc.seq fun _ hK25=>rg<|lp _ (pu_move e6) ?_
 obtain ⟨z26,h27,hb⟩:=bd hb
 refine lp (iv z26) (pu_addc (a:=z7) (b:=1) rfl rfl h27)<|lp _ (pu_move e6) ?_
 obtain ⟨z28,h29,hb⟩:=bd hb
 refine lp (iv z28) (pu_addc (a:=z7) (b:=3) rfl rfl h29)<|lp (iv z26) (pu_assign rfl)<|lp (iv z28) (pu_assign rfl)<|ln (hK25 _ _ ?_)
 obtain rfl:=os hb
 refine Wc.ret (hKR _ _ ?_)
 refine ⟨_,res2 results63 (tV (iv z26) rfl) (tV (iv z28) rfl),_,rfl,rfl,(chk_rng h27),(chk_rng h29),hC.sE []⟩
 replace hb:=tf hq24 hb
 refine Wc.skip (hK16 _ _ ?_)
 refine Wc.seq fun _ hK30=>rg<|lp _ (pu_move e6) ?_
 obtain ⟨z31,h32,hb⟩:=bd hb
 refine lp (iv z31) (pu_addc (a:=z7) (b:=3) rfl rfl h32)<|lp _ (pu_move e6) ?_
 obtain ⟨z33,h34,hb⟩:=bd hb
 refine lp (iv z33) (pu_addc (a:=z7) (b:=1) rfl rfl h34)<|lp (iv z31) (pu_assign rfl)<|lp (iv z33) (pu_assign rfl)<|ln (hK30 _ _ ?_)
 obtain rfl:=os hb
 refine Wc.ret (hKR _ _ ?_)
 refine ⟨_,res2 results63 (tV (iv z31) rfl) (tV (iv z33) rfl),_,rfl,rfl,(chk_rng h32),(chk_rng h34),hC.sE []⟩

theorem ref01_Ints_ok (n:Nat) {w:World} {O0:List Nat} (hO: ∀k∈O0,k<w.heap.size) {g:Option Addr} {p h:Nat} {d:List Int} (q:Rep O0 w (.sl si) [.slice g p h] d) {j:Option Addr} {s l:Nat} {f:List Int} (u:Rep O0 w (.sl si) [.slice j s l] f) {r:Bool} (hb:F.ref01_Ints n d f=some r):
    Calls prog 62 #[.slice g p h,.slice j s l] w fun e w'=> ∃v,e=.returned v∧v=.bool r∧Cx (fun _=>False) O0 w w' []:=by
 unfold F.ref01_Ints at hb
 have hC:=Cx.start hO
 replace hC:=hC.arg rfl q
 replace hC:=hC.arg rfl u
 clear hO
 obtain ⟨rfl,x,y⟩:=q.sl_len
 obtain ⟨rfl,z,B⟩:=u.sl_len
 refine calls_of_Wc func62 rfl (by rw [ntmps62]; exact nb rfl) fun KR hKR=>?_
 refine Wc.seq fun _ hK3=>rg<|lp (.bool false) (pu_assign rfl)<|ln (hK3 _ _ ?_)
 refine Wc.seq fun _ hK4=>?_
 refine Wc.seq fun _ hK5=>rg<|lp (.slice g d.length h) (pu_move rfl)<|lp (iv (d.length:Int)) (pu_len (A:=g) (n:=d.length) (m:=h) underlying30 rfl)<|lp (.slice j f.length l) (pu_move rfl)<|lp (iv (f.length:Int)) (pu_len (A:=j) (n:=f.length) (m:=l) underlying30 rfl)<|lp (.bool (!(decide ((d.length:Int)=(f.length:Int))))) (pu_neq (k:=.i64) (a:=(d.length:Int)) (b:=(f.length:Int)) rfl rfl)<|ln (hK5 _ _ ?_)
 refine Wc.cond (t:=(!(decide ((d.length:Int)=(f.length:Int))))) (rfl) (fun hq6=>?_) (fun hq6=>?_)
 replace hb:=tt hq6 hb
 refine Wc.seq fun _ hK7=>rg<|lp (.bool false) (pu_assign rfl)<|ln (hK7 _ _ ?_)
 obtain rfl:=os hb
 refine Wc.ret (hKR _ _ ?_)
 refine ⟨_,res1 results62 (tV (.bool false) rfl),_,rfl,rfl,hC.sE []⟩
 replace hb:=tf hq6 hb
 refine Wc.skip (hK4 _ _ ?_)
 refine Wc.seq fun _ hK8=>?_
 refine Wc.seq fun _ hK9=>rg<|lp (iv 0) (pu_assign rfl)<|ln (hK9 _ _ ?_)
 obtain ⟨o10,hl0,hb⟩:=bd hb
 refine Wc.cut (fun E wv=> ∃(c:Int),E 4=.bool false∧I64 c∧Cx (fun _=>False) O0 w wv []∧(some true:Option (Bool))=some r) (fun _ hK11=>?_) ?_
 refine Wc.block ?_
 refine Wc.loop (fun m E wv=> ∃(c:Int),E 0=.slice g d.length h∧E 1=.slice j f.length l∧E 4=.bool false∧E 5=iv c∧I64 c∧Cx (fun _=>False) O0 w wv [.ro (.sl si) [.slice g d.length h] d,.ro (.sl si) [.slice j f.length l] f]∧loopN m (F.ref01_Ints_b0 n d f) c=some o10) n ⟨0,rfl,rfl,rfl,rfl,(show I64 0 from by unfold I64; omega),hC.sE [1,0],hl0⟩ ?_
 have hbK0:=hb
 clear hb hC hl0
 rintro m13 E15 w14 ⟨c,e0,e1,e4,e5,o,hC,hl0⟩ K12 hK12
 obtain ⟨m13',o16,rfl,hb,hl0⟩:=loopN_some hl0
 unfold F.ref01_Ints_b0 at hb
 refine Wc.seq fun _ hK17=>?_
 refine Wc.seq fun _ hK18=>rg<|lp _ (pu_move e5)<|lp _ (pu_move e0)<|lp (iv (d.length:Int)) (pu_len (A:=g) (n:=d.length) (m:=h) underlying30 rfl)<|lp (.bool (decide (c<(d.length:Int)))) (pu_lss (k:=.i64) (a:=c) (b:=(d.length:Int)) rfl rfl)<|ln (hK18 _ _ ?_)
 refine Wc.cond (t:=(decide (c<(d.length:Int)))) (rfl) (fun hq19=>?_) (fun hq19=>?_)
 replace hb:=tt hq19 hb
 refine Wc.skip (hK17 _ _ ?_)
 refine Wc.seq fun _ hK20=>?_
 refine Wc.block ?_
 refine Wc.seq fun _ hK21=>?_
 refine Wc.regionMix [] (frm [] ([]:List Fact) ([]:List Fact)) (fun _=>rfl) mixed (by decide+kernel) (by decide+kernel) fun w23 hw22=>?_
 replace hC:=hC.step (Fr.of_drew hw22)
 have hM:=Fr.refl (fun k=>k∈blocks ([]:List Fact)) w23
 clear hw22
 have hS:=hC
 refine mp (.slice g d.length h) (pu_move e0)<|mp (iv c) (pu_move e5) ?_
 obtain ⟨x24,h25,hb⟩:=bd hb
 obtain ⟨ad26,cs27,hA,ho30,hc28,hr29⟩:=hS.elr2 (i:=0) rfl (get_some h25).2 []
 subst hA
 refine mp (.pointer (some (ad26.add (c.toNat*1)))) (pu_index (a:=c) underlying30 sizeOf3 rfl rfl (get_some h25).1) ?_
 obtain ⟨rfl,hr29'⟩:=hr29
 refine mixE.load hM (v:=iv x24) (fun _ hF=>ld_one isAgg3 rfl (hF.cell (hc28 0 _ rfl) (off1 ho30)))<|mp (.slice j f.length l) (pu_move e1)<|mp (iv c) (pu_move e5) ?_
 obtain ⟨x31,h32,hb⟩:=bd hb
 obtain ⟨ad33,cs34,hA,ho37,hc35,hr36⟩:=hS.elr2 (i:=1) rfl (get_some h32).2 []
 subst hA
 refine mp (.pointer (some (ad33.add (c.toNat*1)))) (pu_index (a:=c) underlying30 sizeOf3 rfl rfl (get_some h32).1) ?_
 obtain ⟨rfl,hr36'⟩:=hr36
 refine mixE.load hM (v:=iv x31) (fun _ hF=>ld_one isAgg3 rfl (hF.cell (hc35 0 _ rfl) (off1 ho37)))<|mp (.bool (!(decide (x24=x31)))) (pu_neq (k:=.i64) (a:=x24) (b:=x31) rfl rfl)<|mixE.nil ?_
 clear hS hM
 refine hK21 _ _<|Wc.cond (t:=(!(decide (x24=x31)))) (rfl) (fun hq38=>?_) (fun hq38=>?_)
 replace hb:=tt hq38 hb
 refine Wc.seq fun _ hK39=>rg<|lp (.bool false) (pu_assign rfl)<|ln (hK39 _ _ ?_)
 obtain rfl:=os hb
 obtain rfl:=(lX hl0).symm
 replace hb:=hbK0
 obtain rfl:=os hb
 refine Wc.ret (hKR _ _ ?_)
 refine ⟨_,res1 results62 (tV (.bool false) rfl),_,rfl,rfl,hC.sE []⟩
 replace hb:=tf hq38 hb
 refine Wc.skip (hK20 _ _ ?_)
 refine rg<|lp _ (pu_move e5) ?_
 obtain ⟨z40,h41,hb⟩:=bd hb
 refine lp (iv z40) (pu_addc (a:=c) (b:=1) rfl rfl h41)<|lp (iv z40) (pu_assign rfl)<|ln ?_
 obtain rfl:=os hb
 exact hK12 m13' _ _ (Nat.lt_succ_self _) ⟨z40,e0,e1,e4,rfl,(chk_rng h41),hC.sE [0,1],lN hl0⟩
 replace hb:=tf hq19 hb
 refine Wc.exit rfl ?_
 obtain rfl:=os hb
 obtain rfl:=(lX hl0).symm
 exact hK11 _ _ ⟨c,e4,o,hC.sE [],hbK0⟩
 clear hb hC hl0
 rintro E43 w42 ⟨c,e4,o,hC,hb⟩
 refine hK8 _ _<|Wc.seq fun _ hK44=>rg<|lp (.bool true) (pu_assign rfl)<|ln (hK44 _ _ ?_)
 obtain rfl:=os hb
 refine Wc.ret (hKR _ _ ?_)
 refine ⟨_,res1 results62 (tV (.bool true) rfl),_,rfl,rfl,hC.sE []⟩

theorem ref01_Equal_ok (n:Nat) {w:World} {O0:List Nat} (hO: ∀k∈O0,k<w.heap.size) {f:Option Addr} {y g:Nat} {s:List Int} (z:Rep O0 w (.sl si) [.slice f y g] s) {h:Option Addr} {A j:Nat} {t:List Int} (B:Rep O0 w (.sl si) [.slice h A j] t) {c:Int} (S:I64 c) {l:Option Addr} {C m:Nat} {u:List Int} (D:Rep O0 w (.sl si) [.slice l C m] u) {o:Option Addr} {G p:Nat} {x:List Int} (H:Rep O0 w (.sl si) [.slice o G p] x) {d:Int} (T:I64 d) {r:Bool} (hb:F.ref01_Equal n s t c u x d=some r):
    Calls prog 21 #[.agg #[.slice f y g,.slice h A j,iv c],.agg #[.slice l C m,.slice o G p,iv d]] w fun e w'=> ∃v,e=.returned v∧v=.bool r∧Cx (fun _=>False) O0 w w' []:=by
 unfold F.ref01_Equal at hb
 have hC:=Cx.start hO
 replace hC:=hC.arg rfl z
 replace hC:=hC.arg rfl B
 replace hC:=hC.arg rfl D
 replace hC:=hC.arg rfl H
 clear hO
 obtain ⟨rfl,J,K⟩:=z.sl_len
 obtain ⟨rfl,L,M⟩:=B.sl_len
 obtain ⟨rfl,N,P⟩:=D.sl_len
 obtain ⟨rfl,Q,R⟩:=H.sl_len
 refine calls_of_Wc func21 rfl (by rw [ntmps21]; exact nb rfl) fun KR hKR=>?_
 refine Wc.seq fun _ hK5=>rg<|lex.op (hC.box (cs:=[.slice f s.length g,.slice h t.length j,iv c]) rfl rfl) ?_
 rintro _ w7 ⟨g6,rfl,hC,hF,-⟩
 refine lex.op (hC.box (cs:=[.slice l u.length m,.slice o x.length p,iv d]) rfl rfl) ?_
 rintro _ w10 ⟨g9,rfl,hC,hF,-⟩
 refine lp (.bool false) (pu_assign rfl)<|ln (hK5 _ _ ?_)
 refine Wc.seq fun _ hK12=>rg<|lp (.pointer (some ((⟨g6,0,none⟩:Addr).add 0))) (pu_field (sz:=1) underlying32 rfl sizeOf30 (by decide) rfl rfl)<|lv (.slice f s.length g) (ld_fld (hC.bx (i:=1) rfl) isAgg30 rfl rfl)<|lp (.pointer (some ((⟨g9,0,none⟩:Addr).add 0))) (pu_field (sz:=1) underlying32 rfl sizeOf30 (by decide) rfl rfl)<|lv (.slice l u.length m) (ld_fld (hC.bx (i:=0) rfl) isAgg30 rfl rfl) ?_
 obtain ⟨y13,h14,hb⟩:=bd hb
 refine lex.cl (⟨_,_,op_call (vs:=[.slice f s.length g,.slice l u.length m]) call62 rfl rfl rfl,ref01_Ints_ok n hC.lt (hC.rd (i:=5) rfl) (hC.rd (i:=3) rfl) h14⟩) ?_
 rintro _ w15 ⟨rfl,hK⟩
 replace hC:=hC.merge hK
 clear hK
 refine lp (.bool y13) (pu_move rfl) ?_
 rcases bS y13 with hq16 | hq16
 replace hb:=tt hq16 hb
 refine gp rfl rfl y13 rfl hq16 (.pointer (some ((⟨g6,0,none⟩:Addr).add 1))) (pu_field (sz:=1) underlying32 rfl sizeOf30 (by decide) rfl rfl)<|gv rfl rfl y13 rfl hq16 (.slice h t.length j) (ld_fld (hC.bx (i:=1) rfl) isAgg30 rfl rfl)<|gp rfl rfl y13 rfl hq16 (.pointer (some ((⟨g9,0,none⟩:Addr).add 1))) (pu_field (sz:=1) underlying32 rfl sizeOf30 (by decide) rfl rfl)<|gv rfl rfl y13 rfl hq16 (.slice o x.length p) (ld_fld (hC.bx (i:=0) rfl) isAgg30 rfl rfl) ?_
 obtain ⟨y17,h18,hb⟩:=bd hb
 refine lex.gcl (want_t rfl rfl (show _=Value.bool y13 from rfl) hq16) (⟨_,_,op_call (vs:=[.slice h t.length j,.slice o x.length p]) call62 rfl rfl rfl,ref01_Ints_ok n hC.lt (hC.rd (i:=4) rfl) (hC.rd (i:=2) rfl) h18⟩) ?_
 rintro _ w19 ⟨rfl,hK⟩
 replace hC:=hC.merge hK
 clear hK
 refine lp (.bool y17) (pu_pickT (q:=y13) rfl hq16 rfl)<|lp (.bool y17) (pu_move rfl) ?_
 rcases bS y17 with hq20 | hq20
 replace hb:=tt hq20 hb
 refine gp rfl rfl y17 rfl hq20 (.pointer (some ((⟨g6,0,none⟩:Addr).add 2))) (pu_field (sz:=1) underlying32 rfl sizeOf3 (by decide) rfl rfl)<|gv rfl rfl y17 rfl hq20 (iv c) (ld_fld (hC.bx (i:=1) rfl) isAgg3 rfl rfl)<|gp rfl rfl y17 rfl hq20 (.pointer (some ((⟨g9,0,none⟩:Addr).add 2))) (pu_field (sz:=1) underlying32 rfl sizeOf3 (by decide) rfl rfl)<|gv rfl rfl y17 rfl hq20 (iv d) (ld_fld (hC.bx (i:=0) rfl) isAgg3 rfl rfl)<|gp rfl rfl y17 rfl hq20 (.bool (decide (c=d))) (pu_eql (k:=.i64) (a:=c) (b:=d) rfl rfl)<|lp (.bool (decide (c=d))) (pu_pickT (q:=y17) rfl hq20 rfl)<|lp (.bool (decide (c=d))) (pu_assign rfl)<|ln (hK12 _ _ ?_)
 obtain rfl:=os hb
 refine Wc.ret (hKR _ _ ?_)
 refine ⟨_,res1 results21 (tV (.bool (decide (c=d))) rfl),_,rfl,rfl,hC.sE []⟩
 replace hb:=tf hq20 hb
 refine gs rfl rfl y17 rfl hq20<|gs rfl rfl y17 rfl hq20<|gs rfl rfl y17 rfl hq20<|gs rfl rfl y17 rfl hq20<|gs rfl rfl y17 rfl hq20<|lp (.bool false) (pu_pickF (q:=y17) rfl hq20 rfl)<|lp (.bool false) (pu_assign rfl)<|ln (hK12 _ _ ?_)
 obtain rfl:=os hb
 refine Wc.ret (hKR _ _ ?_)
 refine ⟨_,res1 results21 (tV (.bool false) rfl),_,rfl,rfl,hC.sE []⟩
 replace hb:=tf hq16 hb
 refine gs rfl rfl y13 rfl hq16<|gs rfl rfl y13 rfl hq16<|gs rfl rfl y13 rfl hq16<|gs rfl rfl y13 rfl hq16<|gs rfl rfl y13 rfl hq16<|lp (.bool false) (pu_pickF (q:=y13) rfl hq16 rfl)<|lp (.bool false) (pu_move rfl)<|gs rfl rfl false rfl rfl<|gs rfl rfl false rfl rfl<|gs rfl rfl false rfl rfl<|gs rfl rfl false rfl rfl<|gs rfl rfl false rfl rfl<|lp (.bool false) (pu_pickF (q:=false) rfl rfl rfl)<|lp (.bool false) (pu_assign rfl)<|ln (hK12 _ _ ?_)
 obtain rfl:=os hb
 refine Wc.ret (hKR _ _ ?_)
 refine ⟨_,res1 results21 (tV (.bool false) rfl),_,rfl,rfl,hC.sE []⟩
end Go.Proofs.Yteajmbanlohncaa
