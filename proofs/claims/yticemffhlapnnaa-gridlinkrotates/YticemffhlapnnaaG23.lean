import Derived.Test.YticemffhlapnnaaS
import Derived.Test.YticemffhlapnnaaG0
set_option linter.unusedVariables false
set_option linter.unusedSimpArgs false
namespace Go.Proofs.Yticemffhlapnnaa
open Ev Try
set_option maxRecDepth 100000
set_option maxHeartbeats 4000000
theorem grid_Rotate_ok (n:Nat) {w:World} {O0:List Nat} (hO: ∀k∈O0,k<w.heap.size) {o:Option Addr} {y p:Nat} {c:List Int} (z:Rep O0 w (.sl si) [.slice o y p] c) {u:Option Addr} {B x:Nat} {l:List Int} (C:Rep O0 w (.sl si) [.slice u B x] l) {r:(List Int)×(List Int)×Int} (hb:F.grid_Rotate n c l=some r):
    Calls prog 31 #[.agg #[.slice o y p,.slice u B x]] w fun e w'=> ∃v,e=.returned v∧∃(A0:Option Addr) (m0 c0:Nat) (A1:Option Addr) (m1 c1:Nat),v=.tuple #[.agg #[.slice A0 m0 c0,.slice A1 m1 c1],iv r.2.2]∧I64 r.2.2∧Cx (fun _=>False) O0 w w' [.own 3 si (.slice A0 m0 c0) r.1,.own 3 si (.slice A1 m1 c1) r.2.1]:=by
 unfold F.grid_Rotate at hb
 have hC:=Cx.start hO
 replace hC:=hC.arg rfl z
 replace hC:=hC.arg rfl C
 clear hO
 obtain ⟨rfl,D,G⟩:=z.sl_len
 obtain ⟨rfl,J,K⟩:=C.sl_len
 refine calls_of_Wc func31 rfl (by rw [ntmps31]; exact nb rfl) fun KR hKR=>?_
 refine Wc.seq fun _ hK3=>rg<|lex.op (hC.box (cs:=[.slice o c.length p,.slice u l.length x]) rfl rfl) ?_
 rintro _ w5 ⟨g4,rfl,hC,hF,-⟩
 refine lex.op (hC.alloc (cs:=[.slice none 0 0,.slice none 0 0]) zeroValue24 rfl) ?_
 rintro _ w8 ⟨g7,rfl,hC,hF,-⟩
 refine lp (iv 0) (pu_assign rfl)<|ln (hK3 _ _ ?_)
 refine Wc.seq fun _ hK10=>?_
 refine Wc.seq fun _ hK11=>rg<|lv (.agg #[.slice o c.length p,.slice u l.length x]) (ld_blk (hC.bx (i:=1) rfl) isAgg24 sizeOf24 rfl) ?_
 obtain ⟨y12,h13,hb⟩:=bd hb
 refine lex.cl (⟨_,_,op_call (vs:=[.agg #[.slice o c.length p,.slice u l.length x]]) call26 rfl rfl rfl,grid_Valid_ok n hC.lt (hC.rd (i:=3) rfl) (hC.rd (i:=2) rfl) h13⟩) ?_
 rintro _ w14 ⟨rfl,hK⟩
 replace hC:=hC.merge hK
 clear hK
 refine lp (.bool (!y12)) (pu_not (q:=y12) rfl)<|ln (hK11 _ _ ?_)
 refine Wc.cond (t:=(!y12)) (rfl) (fun hq15=>?_) (fun hq15=>?_)
 replace hb:=tt hq15 hb
 refine Wc.seq fun _ hK16=>rg<|lp (.agg #[.slice none 0 0,.slice none 0 0]) (pu_builds (places:=[(0,1),(1,1)]) (pv:=[]) type24 underlying24 rfl (mp_cons type22 (mp_cons type22 mp_nil rfl rfl) rfl rfl) rfl (by simp [Instr.fill,Value.cells]))<|lex.sk (hC.seta (i:=0) (ds:=[.slice none 0 0,.slice none 0 0]) rfl type24 rfl rfl rfl rfl rfl) ?_
 rintro w17 ⟨hC,hF⟩
 refine lp (iv 1) (pu_assign rfl)<|ln (hK16 _ _ ?_)
 replace hC:=hC.nil 3 si
 replace hC:=hC.nil 3 si
 obtain rfl:=os hb
 refine Wc.ret (hKR _ _ ?_)
 refine ⟨_,res2 results31 ⟨_,rfl,loadVar_blk (hC.bx (i:=2) rfl) isAgg24 sizeOf24⟩ (tV (iv 1) rfl),_,rfl,none,0,0,none,0,0,rfl,(show I64 1 from by unfold I64; omega),hC.sE [1,0]⟩
 replace hb:=tf hq15 hb
 refine Wc.skip (hK10 _ _ ?_)
 refine Wc.seq fun _ hK20=>rg<|lp (.pointer (some ((⟨g4,0,none⟩:Addr).add 0))) (pu_field (sz:=1) underlying24 rfl sizeOf22 (by decide) rfl rfl)<|lv (.slice o c.length p) (ld_fld (hC.bx (i:=1) rfl) isAgg22 rfl rfl)<|lp (iv (c.length:Int)) (pu_len (A:=o) (n:=c.length) (m:=p) underlying22 rfl)<|lp (iv (c.length:Int)) (pu_assign rfl)<|ln (hK20 _ _ ?_)
 refine Wc.fresh fun E21 hE=>?_
 have e1:E21 1=pg g4:=cg hE 1 rfl
 have e2:E21 2=pg g7:=cg hE 2 rfl
 have e3:E21 3=iv 0:=cg hE 3 rfl
 have e4:E21 4=iv (c.length:Int):=cg hE 4 rfl
 clear hE
 refine Wc.seq fun _ hK22=>?_
 refine Wc.regionPlan [] (frm [] ([]:List Fact) ([]:List Fact)) (chainP [0,2] (.alt (chainP [1] (.alt (chainP [3] (chainP [4,5,6] .done)) (chainP [5] (chainP [3,4,6] .done)))) (.alt (chainP [3] (.alt (chainP [1] (chainP [4,5,6] .done)) (chainP [5] (chainP [1,4,6] .done)))) (chainP [5] (.alt (chainP [1] (chainP [3,4,6] .done)) (chainP [3] (chainP [1,4,6] .done))))))) (fun _=>rfl) mixed (by decide+kernel) (by decide+kernel) fun w24 hw23=>?_
 replace hC:=hC.step (Fr.of_drew hw23)
 have hM:=Fr.refl (fun k=>k∈blocks ([]:List Fact)) w24
 clear hw23
 have hS:=hC
 have hD:Fr (fun k=>k∈blocks (([]:List Fact)++([]:List Fact))) w24 w24:=hM.wide
 refine mixPE_chain ?_
 refine mp (iv (c.length:Int)) (pu_move e4)<|mp (iv (c.length:Int)) (pu_move e4)<|mixE.nil ?_
 refine mixPE_alt ?_ ?_
 refine mixPE_chain ?_
 obtain ⟨u25,h26,hb⟩:=bd hb
 refine mixE.op hM (hC.make (s:=si) (n:=(c.length:Int)) underlying22 type3 rfl rfl rfl rfl rfl (pos_some h26).1 (pos_some h26).2 (by decide)) ?_
 rintro _ w31 ⟨A27,c28,rfl,hl29,hc30,hC,hF,hN⟩
 have hBf32:=Beside.new hM hN
 have hUf32:=Beside.new (hM.wide (H:=([]:List Fact))) hN
 replace hM:=hM.none hF
 replace hD:=hM.wide (H:=([]:List Fact))
 refine ⟨hM,?_⟩
 clear hF hN
 refine mixE.nil ?_
 refine mixPE_alt ?_ ?_
 refine mixPE_chain ?_
 obtain ⟨u33,h34,hb⟩:=bd hb
 refine mixE.op hM (hC.make (s:=si) (n:=(c.length:Int)) underlying22 type3 rfl rfl rfl rfl rfl (pos_some h34).1 (pos_some h34).2 (by decide)) ?_
 rintro _ w39 ⟨A35,c36,rfl,hl37,hc38,hC,hF,hN⟩
 have hBf40:=Beside.new hM hN
 have hUf40:=Beside.new (hM.wide (H:=([]:List Fact))) hN
 replace hM:=hM.none hF
 replace hD:=hM.wide (H:=([]:List Fact))
 refine ⟨hM,?_⟩
 clear hF hN
 refine mixE.nil ?_
 refine mixPE_chain ?_
 refine mp (.agg #[.slice A27 (((rZ c.length)).length) c28,.slice A35 (((rZ c.length)).length) c36]) (pu_builds (places:=[(0,1),(1,1)]) (pv:=[(0,.slice A27 (((rZ c.length)).length) c28),(1,.slice A35 (((rZ c.length)).length) c36)]) type24 underlying24 rfl (mp_cons type22 (mp_cons type22 mp_nil rfl rfl) rfl rfl) rfl (by simp [Instr.fill,Value.cells]))<|mixE.op hM (hC.alloc (cs:=[.slice none 0 0,.slice none 0 0]) zeroValue24 rfl) ?_
 rintro _ w42 ⟨g41,rfl,hC,hF,hG⟩
 have hUf43:g41<w24.heap.size→g41∈blocks (([]:List Fact)++([]:List Fact)):=fun h=>absurd (Nat.lt_of_lt_of_le h (Nat.le_trans hM.size hG)) (Nat.lt_irrefl _)
 clear hG
 replace hM:=hM.none hF
 replace hD:=hM.wide (H:=([]:List Fact))
 refine ⟨hM,?_⟩
 refine mixE.sk hD (hC.seta (i:=0) (ds:=[.slice A27 (((rZ c.length)).length) c28,.slice A35 (((rZ c.length)).length) c36]) rfl type24 rfl rfl rfl rfl rfl) ?_
 rintro w44 ⟨hC,hF⟩
 replace hD:=hD.besideG hUf43 hF
 clear hF
 refine ⟨hD,?_⟩
 refine mixE.nil ?_
 clear hS hM
 clear hD
 refine hK22 _ _ ?_
 refine Wc.seq fun _ hK45=>?_
 refine Wc.seq fun _ hK46=>rg<|lp _ (pu_move e4)<|lp (iv 0) (pu_move rfl)<|ln (hK46 _ _ ?_)
 obtain ⟨o47,hl0,f47,hf47,hb⟩:=bn hb
 refine Wc.cut (fun E wv=> ∃(d:Int) (f:List Int) (g:List Int),E 2=pg g7∧E 3=iv 0∧E 5=pg g41∧I64 d∧Cx (fun _=>False) O0 w wv [.box g7 24 [.slice none 0 0,.slice none 0 0],.box g41 24 [.slice A27 (((rZ c.length)).length) c28,.slice A35 (((rZ c.length)).length) c36],.own 3 si (.slice A27 (((rZ c.length)).length) c28) f,.own 3 si (.slice A35 (((rZ c.length)).length) c36) g]∧f47 (d,f,g)=some r) (fun _ hK48=>?_) ?_
 refine Wc.block ?_
 refine Wc.loop (fun m E wv=> ∃(d:Int) (f:List Int) (g:List Int),E 1=pg g4∧E 2=pg g7∧E 3=iv 0∧E 4=iv (c.length:Int)∧E 5=pg g41∧E 19=iv (c.length:Int)∧E 20=iv d∧I64 d∧Cx (fun _=>False) O0 w wv [.box g4 24 [.slice o c.length p,.slice u l.length x],.ro (.sl si) [.slice o c.length p] c,.ro (.sl si) [.slice u l.length x] l,.box g7 24 [.slice none 0 0,.slice none 0 0],.box g41 24 [.slice A27 (((rZ c.length)).length) c28,.slice A35 (((rZ c.length)).length) c36],.own 3 si (.slice A27 (((rZ c.length)).length) c28) f,.own 3 si (.slice A35 (((rZ c.length)).length) c36) g]∧loopN m (F.grid_Rotate_b0 n c l) (d,f,g)=some o47) n ⟨0,(rZ c.length),(rZ c.length),e1,e2,e3,e4,rfl,rfl,rfl,(show I64 0 from by unfold I64; omega),hC.sE [4,6,5,3,0,2,1],hl0⟩ ?_
 have hbK0:=hb
 clear hb hC hl0
 rintro m50 E52 w51 ⟨d,f,g,e1,e2,e3,e4,e5,e19,e20,j,hC,hl0⟩ K49 hK49
 obtain ⟨m50',o53,rfl,hb,hl0⟩:=loopN_some hl0
 unfold F.grid_Rotate_b0 at hb
 refine Wc.seq fun _ hK54=>rg<|lp _ (pu_lss e20 e19)<|ln (hK54 _ _ ?_)
 refine Wc.seq fun _ hK55=>?_
 refine Wc.cond (t:=(decide (d<(c.length:Int)))) (rfl) (fun hq56=>?_) (fun hq56=>?_)
 replace hb:=tt hq56 hb
 refine Wc.skip (hK55 _ _ ?_)
 refine Wc.seq fun _ hK57=>?_
 refine Wc.block<|Wc.seq fun _ hK58=>rg<|lp _ (pu_move e20)<|lp (iv d) (pu_assign rfl)<|ln (hK58 _ _ ?_)
 refine Wc.seq fun _ hK59=>?_
 refine Wc.regionMix [24,28,31] (frm [24,28,31] ([]:List Fact) [.own 3 si (.slice A35 (((rZ c.length)).length) c36) g]) (fun _=>rfl) mixed (by decide+kernel) (by decide+kernel) fun w61 hw60=>?_
 replace hC:=hC.step (Fr.of_drew hw60)
 have hM:=Fr.refl (fun k=>k∈blocks ([]:List Fact)) w61
 clear hw60
 have hS:=hC
 have hD:Fr (fun k=>k∈blocks (([]:List Fact)++[.own 3 si (.slice A35 (((rZ c.length)).length) c36) g])) w61 w61:=hM.wide
 have hUf40:Beside (([]:List Fact)++[.own 3 si (.slice A35 (((rZ c.length)).length) c36) g]) w61 (.slice A35 (((rZ c.length)).length) c36):=Beside.of (i:=0) rfl
 refine mp (.pointer (some ((⟨g41,0,none⟩:Addr).add 1))) (pu_field (sz:=1) underlying24 rfl sizeOf22 (by decide) rfl e5)<|mixE.steady hD (v:=.slice A35 (((rZ c.length)).length) c36) (fun _ hF=>ld_fld (hS.bx2 (i:=4) rfl [6] (by decide) hF) isAgg22 rfl rfl)<|mp (iv (c.length:Int)) (pu_move e4) ?_
 obtain ⟨z62,h63,hb⟩:=bd hb
 refine mp (iv z62) (pu_subc (a:=(c.length:Int)) (b:=1) rfl rfl h63)<|mp (.pointer (some ((⟨g4,0,none⟩:Addr).add 0))) (pu_field (sz:=1) underlying24 rfl sizeOf22 (by decide) rfl e1)<|mixE.steady hD (v:=.slice o c.length p) (fun _ hF=>ld_fld (hS.bx2 (i:=0) rfl [6] (by decide) hF) isAgg22 rfl rfl)<|mp (iv d) (pu_move rfl) ?_
 obtain ⟨x64,h65,hb⟩:=bd hb
 obtain ⟨ad66,cs67,hA,ho70,hc68,hr69⟩:=hS.elr2 (i:=1) rfl (get_some h65).2 [6]
 subst hA
 refine mp (.pointer (some (ad66.add (d.toNat*1)))) (pu_index (a:=d) underlying22 sizeOf3 rfl rfl (get_some h65).1) ?_
 obtain ⟨rfl,hr69'⟩:=hr69
 refine mixE.steady hD (v:=iv x64) (fun _ hF=>ld_one isAgg3 rfl (hF.cell (hc68 0 _ rfl) (off1 ho70))) ?_
 obtain ⟨z71,h72,hb⟩:=bd hb
 refine mp (iv z71) (pu_subc (a:=z62) (b:=x64) rfl rfl h72)<|mp (iv d) (pu_move rfl) ?_
 obtain ⟨x73,h74,hb⟩:=bd hb
 obtain ⟨ad75,cs76,hA,ho79,hc77,hr78⟩:=hS.elo2 (i:=6) rfl (get_some h74).2 [] (by decide)
 subst hA
 refine mp (.pointer (some (ad75.add (z71.toNat*1)))) (pu_index (a:=z71) underlying22 sizeOf3 rfl rfl (by rw [(hC.ow (i:=6) rfl).sl_len.1]; exact (get_some h74).1))<|mixE.sk hD (hC.put (i:=6) rfl rfl sizeOf3 (k:=z71.toNat) (a:=d) (by have:=(get_some h74).1; simp at this⊢; omega) (⟨rfl,I64.wr j⟩) rfl rfl rfl) ?_
 rintro w80 ⟨hC,hF⟩
 replace hD:=hD.beside hUf40 hF
 clear hF
 refine ⟨hD,?_⟩
 refine mixE.nil ?_
 clear hS hM
 clear hD
 refine hK59 _ _<|Wc.fresh fun E81 hE=>?_
 have e1:=cg hE 1 e1
 have e2:=cg hE 2 e2
 have e3:=cg hE 3 e3
 have e4:=cg hE 4 e4
 have e5:=cg hE 5 e5
 have e6:E81 6=iv d:=cg hE 6 rfl
 have e19:=cg hE 19 e19
 have e20:=cg hE 20 e20
 have e21:E81 21=.bool (decide (d<(c.length:Int))):=cg hE 21 rfl
 clear hE
 refine Wc.regionMix [36,40,43] (frm [36,40,43] ([]:List Fact) [.own 3 si (.slice A27 (((rZ c.length)).length) c28) f]) (fun _=>rfl) mixed (by decide+kernel) (by decide+kernel) fun w83 hw82=>?_
 replace hC:=hC.step (Fr.of_drew hw82)
 have hM:=Fr.refl (fun k=>k∈blocks ([]:List Fact)) w83
 clear hw82
 have hS:=hC
 have hD:Fr (fun k=>k∈blocks (([]:List Fact)++[.own 3 si (.slice A27 (((rZ c.length)).length) c28) f])) w83 w83:=hM.wide
 have hUf32:Beside (([]:List Fact)++[.own 3 si (.slice A27 (((rZ c.length)).length) c28) f]) w83 (.slice A27 (((rZ c.length)).length) c28):=Beside.of (i:=0) rfl
 refine mp (.pointer (some ((⟨g41,0,none⟩:Addr).add 0))) (pu_field (sz:=1) underlying24 rfl sizeOf22 (by decide) rfl e5)<|mixE.steady hD (v:=.slice A27 (((rZ c.length)).length) c28) (fun _ hF=>ld_fld (hS.bx2 (i:=4) rfl [5] (by decide) hF) isAgg22 rfl rfl)<|mp (iv (c.length:Int)) (pu_move e4) ?_
 obtain ⟨z84,h85,hb⟩:=bd hb
 refine mp (iv z84) (pu_subc (a:=(c.length:Int)) (b:=1) rfl rfl h85)<|mp (.pointer (some ((⟨g4,0,none⟩:Addr).add 1))) (pu_field (sz:=1) underlying24 rfl sizeOf22 (by decide) rfl e1)<|mixE.steady hD (v:=.slice u l.length x) (fun _ hF=>ld_fld (hS.bx2 (i:=0) rfl [5] (by decide) hF) isAgg22 rfl rfl)<|mp (iv d) (pu_move e6) ?_
 obtain ⟨x86,h87,hb⟩:=bd hb
 obtain ⟨ad88,cs89,hA,ho92,hc90,hr91⟩:=hS.elr2 (i:=2) rfl (get_some h87).2 [5]
 subst hA
 refine mp (.pointer (some (ad88.add (d.toNat*1)))) (pu_index (a:=d) underlying22 sizeOf3 rfl rfl (get_some h87).1) ?_
 obtain ⟨rfl,hr91'⟩:=hr91
 refine mixE.steady hD (v:=iv x86) (fun _ hF=>ld_one isAgg3 rfl (hF.cell (hc90 0 _ rfl) (off1 ho92))) ?_
 obtain ⟨z93,h94,hb⟩:=bd hb
 refine mp (iv z93) (pu_subc (a:=z84) (b:=x86) rfl rfl h94)<|mp (iv d) (pu_move e6) ?_
 obtain ⟨x95,h96,hb⟩:=bd hb
 obtain ⟨ad97,cs98,hA,ho101,hc99,hr100⟩:=hS.elo2 (i:=5) rfl (get_some h96).2 [] (by decide)
 subst hA
 refine mp (.pointer (some (ad97.add (z93.toNat*1)))) (pu_index (a:=z93) underlying22 sizeOf3 rfl rfl (by rw [(hC.ow (i:=5) rfl).sl_len.1]; exact (get_some h96).1))<|mixE.sk hD (hC.put (i:=5) rfl rfl sizeOf3 (k:=z93.toNat) (a:=d) (by have:=(get_some h96).1; simp at this⊢; omega) (⟨rfl,I64.wr j⟩) rfl rfl rfl) ?_
 rintro w102 ⟨hC,hF⟩
 replace hD:=hD.beside hUf32 hF
 clear hF
 refine ⟨hD,?_⟩
 refine mixE.nil ?_
 clear hS hM
 clear hD
 refine hK57 _ _<|rg ?_
 obtain ⟨z103,h104,hb⟩:=bd hb
 refine lp (iv z103) (pu_addc (a:=d) (b:=1) e20 rfl h104)<|lp (iv z103) (pu_move rfl)<|ln ?_
 obtain rfl:=os hb
 exact hK49 m50' _ _ (Nat.lt_succ_self _) ⟨z103,(f.set z93.toNat d),(g.set z71.toNat d),e1,e2,e3,e4,e5,e19,rfl,(chk_rng h104),hC.sE [0,1,2,3,4,5,6],lN hl0⟩
 replace hb:=tf hq56 hb
 refine Wc.exit rfl ?_
 obtain rfl:=os hb
 obtain rfl:=(lX hl0).symm
 exact hK48 _ _ ⟨d,f,g,e2,e3,e5,j,hC.sE [3,4,5,6],hbK0⟩
 clear hb hC hl0
 rintro E106 w105 ⟨d,f,g,e2,e3,e5,j,hC,hb⟩
 subst hf47
 refine hK45 _ _<|Wc.seq fun _ hK107=>rg<|lv (.agg #[.slice A27 (((rZ c.length)).length) c28,.slice A35 (((rZ c.length)).length) c36]) (ld_blk (hC.bx (i:=1) rfl) isAgg24 sizeOf24 e5)<|lex.sk (hC.seta (i:=0) (ds:=[.slice A27 (((rZ c.length)).length) c28,.slice A35 (((rZ c.length)).length) c36]) rfl type24 rfl rfl rfl e2 rfl) ?_
 rintro w108 ⟨hC,hF⟩
 refine lp (iv 0) (pu_assign rfl)<|ln (hK107 _ _ ?_)
 obtain rfl:=os hb
 refine Wc.ret (hKR _ _ ?_)
 refine ⟨_,res2 results31 ⟨_,e2,loadVar_blk (hC.bx (i:=0) rfl) isAgg24 sizeOf24⟩ (tV (iv 0) rfl),_,rfl,A27,((rZ c.length)).length,c28,A35,((rZ c.length)).length,c36,rfl,(show I64 0 from by unfold I64; omega),hC.sE [2,3]⟩
 refine mixPE_chain ?_
 refine mixE.op hM (hC.alloc (cs:=[.slice none 0 0,.slice none 0 0]) zeroValue24 rfl) ?_
 rintro _ w110 ⟨g109,rfl,hC,hF,hG⟩
 have hUf111:g109<w24.heap.size→g109∈blocks (([]:List Fact)++([]:List Fact)):=fun h=>absurd (Nat.lt_of_lt_of_le h (Nat.le_trans hM.size hG)) (Nat.lt_irrefl _)
 clear hG
 replace hM:=hM.none hF
 replace hD:=hM.wide (H:=([]:List Fact))
 refine ⟨hM,?_⟩
 refine mixE.nil ?_
 refine mixPE_chain ?_
 obtain ⟨u33,h113,hb⟩:=bd hb
 refine mixE.op hM (hC.make (s:=si) (n:=(c.length:Int)) underlying22 type3 rfl rfl rfl rfl rfl (pos_some h113).1 (pos_some h113).2 (by decide)) ?_
 rintro _ w118 ⟨A114,c115,rfl,hl116,hc117,hC,hF,hN⟩
 have hBf119:=Beside.new hM hN
 have hUf119:=Beside.new (hM.wide (H:=([]:List Fact))) hN
 replace hM:=hM.none hF
 replace hD:=hM.wide (H:=([]:List Fact))
 refine ⟨hM,?_⟩
 clear hF hN
 refine mp (.agg #[.slice A27 (((rZ c.length)).length) c28,.slice A114 (((rZ c.length)).length) c115]) (pu_builds (places:=[(0,1),(1,1)]) (pv:=[(0,.slice A27 (((rZ c.length)).length) c28),(1,.slice A114 (((rZ c.length)).length) c115)]) type24 underlying24 rfl (mp_cons type22 (mp_cons type22 mp_nil rfl rfl) rfl rfl) rfl (by simp [Instr.fill,Value.cells]))<|mixE.sk hD (hC.seta (i:=1) (ds:=[.slice A27 (((rZ c.length)).length) c28,.slice A114 (((rZ c.length)).length) c115]) rfl type24 rfl rfl rfl rfl rfl) ?_
 rintro w120 ⟨hC,hF⟩
 replace hD:=hD.besideG hUf111 hF
 clear hF
 refine ⟨hD,?_⟩
 refine mixE.nil ?_
 clear hS hM
 clear hD
 refine hK22 _ _ ?_
 refine Wc.seq fun _ hK121=>?_
 refine Wc.seq fun _ hK122=>rg<|lp _ (pu_move e4)<|lp (iv 0) (pu_move rfl)<|ln (hK122 _ _ ?_)
 obtain ⟨o47,hl0,f47,hf47,hb⟩:=bn hb
 refine Wc.cut (fun E wv=> ∃(d:Int) (f:List Int) (g:List Int),E 2=pg g7∧E 3=iv 0∧E 5=pg g109∧I64 d∧Cx (fun _=>False) O0 w wv [.box g7 24 [.slice none 0 0,.slice none 0 0],.box g109 24 [.slice A27 (((rZ c.length)).length) c28,.slice A114 (((rZ c.length)).length) c115],.own 3 si (.slice A27 (((rZ c.length)).length) c28) f,.own 3 si (.slice A114 (((rZ c.length)).length) c115) g]∧f47 (d,f,g)=some r) (fun _ hK124=>?_) ?_
 refine Wc.block ?_
 refine Wc.loop (fun m E wv=> ∃(d:Int) (f:List Int) (g:List Int),E 1=pg g4∧E 2=pg g7∧E 3=iv 0∧E 4=iv (c.length:Int)∧E 5=pg g109∧E 19=iv (c.length:Int)∧E 20=iv d∧I64 d∧Cx (fun _=>False) O0 w wv [.box g4 24 [.slice o c.length p,.slice u l.length x],.ro (.sl si) [.slice o c.length p] c,.ro (.sl si) [.slice u l.length x] l,.box g7 24 [.slice none 0 0,.slice none 0 0],.box g109 24 [.slice A27 (((rZ c.length)).length) c28,.slice A114 (((rZ c.length)).length) c115],.own 3 si (.slice A27 (((rZ c.length)).length) c28) f,.own 3 si (.slice A114 (((rZ c.length)).length) c115) g]∧loopN m (F.grid_Rotate_b0 n c l) (d,f,g)=some o47) n ⟨0,(rZ c.length),(rZ c.length),e1,e2,e3,e4,rfl,rfl,rfl,(show I64 0 from by unfold I64; omega),hC.sE [4,6,5,3,1,2,0],hl0⟩ ?_
 have hbK0:=hb
 clear hb hC hl0
 rintro m126 E128 w127 ⟨d,f,g,e1,e2,e3,e4,e5,e19,e20,j,hC,hl0⟩ K125 hK125
 obtain ⟨m126',o129,rfl,hb,hl0⟩:=loopN_some hl0
 unfold F.grid_Rotate_b0 at hb
 refine Wc.seq fun _ hK130=>rg<|lp _ (pu_lss e20 e19)<|ln (hK130 _ _ ?_)
 refine Wc.seq fun _ hK131=>?_
 refine Wc.cond (t:=(decide (d<(c.length:Int)))) (rfl) (fun hq132=>?_) (fun hq132=>?_)
 replace hb:=tt hq132 hb
 refine Wc.skip (hK131 _ _ ?_)
 refine Wc.seq fun _ hK133=>?_
 refine Wc.block<|Wc.seq fun _ hK134=>rg<|lp _ (pu_move e20)<|lp (iv d) (pu_assign rfl)<|ln (hK134 _ _ ?_)
 refine Wc.seq fun _ hK135=>?_
 refine Wc.regionMix [24,28,31] (frm [24,28,31] ([]:List Fact) [.own 3 si (.slice A114 (((rZ c.length)).length) c115) g]) (fun _=>rfl) mixed (by decide+kernel) (by decide+kernel) fun w137 hw136=>?_
 replace hC:=hC.step (Fr.of_drew hw136)
 have hM:=Fr.refl (fun k=>k∈blocks ([]:List Fact)) w137
 clear hw136
 have hS:=hC
 have hD:Fr (fun k=>k∈blocks (([]:List Fact)++[.own 3 si (.slice A114 (((rZ c.length)).length) c115) g])) w137 w137:=hM.wide
 have hUf119:Beside (([]:List Fact)++[.own 3 si (.slice A114 (((rZ c.length)).length) c115) g]) w137 (.slice A114 (((rZ c.length)).length) c115):=Beside.of (i:=0) rfl
 refine mp (.pointer (some ((⟨g109,0,none⟩:Addr).add 1))) (pu_field (sz:=1) underlying24 rfl sizeOf22 (by decide) rfl e5)<|mixE.steady hD (v:=.slice A114 (((rZ c.length)).length) c115) (fun _ hF=>ld_fld (hS.bx2 (i:=4) rfl [6] (by decide) hF) isAgg22 rfl rfl)<|mp (iv (c.length:Int)) (pu_move e4) ?_
 obtain ⟨z62,h139,hb⟩:=bd hb
 refine mp (iv z62) (pu_subc (a:=(c.length:Int)) (b:=1) rfl rfl h139)<|mp (.pointer (some ((⟨g4,0,none⟩:Addr).add 0))) (pu_field (sz:=1) underlying24 rfl sizeOf22 (by decide) rfl e1)<|mixE.steady hD (v:=.slice o c.length p) (fun _ hF=>ld_fld (hS.bx2 (i:=0) rfl [6] (by decide) hF) isAgg22 rfl rfl)<|mp (iv d) (pu_move rfl) ?_
 obtain ⟨x64,h141,hb⟩:=bd hb
 obtain ⟨ad142,cs143,hA,ho146,hc144,hr145⟩:=hS.elr2 (i:=1) rfl (get_some h141).2 [6]
 subst hA
 refine mp (.pointer (some (ad142.add (d.toNat*1)))) (pu_index (a:=d) underlying22 sizeOf3 rfl rfl (get_some h141).1) ?_
 obtain ⟨rfl,hr145'⟩:=hr145
 refine mixE.steady hD (v:=iv x64) (fun _ hF=>ld_one isAgg3 rfl (hF.cell (hc144 0 _ rfl) (off1 ho146))) ?_
 obtain ⟨z71,h148,hb⟩:=bd hb
 refine mp (iv z71) (pu_subc (a:=z62) (b:=x64) rfl rfl h148)<|mp (iv d) (pu_move rfl) ?_
 obtain ⟨x73,h150,hb⟩:=bd hb
 obtain ⟨ad151,cs152,hA,ho155,hc153,hr154⟩:=hS.elo2 (i:=6) rfl (get_some h150).2 [] (by decide)
 subst hA
 refine mp (.pointer (some (ad151.add (z71.toNat*1)))) (pu_index (a:=z71) underlying22 sizeOf3 rfl rfl (by rw [(hC.ow (i:=6) rfl).sl_len.1]; exact (get_some h150).1))<|mixE.sk hD (hC.put (i:=6) rfl rfl sizeOf3 (k:=z71.toNat) (a:=d) (by have:=(get_some h150).1; simp at this⊢; omega) (⟨rfl,I64.wr j⟩) rfl rfl rfl) ?_
 rintro w156 ⟨hC,hF⟩
 replace hD:=hD.beside hUf119 hF
 clear hF
 refine ⟨hD,?_⟩
 refine mixE.nil ?_
 clear hS hM
 clear hD
 refine hK135 _ _<|Wc.fresh fun E157 hE=>?_
 have e1:=cg hE 1 e1
 have e2:=cg hE 2 e2
 have e3:=cg hE 3 e3
 have e4:=cg hE 4 e4
 have e5:=cg hE 5 e5
 have e6:E157 6=iv d:=cg hE 6 rfl
 have e19:=cg hE 19 e19
 have e20:=cg hE 20 e20
 have e21:E157 21=.bool (decide (d<(c.length:Int))):=cg hE 21 rfl
 clear hE
 refine Wc.regionMix [36,40,43] (frm [36,40,43] ([]:List Fact) [.own 3 si (.slice A27 (((rZ c.length)).length) c28) f]) (fun _=>rfl) mixed (by decide+kernel) (by decide+kernel) fun w159 hw158=>?_
 replace hC:=hC.step (Fr.of_drew hw158)
 have hM:=Fr.refl (fun k=>k∈blocks ([]:List Fact)) w159
 clear hw158
 have hS:=hC
 have hD:Fr (fun k=>k∈blocks (([]:List Fact)++[.own 3 si (.slice A27 (((rZ c.length)).length) c28) f])) w159 w159:=hM.wide
 have hUf32:Beside (([]:List Fact)++[.own 3 si (.slice A27 (((rZ c.length)).length) c28) f]) w159 (.slice A27 (((rZ c.length)).length) c28):=Beside.of (i:=0) rfl
 refine mp (.pointer (some ((⟨g109,0,none⟩:Addr).add 0))) (pu_field (sz:=1) underlying24 rfl sizeOf22 (by decide) rfl e5)<|mixE.steady hD (v:=.slice A27 (((rZ c.length)).length) c28) (fun _ hF=>ld_fld (hS.bx2 (i:=4) rfl [5] (by decide) hF) isAgg22 rfl rfl)<|mp (iv (c.length:Int)) (pu_move e4) ?_
 obtain ⟨z84,h161,hb⟩:=bd hb
 refine mp (iv z84) (pu_subc (a:=(c.length:Int)) (b:=1) rfl rfl h161)<|mp (.pointer (some ((⟨g4,0,none⟩:Addr).add 1))) (pu_field (sz:=1) underlying24 rfl sizeOf22 (by decide) rfl e1)<|mixE.steady hD (v:=.slice u l.length x) (fun _ hF=>ld_fld (hS.bx2 (i:=0) rfl [5] (by decide) hF) isAgg22 rfl rfl)<|mp (iv d) (pu_move e6) ?_
 obtain ⟨x86,h163,hb⟩:=bd hb
 obtain ⟨ad164,cs165,hA,ho168,hc166,hr167⟩:=hS.elr2 (i:=2) rfl (get_some h163).2 [5]
 subst hA
 refine mp (.pointer (some (ad164.add (d.toNat*1)))) (pu_index (a:=d) underlying22 sizeOf3 rfl rfl (get_some h163).1) ?_
 obtain ⟨rfl,hr167'⟩:=hr167
 refine mixE.steady hD (v:=iv x86) (fun _ hF=>ld_one isAgg3 rfl (hF.cell (hc166 0 _ rfl) (off1 ho168))) ?_
 obtain ⟨z93,h170,hb⟩:=bd hb
 refine mp (iv z93) (pu_subc (a:=z84) (b:=x86) rfl rfl h170)<|mp (iv d) (pu_move e6) ?_
 obtain ⟨x95,h172,hb⟩:=bd hb
 obtain ⟨ad173,cs174,hA,ho177,hc175,hr176⟩:=hS.elo2 (i:=5) rfl (get_some h172).2 [] (by decide)
 subst hA
 refine mp (.pointer (some (ad173.add (z93.toNat*1)))) (pu_index (a:=z93) underlying22 sizeOf3 rfl rfl (by rw [(hC.ow (i:=5) rfl).sl_len.1]; exact (get_some h172).1))<|mixE.sk hD (hC.put (i:=5) rfl rfl sizeOf3 (k:=z93.toNat) (a:=d) (by have:=(get_some h172).1; simp at this⊢; omega) (⟨rfl,I64.wr j⟩) rfl rfl rfl) ?_
 rintro w178 ⟨hC,hF⟩
 replace hD:=hD.beside hUf32 hF
 clear hF
 refine ⟨hD,?_⟩
 refine mixE.nil ?_
 clear hS hM
 clear hD
 refine hK133 _ _<|rg ?_
 obtain ⟨z103,h180,hb⟩:=bd hb
 refine lp (iv z103) (pu_addc (a:=d) (b:=1) e20 rfl h180)<|lp (iv z103) (pu_move rfl)<|ln ?_
 obtain rfl:=os hb
 exact hK125 m126' _ _ (Nat.lt_succ_self _) ⟨z103,(f.set z93.toNat d),(g.set z71.toNat d),e1,e2,e3,e4,e5,e19,rfl,(chk_rng h180),hC.sE [0,1,2,3,4,5,6],lN hl0⟩
 replace hb:=tf hq132 hb
 refine Wc.exit rfl ?_
 obtain rfl:=os hb
 obtain rfl:=(lX hl0).symm
 exact hK124 _ _ ⟨d,f,g,e2,e3,e5,j,hC.sE [3,4,5,6],hbK0⟩
 clear hb hC hl0
 rintro E182 w181 ⟨d,f,g,e2,e3,e5,j,hC,hb⟩
 subst hf47
 refine hK121 _ _<|Wc.seq fun _ hK183=>rg<|lv (.agg #[.slice A27 (((rZ c.length)).length) c28,.slice A114 (((rZ c.length)).length) c115]) (ld_blk (hC.bx (i:=1) rfl) isAgg24 sizeOf24 e5)<|lex.sk (hC.seta (i:=0) (ds:=[.slice A27 (((rZ c.length)).length) c28,.slice A114 (((rZ c.length)).length) c115]) rfl type24 rfl rfl rfl e2 rfl) ?_
 rintro w184 ⟨hC,hF⟩
 refine lp (iv 0) (pu_assign rfl)<|ln (hK183 _ _ ?_)
 obtain rfl:=os hb
 refine Wc.ret (hKR _ _ ?_)
 refine ⟨_,res2 results31 ⟨_,e2,loadVar_blk (hC.bx (i:=0) rfl) isAgg24 sizeOf24⟩ (tV (iv 0) rfl),_,rfl,A27,((rZ c.length)).length,c28,A114,((rZ c.length)).length,c115,rfl,(show I64 0 from by unfold I64; omega),hC.sE [2,3]⟩
 refine mixPE_alt ?_ ?_
 refine mixPE_chain ?_
 obtain ⟨u25,h186,hb⟩:=bd hb
 refine mixE.op hM (hC.make (s:=si) (n:=(c.length:Int)) underlying22 type3 rfl rfl rfl rfl rfl (pos_some h186).1 (pos_some h186).2 (by decide)) ?_
 rintro _ w191 ⟨A187,c188,rfl,hl189,hc190,hC,hF,hN⟩
 have hBf192:=Beside.new hM hN
 have hUf192:=Beside.new (hM.wide (H:=([]:List Fact))) hN
 replace hM:=hM.none hF
 replace hD:=hM.wide (H:=([]:List Fact))
 refine ⟨hM,?_⟩
 clear hF hN
 refine mixE.nil ?_
 refine mixPE_alt ?_ ?_
 refine mixPE_chain ?_
 obtain ⟨u33,h194,hb⟩:=bd hb
 refine mixE.op hM (hC.make (s:=si) (n:=(c.length:Int)) underlying22 type3 rfl rfl rfl rfl rfl (pos_some h194).1 (pos_some h194).2 (by decide)) ?_
 rintro _ w199 ⟨A195,c196,rfl,hl197,hc198,hC,hF,hN⟩
 have hBf200:=Beside.new hM hN
 have hUf200:=Beside.new (hM.wide (H:=([]:List Fact))) hN
 replace hM:=hM.none hF
 replace hD:=hM.wide (H:=([]:List Fact))
 refine ⟨hM,?_⟩
 clear hF hN
 refine mixE.nil ?_
 refine mixPE_chain ?_
 refine mp (.agg #[.slice A195 (((rZ c.length)).length) c196,.slice A187 (((rZ c.length)).length) c188]) (pu_builds (places:=[(0,1),(1,1)]) (pv:=[(0,.slice A195 (((rZ c.length)).length) c196),(1,.slice A187 (((rZ c.length)).length) c188)]) type24 underlying24 rfl (mp_cons type22 (mp_cons type22 mp_nil rfl rfl) rfl rfl) rfl (by simp [Instr.fill,Value.cells]))<|mixE.op hM (hC.alloc (cs:=[.slice none 0 0,.slice none 0 0]) zeroValue24 rfl) ?_
 rintro _ w202 ⟨g201,rfl,hC,hF,hG⟩
 have hUf203:g201<w24.heap.size→g201∈blocks (([]:List Fact)++([]:List Fact)):=fun h=>absurd (Nat.lt_of_lt_of_le h (Nat.le_trans hM.size hG)) (Nat.lt_irrefl _)
 clear hG
 replace hM:=hM.none hF
 replace hD:=hM.wide (H:=([]:List Fact))
 refine ⟨hM,?_⟩
 refine mixE.sk hD (hC.seta (i:=0) (ds:=[.slice A195 (((rZ c.length)).length) c196,.slice A187 (((rZ c.length)).length) c188]) rfl type24 rfl rfl rfl rfl rfl) ?_
 rintro w204 ⟨hC,hF⟩
 replace hD:=hD.besideG hUf203 hF
 clear hF
 refine ⟨hD,?_⟩
 refine mixE.nil ?_
 clear hS hM
 clear hD
 refine hK22 _ _ ?_
 refine Wc.seq fun _ hK205=>?_
 refine Wc.seq fun _ hK206=>rg<|lp _ (pu_move e4)<|lp (iv 0) (pu_move rfl)<|ln (hK206 _ _ ?_)
 obtain ⟨o47,hl0,f47,hf47,hb⟩:=bn hb
 refine Wc.cut (fun E wv=> ∃(d:Int) (f:List Int) (g:List Int),E 2=pg g7∧E 3=iv 0∧E 5=pg g201∧I64 d∧Cx (fun _=>False) O0 w wv [.box g7 24 [.slice none 0 0,.slice none 0 0],.box g201 24 [.slice A195 (((rZ c.length)).length) c196,.slice A187 (((rZ c.length)).length) c188],.own 3 si (.slice A195 (((rZ c.length)).length) c196) f,.own 3 si (.slice A187 (((rZ c.length)).length) c188) g]∧f47 (d,f,g)=some r) (fun _ hK208=>?_) ?_
 refine Wc.block ?_
 refine Wc.loop (fun m E wv=> ∃(d:Int) (f:List Int) (g:List Int),E 1=pg g4∧E 2=pg g7∧E 3=iv 0∧E 4=iv (c.length:Int)∧E 5=pg g201∧E 19=iv (c.length:Int)∧E 20=iv d∧I64 d∧Cx (fun _=>False) O0 w wv [.box g4 24 [.slice o c.length p,.slice u l.length x],.ro (.sl si) [.slice o c.length p] c,.ro (.sl si) [.slice u l.length x] l,.box g7 24 [.slice none 0 0,.slice none 0 0],.box g201 24 [.slice A195 (((rZ c.length)).length) c196,.slice A187 (((rZ c.length)).length) c188],.own 3 si (.slice A195 (((rZ c.length)).length) c196) f,.own 3 si (.slice A187 (((rZ c.length)).length) c188) g]∧loopN m (F.grid_Rotate_b0 n c l) (d,f,g)=some o47) n ⟨0,(rZ c.length),(rZ c.length),e1,e2,e3,e4,rfl,rfl,rfl,(show I64 0 from by unfold I64; omega),hC.sE [4,6,5,3,0,1,2],hl0⟩ ?_
 have hbK0:=hb
 clear hb hC hl0
 rintro m210 E212 w211 ⟨d,f,g,e1,e2,e3,e4,e5,e19,e20,j,hC,hl0⟩ K209 hK209
 obtain ⟨m210',o213,rfl,hb,hl0⟩:=loopN_some hl0
 unfold F.grid_Rotate_b0 at hb
 refine Wc.seq fun _ hK214=>rg<|lp _ (pu_lss e20 e19)<|ln (hK214 _ _ ?_)
 refine Wc.seq fun _ hK215=>?_
 refine Wc.cond (t:=(decide (d<(c.length:Int)))) (rfl) (fun hq216=>?_) (fun hq216=>?_)
 replace hb:=tt hq216 hb
 refine Wc.skip (hK215 _ _ ?_)
 refine Wc.seq fun _ hK217=>?_
 refine Wc.block<|Wc.seq fun _ hK218=>rg<|lp _ (pu_move e20)<|lp (iv d) (pu_assign rfl)<|ln (hK218 _ _ ?_)
 refine Wc.seq fun _ hK219=>?_
 refine Wc.regionMix [24,28,31] (frm [24,28,31] ([]:List Fact) [.own 3 si (.slice A187 (((rZ c.length)).length) c188) g]) (fun _=>rfl) mixed (by decide+kernel) (by decide+kernel) fun w221 hw220=>?_
 replace hC:=hC.step (Fr.of_drew hw220)
 have hM:=Fr.refl (fun k=>k∈blocks ([]:List Fact)) w221
 clear hw220
 have hS:=hC
 have hD:Fr (fun k=>k∈blocks (([]:List Fact)++[.own 3 si (.slice A187 (((rZ c.length)).length) c188) g])) w221 w221:=hM.wide
 have hUf192:Beside (([]:List Fact)++[.own 3 si (.slice A187 (((rZ c.length)).length) c188) g]) w221 (.slice A187 (((rZ c.length)).length) c188):=Beside.of (i:=0) rfl
 refine mp (.pointer (some ((⟨g201,0,none⟩:Addr).add 1))) (pu_field (sz:=1) underlying24 rfl sizeOf22 (by decide) rfl e5)<|mixE.steady hD (v:=.slice A187 (((rZ c.length)).length) c188) (fun _ hF=>ld_fld (hS.bx2 (i:=4) rfl [6] (by decide) hF) isAgg22 rfl rfl)<|mp (iv (c.length:Int)) (pu_move e4) ?_
 obtain ⟨z62,h223,hb⟩:=bd hb
 refine mp (iv z62) (pu_subc (a:=(c.length:Int)) (b:=1) rfl rfl h223)<|mp (.pointer (some ((⟨g4,0,none⟩:Addr).add 0))) (pu_field (sz:=1) underlying24 rfl sizeOf22 (by decide) rfl e1)<|mixE.steady hD (v:=.slice o c.length p) (fun _ hF=>ld_fld (hS.bx2 (i:=0) rfl [6] (by decide) hF) isAgg22 rfl rfl)<|mp (iv d) (pu_move rfl) ?_
 obtain ⟨x64,h225,hb⟩:=bd hb
 obtain ⟨ad226,cs227,hA,ho230,hc228,hr229⟩:=hS.elr2 (i:=1) rfl (get_some h225).2 [6]
 subst hA
 refine mp (.pointer (some (ad226.add (d.toNat*1)))) (pu_index (a:=d) underlying22 sizeOf3 rfl rfl (get_some h225).1) ?_
 obtain ⟨rfl,hr229'⟩:=hr229
 refine mixE.steady hD (v:=iv x64) (fun _ hF=>ld_one isAgg3 rfl (hF.cell (hc228 0 _ rfl) (off1 ho230))) ?_
 obtain ⟨z71,h232,hb⟩:=bd hb
 refine mp (iv z71) (pu_subc (a:=z62) (b:=x64) rfl rfl h232)<|mp (iv d) (pu_move rfl) ?_
 obtain ⟨x73,h234,hb⟩:=bd hb
 obtain ⟨ad235,cs236,hA,ho239,hc237,hr238⟩:=hS.elo2 (i:=6) rfl (get_some h234).2 [] (by decide)
 subst hA
 refine mp (.pointer (some (ad235.add (z71.toNat*1)))) (pu_index (a:=z71) underlying22 sizeOf3 rfl rfl (by rw [(hC.ow (i:=6) rfl).sl_len.1]; exact (get_some h234).1))<|mixE.sk hD (hC.put (i:=6) rfl rfl sizeOf3 (k:=z71.toNat) (a:=d) (by have:=(get_some h234).1; simp at this⊢; omega) (⟨rfl,I64.wr j⟩) rfl rfl rfl) ?_
 rintro w240 ⟨hC,hF⟩
 replace hD:=hD.beside hUf192 hF
 clear hF
 refine ⟨hD,?_⟩
 refine mixE.nil ?_
 clear hS hM
 clear hD
 refine hK219 _ _<|Wc.fresh fun E241 hE=>?_
 have e1:=cg hE 1 e1
 have e2:=cg hE 2 e2
 have e3:=cg hE 3 e3
 have e4:=cg hE 4 e4
 have e5:=cg hE 5 e5
 have e6:E241 6=iv d:=cg hE 6 rfl
 have e19:=cg hE 19 e19
 have e20:=cg hE 20 e20
 have e21:E241 21=.bool (decide (d<(c.length:Int))):=cg hE 21 rfl
 clear hE
 refine Wc.regionMix [36,40,43] (frm [36,40,43] ([]:List Fact) [.own 3 si (.slice A195 (((rZ c.length)).length) c196) f]) (fun _=>rfl) mixed (by decide+kernel) (by decide+kernel) fun w243 hw242=>?_
 replace hC:=hC.step (Fr.of_drew hw242)
 have hM:=Fr.refl (fun k=>k∈blocks ([]:List Fact)) w243
 clear hw242
 have hS:=hC
 have hD:Fr (fun k=>k∈blocks (([]:List Fact)++[.own 3 si (.slice A195 (((rZ c.length)).length) c196) f])) w243 w243:=hM.wide
 have hUf200:Beside (([]:List Fact)++[.own 3 si (.slice A195 (((rZ c.length)).length) c196) f]) w243 (.slice A195 (((rZ c.length)).length) c196):=Beside.of (i:=0) rfl
 refine mp (.pointer (some ((⟨g201,0,none⟩:Addr).add 0))) (pu_field (sz:=1) underlying24 rfl sizeOf22 (by decide) rfl e5)<|mixE.steady hD (v:=.slice A195 (((rZ c.length)).length) c196) (fun _ hF=>ld_fld (hS.bx2 (i:=4) rfl [5] (by decide) hF) isAgg22 rfl rfl)<|mp (iv (c.length:Int)) (pu_move e4) ?_
 obtain ⟨z84,h245,hb⟩:=bd hb
 refine mp (iv z84) (pu_subc (a:=(c.length:Int)) (b:=1) rfl rfl h245)<|mp (.pointer (some ((⟨g4,0,none⟩:Addr).add 1))) (pu_field (sz:=1) underlying24 rfl sizeOf22 (by decide) rfl e1)<|mixE.steady hD (v:=.slice u l.length x) (fun _ hF=>ld_fld (hS.bx2 (i:=0) rfl [5] (by decide) hF) isAgg22 rfl rfl)<|mp (iv d) (pu_move e6) ?_
 obtain ⟨x86,h247,hb⟩:=bd hb
 obtain ⟨ad248,cs249,hA,ho252,hc250,hr251⟩:=hS.elr2 (i:=2) rfl (get_some h247).2 [5]
 subst hA
 refine mp (.pointer (some (ad248.add (d.toNat*1)))) (pu_index (a:=d) underlying22 sizeOf3 rfl rfl (get_some h247).1) ?_
 obtain ⟨rfl,hr251'⟩:=hr251
 refine mixE.steady hD (v:=iv x86) (fun _ hF=>ld_one isAgg3 rfl (hF.cell (hc250 0 _ rfl) (off1 ho252))) ?_
 obtain ⟨z93,h254,hb⟩:=bd hb
 refine mp (iv z93) (pu_subc (a:=z84) (b:=x86) rfl rfl h254)<|mp (iv d) (pu_move e6) ?_
 obtain ⟨x95,h256,hb⟩:=bd hb
 obtain ⟨ad257,cs258,hA,ho261,hc259,hr260⟩:=hS.elo2 (i:=5) rfl (get_some h256).2 [] (by decide)
 subst hA
 refine mp (.pointer (some (ad257.add (z93.toNat*1)))) (pu_index (a:=z93) underlying22 sizeOf3 rfl rfl (by rw [(hC.ow (i:=5) rfl).sl_len.1]; exact (get_some h256).1))<|mixE.sk hD (hC.put (i:=5) rfl rfl sizeOf3 (k:=z93.toNat) (a:=d) (by have:=(get_some h256).1; simp at this⊢; omega) (⟨rfl,I64.wr j⟩) rfl rfl rfl) ?_
 rintro w262 ⟨hC,hF⟩
 replace hD:=hD.beside hUf200 hF
 clear hF
 refine ⟨hD,?_⟩
 refine mixE.nil ?_
 clear hS hM
 clear hD
 refine hK217 _ _<|rg ?_
 obtain ⟨z103,h264,hb⟩:=bd hb
 refine lp (iv z103) (pu_addc (a:=d) (b:=1) e20 rfl h264)<|lp (iv z103) (pu_move rfl)<|ln ?_
 obtain rfl:=os hb
 exact hK209 m210' _ _ (Nat.lt_succ_self _) ⟨z103,(f.set z93.toNat d),(g.set z71.toNat d),e1,e2,e3,e4,e5,e19,rfl,(chk_rng h264),hC.sE [0,1,2,3,4,5,6],lN hl0⟩
 replace hb:=tf hq216 hb
 refine Wc.exit rfl ?_
 obtain rfl:=os hb
 obtain rfl:=(lX hl0).symm
 exact hK208 _ _ ⟨d,f,g,e2,e3,e5,j,hC.sE [3,4,5,6],hbK0⟩
 clear hb hC hl0
 rintro E266 w265 ⟨d,f,g,e2,e3,e5,j,hC,hb⟩
 subst hf47
 refine hK205 _ _<|Wc.seq fun _ hK267=>rg<|lv (.agg #[.slice A195 (((rZ c.length)).length) c196,.slice A187 (((rZ c.length)).length) c188]) (ld_blk (hC.bx (i:=1) rfl) isAgg24 sizeOf24 e5)<|lex.sk (hC.seta (i:=0) (ds:=[.slice A195 (((rZ c.length)).length) c196,.slice A187 (((rZ c.length)).length) c188]) rfl type24 rfl rfl rfl e2 rfl) ?_
 rintro w268 ⟨hC,hF⟩
 refine lp (iv 0) (pu_assign rfl)<|ln (hK267 _ _ ?_)
 obtain rfl:=os hb
 refine Wc.ret (hKR _ _ ?_)
 refine ⟨_,res2 results31 ⟨_,e2,loadVar_blk (hC.bx (i:=0) rfl) isAgg24 sizeOf24⟩ (tV (iv 0) rfl),_,rfl,A195,((rZ c.length)).length,c196,A187,((rZ c.length)).length,c188,rfl,(show I64 0 from by unfold I64; omega),hC.sE [2,3]⟩
 refine mixPE_chain ?_
 refine mixE.op hM (hC.alloc (cs:=[.slice none 0 0,.slice none 0 0]) zeroValue24 rfl) ?_
 rintro _ w270 ⟨g269,rfl,hC,hF,hG⟩
 have hUf271:g269<w24.heap.size→g269∈blocks (([]:List Fact)++([]:List Fact)):=fun h=>absurd (Nat.lt_of_lt_of_le h (Nat.le_trans hM.size hG)) (Nat.lt_irrefl _)
 clear hG
 replace hM:=hM.none hF
 replace hD:=hM.wide (H:=([]:List Fact))
 refine ⟨hM,?_⟩
 refine mixE.nil ?_
 refine mixPE_chain ?_
 obtain ⟨u33,h273,hb⟩:=bd hb
 refine mixE.op hM (hC.make (s:=si) (n:=(c.length:Int)) underlying22 type3 rfl rfl rfl rfl rfl (pos_some h273).1 (pos_some h273).2 (by decide)) ?_
 rintro _ w278 ⟨A274,c275,rfl,hl276,hc277,hC,hF,hN⟩
 have hBf279:=Beside.new hM hN
 have hUf279:=Beside.new (hM.wide (H:=([]:List Fact))) hN
 replace hM:=hM.none hF
 replace hD:=hM.wide (H:=([]:List Fact))
 refine ⟨hM,?_⟩
 clear hF hN
 refine mp (.agg #[.slice A274 (((rZ c.length)).length) c275,.slice A187 (((rZ c.length)).length) c188]) (pu_builds (places:=[(0,1),(1,1)]) (pv:=[(0,.slice A274 (((rZ c.length)).length) c275),(1,.slice A187 (((rZ c.length)).length) c188)]) type24 underlying24 rfl (mp_cons type22 (mp_cons type22 mp_nil rfl rfl) rfl rfl) rfl (by simp [Instr.fill,Value.cells]))<|mixE.sk hD (hC.seta (i:=1) (ds:=[.slice A274 (((rZ c.length)).length) c275,.slice A187 (((rZ c.length)).length) c188]) rfl type24 rfl rfl rfl rfl rfl) ?_
 rintro w280 ⟨hC,hF⟩
 replace hD:=hD.besideG hUf271 hF
 clear hF
 refine ⟨hD,?_⟩
 refine mixE.nil ?_
 clear hS hM
 clear hD
 refine hK22 _ _ ?_
 refine Wc.seq fun _ hK281=>?_
 refine Wc.seq fun _ hK282=>rg<|lp _ (pu_move e4)<|lp (iv 0) (pu_move rfl)<|ln (hK282 _ _ ?_)
 obtain ⟨o47,hl0,f47,hf47,hb⟩:=bn hb
 refine Wc.cut (fun E wv=> ∃(d:Int) (f:List Int) (g:List Int),E 2=pg g7∧E 3=iv 0∧E 5=pg g269∧I64 d∧Cx (fun _=>False) O0 w wv [.box g7 24 [.slice none 0 0,.slice none 0 0],.box g269 24 [.slice A274 (((rZ c.length)).length) c275,.slice A187 (((rZ c.length)).length) c188],.own 3 si (.slice A274 (((rZ c.length)).length) c275) f,.own 3 si (.slice A187 (((rZ c.length)).length) c188) g]∧f47 (d,f,g)=some r) (fun _ hK284=>?_) ?_
 refine Wc.block ?_
 refine Wc.loop (fun m E wv=> ∃(d:Int) (f:List Int) (g:List Int),E 1=pg g4∧E 2=pg g7∧E 3=iv 0∧E 4=iv (c.length:Int)∧E 5=pg g269∧E 19=iv (c.length:Int)∧E 20=iv d∧I64 d∧Cx (fun _=>False) O0 w wv [.box g4 24 [.slice o c.length p,.slice u l.length x],.ro (.sl si) [.slice o c.length p] c,.ro (.sl si) [.slice u l.length x] l,.box g7 24 [.slice none 0 0,.slice none 0 0],.box g269 24 [.slice A274 (((rZ c.length)).length) c275,.slice A187 (((rZ c.length)).length) c188],.own 3 si (.slice A274 (((rZ c.length)).length) c275) f,.own 3 si (.slice A187 (((rZ c.length)).length) c188) g]∧loopN m (F.grid_Rotate_b0 n c l) (d,f,g)=some o47) n ⟨0,(rZ c.length),(rZ c.length),e1,e2,e3,e4,rfl,rfl,rfl,(show I64 0 from by unfold I64; omega),hC.sE [4,6,5,3,1,0,2],hl0⟩ ?_
 have hbK0:=hb
 clear hb hC hl0
 rintro m286 E288 w287 ⟨d,f,g,e1,e2,e3,e4,e5,e19,e20,j,hC,hl0⟩ K285 hK285
 obtain ⟨m286',o289,rfl,hb,hl0⟩:=loopN_some hl0
 unfold F.grid_Rotate_b0 at hb
 refine Wc.seq fun _ hK290=>rg<|lp _ (pu_lss e20 e19)<|ln (hK290 _ _ ?_)
 refine Wc.seq fun _ hK291=>?_
 refine Wc.cond (t:=(decide (d<(c.length:Int)))) (rfl) (fun hq292=>?_) (fun hq292=>?_)
 replace hb:=tt hq292 hb
 refine Wc.skip (hK291 _ _ ?_)
 refine Wc.seq fun _ hK293=>?_
 refine Wc.block<|Wc.seq fun _ hK294=>rg<|lp _ (pu_move e20)<|lp (iv d) (pu_assign rfl)<|ln (hK294 _ _ ?_)
 refine Wc.seq fun _ hK295=>?_
 refine Wc.regionMix [24,28,31] (frm [24,28,31] ([]:List Fact) [.own 3 si (.slice A187 (((rZ c.length)).length) c188) g]) (fun _=>rfl) mixed (by decide+kernel) (by decide+kernel) fun w297 hw296=>?_
 replace hC:=hC.step (Fr.of_drew hw296)
 have hM:=Fr.refl (fun k=>k∈blocks ([]:List Fact)) w297
 clear hw296
 have hS:=hC
 have hD:Fr (fun k=>k∈blocks (([]:List Fact)++[.own 3 si (.slice A187 (((rZ c.length)).length) c188) g])) w297 w297:=hM.wide
 have hUf192:Beside (([]:List Fact)++[.own 3 si (.slice A187 (((rZ c.length)).length) c188) g]) w297 (.slice A187 (((rZ c.length)).length) c188):=Beside.of (i:=0) rfl
 refine mp (.pointer (some ((⟨g269,0,none⟩:Addr).add 1))) (pu_field (sz:=1) underlying24 rfl sizeOf22 (by decide) rfl e5)<|mixE.steady hD (v:=.slice A187 (((rZ c.length)).length) c188) (fun _ hF=>ld_fld (hS.bx2 (i:=4) rfl [6] (by decide) hF) isAgg22 rfl rfl)<|mp (iv (c.length:Int)) (pu_move e4) ?_
 obtain ⟨z62,h299,hb⟩:=bd hb
 refine mp (iv z62) (pu_subc (a:=(c.length:Int)) (b:=1) rfl rfl h299)<|mp (.pointer (some ((⟨g4,0,none⟩:Addr).add 0))) (pu_field (sz:=1) underlying24 rfl sizeOf22 (by decide) rfl e1)<|mixE.steady hD (v:=.slice o c.length p) (fun _ hF=>ld_fld (hS.bx2 (i:=0) rfl [6] (by decide) hF) isAgg22 rfl rfl)<|mp (iv d) (pu_move rfl) ?_
 obtain ⟨x64,h301,hb⟩:=bd hb
 obtain ⟨ad302,cs303,hA,ho306,hc304,hr305⟩:=hS.elr2 (i:=1) rfl (get_some h301).2 [6]
 subst hA
 refine mp (.pointer (some (ad302.add (d.toNat*1)))) (pu_index (a:=d) underlying22 sizeOf3 rfl rfl (get_some h301).1) ?_
 obtain ⟨rfl,hr305'⟩:=hr305
 refine mixE.steady hD (v:=iv x64) (fun _ hF=>ld_one isAgg3 rfl (hF.cell (hc304 0 _ rfl) (off1 ho306))) ?_
 obtain ⟨z71,h308,hb⟩:=bd hb
 refine mp (iv z71) (pu_subc (a:=z62) (b:=x64) rfl rfl h308)<|mp (iv d) (pu_move rfl) ?_
 obtain ⟨x73,h310,hb⟩:=bd hb
 obtain ⟨ad311,cs312,hA,ho315,hc313,hr314⟩:=hS.elo2 (i:=6) rfl (get_some h310).2 [] (by decide)
 subst hA
 refine mp (.pointer (some (ad311.add (z71.toNat*1)))) (pu_index (a:=z71) underlying22 sizeOf3 rfl rfl (by rw [(hC.ow (i:=6) rfl).sl_len.1]; exact (get_some h310).1))<|mixE.sk hD (hC.put (i:=6) rfl rfl sizeOf3 (k:=z71.toNat) (a:=d) (by have:=(get_some h310).1; simp at this⊢; omega) (⟨rfl,I64.wr j⟩) rfl rfl rfl) ?_
 rintro w316 ⟨hC,hF⟩
 replace hD:=hD.beside hUf192 hF
 clear hF
 refine ⟨hD,?_⟩
 refine mixE.nil ?_
 clear hS hM
 clear hD
 refine hK295 _ _<|Wc.fresh fun E317 hE=>?_
 have e1:=cg hE 1 e1
 have e2:=cg hE 2 e2
 have e3:=cg hE 3 e3
 have e4:=cg hE 4 e4
 have e5:=cg hE 5 e5
 have e6:E317 6=iv d:=cg hE 6 rfl
 have e19:=cg hE 19 e19
 have e20:=cg hE 20 e20
 have e21:E317 21=.bool (decide (d<(c.length:Int))):=cg hE 21 rfl
 clear hE
 refine Wc.regionMix [36,40,43] (frm [36,40,43] ([]:List Fact) [.own 3 si (.slice A274 (((rZ c.length)).length) c275) f]) (fun _=>rfl) mixed (by decide+kernel) (by decide+kernel) fun w319 hw318=>?_
 replace hC:=hC.step (Fr.of_drew hw318)
 have hM:=Fr.refl (fun k=>k∈blocks ([]:List Fact)) w319
 clear hw318
 have hS:=hC
 have hD:Fr (fun k=>k∈blocks (([]:List Fact)++[.own 3 si (.slice A274 (((rZ c.length)).length) c275) f])) w319 w319:=hM.wide
 have hUf279:Beside (([]:List Fact)++[.own 3 si (.slice A274 (((rZ c.length)).length) c275) f]) w319 (.slice A274 (((rZ c.length)).length) c275):=Beside.of (i:=0) rfl
 refine mp (.pointer (some ((⟨g269,0,none⟩:Addr).add 0))) (pu_field (sz:=1) underlying24 rfl sizeOf22 (by decide) rfl e5)<|mixE.steady hD (v:=.slice A274 (((rZ c.length)).length) c275) (fun _ hF=>ld_fld (hS.bx2 (i:=4) rfl [5] (by decide) hF) isAgg22 rfl rfl)<|mp (iv (c.length:Int)) (pu_move e4) ?_
 obtain ⟨z84,h321,hb⟩:=bd hb
 refine mp (iv z84) (pu_subc (a:=(c.length:Int)) (b:=1) rfl rfl h321)<|mp (.pointer (some ((⟨g4,0,none⟩:Addr).add 1))) (pu_field (sz:=1) underlying24 rfl sizeOf22 (by decide) rfl e1)<|mixE.steady hD (v:=.slice u l.length x) (fun _ hF=>ld_fld (hS.bx2 (i:=0) rfl [5] (by decide) hF) isAgg22 rfl rfl)<|mp (iv d) (pu_move e6) ?_
 obtain ⟨x86,h323,hb⟩:=bd hb
 obtain ⟨ad324,cs325,hA,ho328,hc326,hr327⟩:=hS.elr2 (i:=2) rfl (get_some h323).2 [5]
 subst hA
 refine mp (.pointer (some (ad324.add (d.toNat*1)))) (pu_index (a:=d) underlying22 sizeOf3 rfl rfl (get_some h323).1) ?_
 obtain ⟨rfl,hr327'⟩:=hr327
 refine mixE.steady hD (v:=iv x86) (fun _ hF=>ld_one isAgg3 rfl (hF.cell (hc326 0 _ rfl) (off1 ho328))) ?_
 obtain ⟨z93,h330,hb⟩:=bd hb
 refine mp (iv z93) (pu_subc (a:=z84) (b:=x86) rfl rfl h330)<|mp (iv d) (pu_move e6) ?_
 obtain ⟨x95,h332,hb⟩:=bd hb
 obtain ⟨ad333,cs334,hA,ho337,hc335,hr336⟩:=hS.elo2 (i:=5) rfl (get_some h332).2 [] (by decide)
 subst hA
 refine mp (.pointer (some (ad333.add (z93.toNat*1)))) (pu_index (a:=z93) underlying22 sizeOf3 rfl rfl (by rw [(hC.ow (i:=5) rfl).sl_len.1]; exact (get_some h332).1))<|mixE.sk hD (hC.put (i:=5) rfl rfl sizeOf3 (k:=z93.toNat) (a:=d) (by have:=(get_some h332).1; simp at this⊢; omega) (⟨rfl,I64.wr j⟩) rfl rfl rfl) ?_
 rintro w338 ⟨hC,hF⟩
 replace hD:=hD.beside hUf279 hF
 clear hF
 refine ⟨hD,?_⟩
 refine mixE.nil ?_
 clear hS hM
 clear hD
 refine hK293 _ _<|rg ?_
 obtain ⟨z103,h340,hb⟩:=bd hb
 refine lp (iv z103) (pu_addc (a:=d) (b:=1) e20 rfl h340)<|lp (iv z103) (pu_move rfl)<|ln ?_
 obtain rfl:=os hb
 exact hK285 m286' _ _ (Nat.lt_succ_self _) ⟨z103,(f.set z93.toNat d),(g.set z71.toNat d),e1,e2,e3,e4,e5,e19,rfl,(chk_rng h340),hC.sE [0,1,2,3,4,5,6],lN hl0⟩
 replace hb:=tf hq292 hb
 refine Wc.exit rfl ?_
 obtain rfl:=os hb
 obtain rfl:=(lX hl0).symm
 exact hK284 _ _ ⟨d,f,g,e2,e3,e5,j,hC.sE [3,4,5,6],hbK0⟩
 clear hb hC hl0
 rintro E342 w341 ⟨d,f,g,e2,e3,e5,j,hC,hb⟩
 subst hf47
 refine hK281 _ _<|Wc.seq fun _ hK343=>rg<|lv (.agg #[.slice A274 (((rZ c.length)).length) c275,.slice A187 (((rZ c.length)).length) c188]) (ld_blk (hC.bx (i:=1) rfl) isAgg24 sizeOf24 e5)<|lex.sk (hC.seta (i:=0) (ds:=[.slice A274 (((rZ c.length)).length) c275,.slice A187 (((rZ c.length)).length) c188]) rfl type24 rfl rfl rfl e2 rfl) ?_
 rintro w344 ⟨hC,hF⟩
 refine lp (iv 0) (pu_assign rfl)<|ln (hK343 _ _ ?_)
 obtain rfl:=os hb
 refine Wc.ret (hKR _ _ ?_)
 refine ⟨_,res2 results31 ⟨_,e2,loadVar_blk (hC.bx (i:=0) rfl) isAgg24 sizeOf24⟩ (tV (iv 0) rfl),_,rfl,A274,((rZ c.length)).length,c275,A187,((rZ c.length)).length,c188,rfl,(show I64 0 from by unfold I64; omega),hC.sE [2,3]⟩
 refine mixPE_chain ?_
 refine mixE.op hM (hC.alloc (cs:=[.slice none 0 0,.slice none 0 0]) zeroValue24 rfl) ?_
 rintro _ w346 ⟨g345,rfl,hC,hF,hG⟩
 have hUf347:g345<w24.heap.size→g345∈blocks (([]:List Fact)++([]:List Fact)):=fun h=>absurd (Nat.lt_of_lt_of_le h (Nat.le_trans hM.size hG)) (Nat.lt_irrefl _)
 clear hG
 replace hM:=hM.none hF
 replace hD:=hM.wide (H:=([]:List Fact))
 refine ⟨hM,?_⟩
 refine mixE.nil ?_
 refine mixPE_alt ?_ ?_
 refine mixPE_chain ?_
 obtain ⟨u25,h349,hb⟩:=bd hb
 refine mixE.op hM (hC.make (s:=si) (n:=(c.length:Int)) underlying22 type3 rfl rfl rfl rfl rfl (pos_some h349).1 (pos_some h349).2 (by decide)) ?_
 rintro _ w354 ⟨A350,c351,rfl,hl352,hc353,hC,hF,hN⟩
 have hBf355:=Beside.new hM hN
 have hUf355:=Beside.new (hM.wide (H:=([]:List Fact))) hN
 replace hM:=hM.none hF
 replace hD:=hM.wide (H:=([]:List Fact))
 refine ⟨hM,?_⟩
 clear hF hN
 refine mixE.nil ?_
 refine mixPE_chain ?_
 obtain ⟨u33,h357,hb⟩:=bd hb
 refine mixE.op hM (hC.make (s:=si) (n:=(c.length:Int)) underlying22 type3 rfl rfl rfl rfl rfl (pos_some h357).1 (pos_some h357).2 (by decide)) ?_
 rintro _ w362 ⟨A358,c359,rfl,hl360,hc361,hC,hF,hN⟩
 have hBf363:=Beside.new hM hN
 have hUf363:=Beside.new (hM.wide (H:=([]:List Fact))) hN
 replace hM:=hM.none hF
 replace hD:=hM.wide (H:=([]:List Fact))
 refine ⟨hM,?_⟩
 clear hF hN
 refine mp (.agg #[.slice A350 (((rZ c.length)).length) c351,.slice A358 (((rZ c.length)).length) c359]) (pu_builds (places:=[(0,1),(1,1)]) (pv:=[(0,.slice A350 (((rZ c.length)).length) c351),(1,.slice A358 (((rZ c.length)).length) c359)]) type24 underlying24 rfl (mp_cons type22 (mp_cons type22 mp_nil rfl rfl) rfl rfl) rfl (by simp [Instr.fill,Value.cells]))<|mixE.sk hD (hC.seta (i:=2) (ds:=[.slice A350 (((rZ c.length)).length) c351,.slice A358 (((rZ c.length)).length) c359]) rfl type24 rfl rfl rfl rfl rfl) ?_
 rintro w364 ⟨hC,hF⟩
 replace hD:=hD.besideG hUf347 hF
 clear hF
 refine ⟨hD,?_⟩
 refine mixE.nil ?_
 clear hS hM
 clear hD
 refine hK22 _ _ ?_
 refine Wc.seq fun _ hK365=>?_
 refine Wc.seq fun _ hK366=>rg<|lp _ (pu_move e4)<|lp (iv 0) (pu_move rfl)<|ln (hK366 _ _ ?_)
 obtain ⟨o47,hl0,f47,hf47,hb⟩:=bn hb
 refine Wc.cut (fun E wv=> ∃(d:Int) (f:List Int) (g:List Int),E 2=pg g7∧E 3=iv 0∧E 5=pg g345∧I64 d∧Cx (fun _=>False) O0 w wv [.box g7 24 [.slice none 0 0,.slice none 0 0],.box g345 24 [.slice A350 (((rZ c.length)).length) c351,.slice A358 (((rZ c.length)).length) c359],.own 3 si (.slice A350 (((rZ c.length)).length) c351) f,.own 3 si (.slice A358 (((rZ c.length)).length) c359) g]∧f47 (d,f,g)=some r) (fun _ hK368=>?_) ?_
 refine Wc.block ?_
 refine Wc.loop (fun m E wv=> ∃(d:Int) (f:List Int) (g:List Int),E 1=pg g4∧E 2=pg g7∧E 3=iv 0∧E 4=iv (c.length:Int)∧E 5=pg g345∧E 19=iv (c.length:Int)∧E 20=iv d∧I64 d∧Cx (fun _=>False) O0 w wv [.box g4 24 [.slice o c.length p,.slice u l.length x],.ro (.sl si) [.slice o c.length p] c,.ro (.sl si) [.slice u l.length x] l,.box g7 24 [.slice none 0 0,.slice none 0 0],.box g345 24 [.slice A350 (((rZ c.length)).length) c351,.slice A358 (((rZ c.length)).length) c359],.own 3 si (.slice A350 (((rZ c.length)).length) c351) f,.own 3 si (.slice A358 (((rZ c.length)).length) c359) g]∧loopN m (F.grid_Rotate_b0 n c l) (d,f,g)=some o47) n ⟨0,(rZ c.length),(rZ c.length),e1,e2,e3,e4,rfl,rfl,rfl,(show I64 0 from by unfold I64; omega),hC.sE [4,6,5,3,2,1,0],hl0⟩ ?_
 have hbK0:=hb
 clear hb hC hl0
 rintro m370 E372 w371 ⟨d,f,g,e1,e2,e3,e4,e5,e19,e20,j,hC,hl0⟩ K369 hK369
 obtain ⟨m370',o373,rfl,hb,hl0⟩:=loopN_some hl0
 unfold F.grid_Rotate_b0 at hb
 refine Wc.seq fun _ hK374=>rg<|lp _ (pu_lss e20 e19)<|ln (hK374 _ _ ?_)
 refine Wc.seq fun _ hK375=>?_
 refine Wc.cond (t:=(decide (d<(c.length:Int)))) (rfl) (fun hq376=>?_) (fun hq376=>?_)
 replace hb:=tt hq376 hb
 refine Wc.skip (hK375 _ _ ?_)
 refine Wc.seq fun _ hK377=>?_
 refine Wc.block<|Wc.seq fun _ hK378=>rg<|lp _ (pu_move e20)<|lp (iv d) (pu_assign rfl)<|ln (hK378 _ _ ?_)
 refine Wc.seq fun _ hK379=>?_
 refine Wc.regionMix [24,28,31] (frm [24,28,31] ([]:List Fact) [.own 3 si (.slice A358 (((rZ c.length)).length) c359) g]) (fun _=>rfl) mixed (by decide+kernel) (by decide+kernel) fun w381 hw380=>?_
 replace hC:=hC.step (Fr.of_drew hw380)
 have hM:=Fr.refl (fun k=>k∈blocks ([]:List Fact)) w381
 clear hw380
 have hS:=hC
 have hD:Fr (fun k=>k∈blocks (([]:List Fact)++[.own 3 si (.slice A358 (((rZ c.length)).length) c359) g])) w381 w381:=hM.wide
 have hUf363:Beside (([]:List Fact)++[.own 3 si (.slice A358 (((rZ c.length)).length) c359) g]) w381 (.slice A358 (((rZ c.length)).length) c359):=Beside.of (i:=0) rfl
 refine mp (.pointer (some ((⟨g345,0,none⟩:Addr).add 1))) (pu_field (sz:=1) underlying24 rfl sizeOf22 (by decide) rfl e5)<|mixE.steady hD (v:=.slice A358 (((rZ c.length)).length) c359) (fun _ hF=>ld_fld (hS.bx2 (i:=4) rfl [6] (by decide) hF) isAgg22 rfl rfl)<|mp (iv (c.length:Int)) (pu_move e4) ?_
 obtain ⟨z62,h383,hb⟩:=bd hb
 refine mp (iv z62) (pu_subc (a:=(c.length:Int)) (b:=1) rfl rfl h383)<|mp (.pointer (some ((⟨g4,0,none⟩:Addr).add 0))) (pu_field (sz:=1) underlying24 rfl sizeOf22 (by decide) rfl e1)<|mixE.steady hD (v:=.slice o c.length p) (fun _ hF=>ld_fld (hS.bx2 (i:=0) rfl [6] (by decide) hF) isAgg22 rfl rfl)<|mp (iv d) (pu_move rfl) ?_
 obtain ⟨x64,h385,hb⟩:=bd hb
 obtain ⟨ad386,cs387,hA,ho390,hc388,hr389⟩:=hS.elr2 (i:=1) rfl (get_some h385).2 [6]
 subst hA
 refine mp (.pointer (some (ad386.add (d.toNat*1)))) (pu_index (a:=d) underlying22 sizeOf3 rfl rfl (get_some h385).1) ?_
 obtain ⟨rfl,hr389'⟩:=hr389
 refine mixE.steady hD (v:=iv x64) (fun _ hF=>ld_one isAgg3 rfl (hF.cell (hc388 0 _ rfl) (off1 ho390))) ?_
 obtain ⟨z71,h392,hb⟩:=bd hb
 refine mp (iv z71) (pu_subc (a:=z62) (b:=x64) rfl rfl h392)<|mp (iv d) (pu_move rfl) ?_
 obtain ⟨x73,h394,hb⟩:=bd hb
 obtain ⟨ad395,cs396,hA,ho399,hc397,hr398⟩:=hS.elo2 (i:=6) rfl (get_some h394).2 [] (by decide)
 subst hA
 refine mp (.pointer (some (ad395.add (z71.toNat*1)))) (pu_index (a:=z71) underlying22 sizeOf3 rfl rfl (by rw [(hC.ow (i:=6) rfl).sl_len.1]; exact (get_some h394).1))<|mixE.sk hD (hC.put (i:=6) rfl rfl sizeOf3 (k:=z71.toNat) (a:=d) (by have:=(get_some h394).1; simp at this⊢; omega) (⟨rfl,I64.wr j⟩) rfl rfl rfl) ?_
 rintro w400 ⟨hC,hF⟩
 replace hD:=hD.beside hUf363 hF
 clear hF
 refine ⟨hD,?_⟩
 refine mixE.nil ?_
 clear hS hM
 clear hD
 refine hK379 _ _<|Wc.fresh fun E401 hE=>?_
 have e1:=cg hE 1 e1
 have e2:=cg hE 2 e2
 have e3:=cg hE 3 e3
 have e4:=cg hE 4 e4
 have e5:=cg hE 5 e5
 have e6:E401 6=iv d:=cg hE 6 rfl
 have e19:=cg hE 19 e19
 have e20:=cg hE 20 e20
 have e21:E401 21=.bool (decide (d<(c.length:Int))):=cg hE 21 rfl
 clear hE
 refine Wc.regionMix [36,40,43] (frm [36,40,43] ([]:List Fact) [.own 3 si (.slice A350 (((rZ c.length)).length) c351) f]) (fun _=>rfl) mixed (by decide+kernel) (by decide+kernel) fun w403 hw402=>?_
 replace hC:=hC.step (Fr.of_drew hw402)
 have hM:=Fr.refl (fun k=>k∈blocks ([]:List Fact)) w403
 clear hw402
 have hS:=hC
 have hD:Fr (fun k=>k∈blocks (([]:List Fact)++[.own 3 si (.slice A350 (((rZ c.length)).length) c351) f])) w403 w403:=hM.wide
 have hUf355:Beside (([]:List Fact)++[.own 3 si (.slice A350 (((rZ c.length)).length) c351) f]) w403 (.slice A350 (((rZ c.length)).length) c351):=Beside.of (i:=0) rfl
 refine mp (.pointer (some ((⟨g345,0,none⟩:Addr).add 0))) (pu_field (sz:=1) underlying24 rfl sizeOf22 (by decide) rfl e5)<|mixE.steady hD (v:=.slice A350 (((rZ c.length)).length) c351) (fun _ hF=>ld_fld (hS.bx2 (i:=4) rfl [5] (by decide) hF) isAgg22 rfl rfl)<|mp (iv (c.length:Int)) (pu_move e4) ?_
 obtain ⟨z84,h405,hb⟩:=bd hb
 refine mp (iv z84) (pu_subc (a:=(c.length:Int)) (b:=1) rfl rfl h405)<|mp (.pointer (some ((⟨g4,0,none⟩:Addr).add 1))) (pu_field (sz:=1) underlying24 rfl sizeOf22 (by decide) rfl e1)<|mixE.steady hD (v:=.slice u l.length x) (fun _ hF=>ld_fld (hS.bx2 (i:=0) rfl [5] (by decide) hF) isAgg22 rfl rfl)<|mp (iv d) (pu_move e6) ?_
 obtain ⟨x86,h407,hb⟩:=bd hb
 obtain ⟨ad408,cs409,hA,ho412,hc410,hr411⟩:=hS.elr2 (i:=2) rfl (get_some h407).2 [5]
 subst hA
 refine mp (.pointer (some (ad408.add (d.toNat*1)))) (pu_index (a:=d) underlying22 sizeOf3 rfl rfl (get_some h407).1) ?_
 obtain ⟨rfl,hr411'⟩:=hr411
 refine mixE.steady hD (v:=iv x86) (fun _ hF=>ld_one isAgg3 rfl (hF.cell (hc410 0 _ rfl) (off1 ho412))) ?_
 obtain ⟨z93,h414,hb⟩:=bd hb
 refine mp (iv z93) (pu_subc (a:=z84) (b:=x86) rfl rfl h414)<|mp (iv d) (pu_move e6) ?_
 obtain ⟨x95,h416,hb⟩:=bd hb
 obtain ⟨ad417,cs418,hA,ho421,hc419,hr420⟩:=hS.elo2 (i:=5) rfl (get_some h416).2 [] (by decide)
 subst hA
 refine mp (.pointer (some (ad417.add (z93.toNat*1)))) (pu_index (a:=z93) underlying22 sizeOf3 rfl rfl (by rw [(hC.ow (i:=5) rfl).sl_len.1]; exact (get_some h416).1))<|mixE.sk hD (hC.put (i:=5) rfl rfl sizeOf3 (k:=z93.toNat) (a:=d) (by have:=(get_some h416).1; simp at this⊢; omega) (⟨rfl,I64.wr j⟩) rfl rfl rfl) ?_
 rintro w422 ⟨hC,hF⟩
 replace hD:=hD.beside hUf355 hF
 clear hF
 refine ⟨hD,?_⟩
 refine mixE.nil ?_
 clear hS hM
 clear hD
 refine hK377 _ _<|rg ?_
 obtain ⟨z103,h424,hb⟩:=bd hb
 refine lp (iv z103) (pu_addc (a:=d) (b:=1) e20 rfl h424)<|lp (iv z103) (pu_move rfl)<|ln ?_
 obtain rfl:=os hb
 exact hK369 m370' _ _ (Nat.lt_succ_self _) ⟨z103,(f.set z93.toNat d),(g.set z71.toNat d),e1,e2,e3,e4,e5,e19,rfl,(chk_rng h424),hC.sE [0,1,2,3,4,5,6],lN hl0⟩
 replace hb:=tf hq376 hb
 refine Wc.exit rfl ?_
 obtain rfl:=os hb
 obtain rfl:=(lX hl0).symm
 exact hK368 _ _ ⟨d,f,g,e2,e3,e5,j,hC.sE [3,4,5,6],hbK0⟩
 clear hb hC hl0
 rintro E426 w425 ⟨d,f,g,e2,e3,e5,j,hC,hb⟩
 subst hf47
 refine hK365 _ _<|Wc.seq fun _ hK427=>rg<|lv (.agg #[.slice A350 (((rZ c.length)).length) c351,.slice A358 (((rZ c.length)).length) c359]) (ld_blk (hC.bx (i:=1) rfl) isAgg24 sizeOf24 e5)<|lex.sk (hC.seta (i:=0) (ds:=[.slice A350 (((rZ c.length)).length) c351,.slice A358 (((rZ c.length)).length) c359]) rfl type24 rfl rfl rfl e2 rfl) ?_
 rintro w428 ⟨hC,hF⟩
 refine lp (iv 0) (pu_assign rfl)<|ln (hK427 _ _ ?_)
 obtain rfl:=os hb
 refine Wc.ret (hKR _ _ ?_)
 refine ⟨_,res2 results31 ⟨_,e2,loadVar_blk (hC.bx (i:=0) rfl) isAgg24 sizeOf24⟩ (tV (iv 0) rfl),_,rfl,A350,((rZ c.length)).length,c351,A358,((rZ c.length)).length,c359,rfl,(show I64 0 from by unfold I64; omega),hC.sE [2,3]⟩
 refine mixPE_chain ?_
 obtain ⟨u25,h430,hb⟩:=bd hb
 refine mixE.op hM (hC.make (s:=si) (n:=(c.length:Int)) underlying22 type3 rfl rfl rfl rfl rfl (pos_some h430).1 (pos_some h430).2 (by decide)) ?_
 rintro _ w435 ⟨A431,c432,rfl,hl433,hc434,hC,hF,hN⟩
 have hBf436:=Beside.new hM hN
 have hUf436:=Beside.new (hM.wide (H:=([]:List Fact))) hN
 replace hM:=hM.none hF
 replace hD:=hM.wide (H:=([]:List Fact))
 refine ⟨hM,?_⟩
 clear hF hN
 refine mixE.nil ?_
 refine mixPE_chain ?_
 obtain ⟨u33,h438,hb⟩:=bd hb
 refine mixE.op hM (hC.make (s:=si) (n:=(c.length:Int)) underlying22 type3 rfl rfl rfl rfl rfl (pos_some h438).1 (pos_some h438).2 (by decide)) ?_
 rintro _ w443 ⟨A439,c440,rfl,hl441,hc442,hC,hF,hN⟩
 have hBf444:=Beside.new hM hN
 have hUf444:=Beside.new (hM.wide (H:=([]:List Fact))) hN
 replace hM:=hM.none hF
 replace hD:=hM.wide (H:=([]:List Fact))
 refine ⟨hM,?_⟩
 clear hF hN
 refine mp (.agg #[.slice A439 (((rZ c.length)).length) c440,.slice A431 (((rZ c.length)).length) c432]) (pu_builds (places:=[(0,1),(1,1)]) (pv:=[(0,.slice A439 (((rZ c.length)).length) c440),(1,.slice A431 (((rZ c.length)).length) c432)]) type24 underlying24 rfl (mp_cons type22 (mp_cons type22 mp_nil rfl rfl) rfl rfl) rfl (by simp [Instr.fill,Value.cells]))<|mixE.sk hD (hC.seta (i:=2) (ds:=[.slice A439 (((rZ c.length)).length) c440,.slice A431 (((rZ c.length)).length) c432]) rfl type24 rfl rfl rfl rfl rfl) ?_
 rintro w445 ⟨hC,hF⟩
 replace hD:=hD.besideG hUf347 hF
 clear hF
 refine ⟨hD,?_⟩
 refine mixE.nil ?_
 clear hS hM
 clear hD
 refine hK22 _ _ ?_
 refine Wc.seq fun _ hK446=>?_
 refine Wc.seq fun _ hK447=>rg<|lp _ (pu_move e4)<|lp (iv 0) (pu_move rfl)<|ln (hK447 _ _ ?_)
 obtain ⟨o47,hl0,f47,hf47,hb⟩:=bn hb
 refine Wc.cut (fun E wv=> ∃(d:Int) (f:List Int) (g:List Int),E 2=pg g7∧E 3=iv 0∧E 5=pg g345∧I64 d∧Cx (fun _=>False) O0 w wv [.box g7 24 [.slice none 0 0,.slice none 0 0],.box g345 24 [.slice A439 (((rZ c.length)).length) c440,.slice A431 (((rZ c.length)).length) c432],.own 3 si (.slice A439 (((rZ c.length)).length) c440) f,.own 3 si (.slice A431 (((rZ c.length)).length) c432) g]∧f47 (d,f,g)=some r) (fun _ hK449=>?_) ?_
 refine Wc.block ?_
 refine Wc.loop (fun m E wv=> ∃(d:Int) (f:List Int) (g:List Int),E 1=pg g4∧E 2=pg g7∧E 3=iv 0∧E 4=iv (c.length:Int)∧E 5=pg g345∧E 19=iv (c.length:Int)∧E 20=iv d∧I64 d∧Cx (fun _=>False) O0 w wv [.box g4 24 [.slice o c.length p,.slice u l.length x],.ro (.sl si) [.slice o c.length p] c,.ro (.sl si) [.slice u l.length x] l,.box g7 24 [.slice none 0 0,.slice none 0 0],.box g345 24 [.slice A439 (((rZ c.length)).length) c440,.slice A431 (((rZ c.length)).length) c432],.own 3 si (.slice A439 (((rZ c.length)).length) c440) f,.own 3 si (.slice A431 (((rZ c.length)).length) c432) g]∧loopN m (F.grid_Rotate_b0 n c l) (d,f,g)=some o47) n ⟨0,(rZ c.length),(rZ c.length),e1,e2,e3,e4,rfl,rfl,rfl,(show I64 0 from by unfold I64; omega),hC.sE [4,6,5,3,2,0,1],hl0⟩ ?_
 have hbK0:=hb
 clear hb hC hl0
 rintro m451 E453 w452 ⟨d,f,g,e1,e2,e3,e4,e5,e19,e20,j,hC,hl0⟩ K450 hK450
 obtain ⟨m451',o454,rfl,hb,hl0⟩:=loopN_some hl0
 unfold F.grid_Rotate_b0 at hb
 refine Wc.seq fun _ hK455=>rg<|lp _ (pu_lss e20 e19)<|ln (hK455 _ _ ?_)
 refine Wc.seq fun _ hK456=>?_
 refine Wc.cond (t:=(decide (d<(c.length:Int)))) (rfl) (fun hq457=>?_) (fun hq457=>?_)
 replace hb:=tt hq457 hb
 refine Wc.skip (hK456 _ _ ?_)
 refine Wc.seq fun _ hK458=>?_
 refine Wc.block<|Wc.seq fun _ hK459=>rg<|lp _ (pu_move e20)<|lp (iv d) (pu_assign rfl)<|ln (hK459 _ _ ?_)
 refine Wc.seq fun _ hK460=>?_
 refine Wc.regionMix [24,28,31] (frm [24,28,31] ([]:List Fact) [.own 3 si (.slice A431 (((rZ c.length)).length) c432) g]) (fun _=>rfl) mixed (by decide+kernel) (by decide+kernel) fun w462 hw461=>?_
 replace hC:=hC.step (Fr.of_drew hw461)
 have hM:=Fr.refl (fun k=>k∈blocks ([]:List Fact)) w462
 clear hw461
 have hS:=hC
 have hD:Fr (fun k=>k∈blocks (([]:List Fact)++[.own 3 si (.slice A431 (((rZ c.length)).length) c432) g])) w462 w462:=hM.wide
 have hUf436:Beside (([]:List Fact)++[.own 3 si (.slice A431 (((rZ c.length)).length) c432) g]) w462 (.slice A431 (((rZ c.length)).length) c432):=Beside.of (i:=0) rfl
 refine mp (.pointer (some ((⟨g345,0,none⟩:Addr).add 1))) (pu_field (sz:=1) underlying24 rfl sizeOf22 (by decide) rfl e5)<|mixE.steady hD (v:=.slice A431 (((rZ c.length)).length) c432) (fun _ hF=>ld_fld (hS.bx2 (i:=4) rfl [6] (by decide) hF) isAgg22 rfl rfl)<|mp (iv (c.length:Int)) (pu_move e4) ?_
 obtain ⟨z62,h464,hb⟩:=bd hb
 refine mp (iv z62) (pu_subc (a:=(c.length:Int)) (b:=1) rfl rfl h464)<|mp (.pointer (some ((⟨g4,0,none⟩:Addr).add 0))) (pu_field (sz:=1) underlying24 rfl sizeOf22 (by decide) rfl e1)<|mixE.steady hD (v:=.slice o c.length p) (fun _ hF=>ld_fld (hS.bx2 (i:=0) rfl [6] (by decide) hF) isAgg22 rfl rfl)<|mp (iv d) (pu_move rfl) ?_
 obtain ⟨x64,h466,hb⟩:=bd hb
 obtain ⟨ad467,cs468,hA,ho471,hc469,hr470⟩:=hS.elr2 (i:=1) rfl (get_some h466).2 [6]
 subst hA
 refine mp (.pointer (some (ad467.add (d.toNat*1)))) (pu_index (a:=d) underlying22 sizeOf3 rfl rfl (get_some h466).1) ?_
 obtain ⟨rfl,hr470'⟩:=hr470
 refine mixE.steady hD (v:=iv x64) (fun _ hF=>ld_one isAgg3 rfl (hF.cell (hc469 0 _ rfl) (off1 ho471))) ?_
 obtain ⟨z71,h473,hb⟩:=bd hb
 refine mp (iv z71) (pu_subc (a:=z62) (b:=x64) rfl rfl h473)<|mp (iv d) (pu_move rfl) ?_
 obtain ⟨x73,h475,hb⟩:=bd hb
 obtain ⟨ad476,cs477,hA,ho480,hc478,hr479⟩:=hS.elo2 (i:=6) rfl (get_some h475).2 [] (by decide)
 subst hA
 refine mp (.pointer (some (ad476.add (z71.toNat*1)))) (pu_index (a:=z71) underlying22 sizeOf3 rfl rfl (by rw [(hC.ow (i:=6) rfl).sl_len.1]; exact (get_some h475).1))<|mixE.sk hD (hC.put (i:=6) rfl rfl sizeOf3 (k:=z71.toNat) (a:=d) (by have:=(get_some h475).1; simp at this⊢; omega) (⟨rfl,I64.wr j⟩) rfl rfl rfl) ?_
 rintro w481 ⟨hC,hF⟩
 replace hD:=hD.beside hUf436 hF
 clear hF
 refine ⟨hD,?_⟩
 refine mixE.nil ?_
 clear hS hM
 clear hD
 refine hK460 _ _<|Wc.fresh fun E482 hE=>?_
 have e1:=cg hE 1 e1
 have e2:=cg hE 2 e2
 have e3:=cg hE 3 e3
 have e4:=cg hE 4 e4
 have e5:=cg hE 5 e5
 have e6:E482 6=iv d:=cg hE 6 rfl
 have e19:=cg hE 19 e19
 have e20:=cg hE 20 e20
 have e21:E482 21=.bool (decide (d<(c.length:Int))):=cg hE 21 rfl
 clear hE
 refine Wc.regionMix [36,40,43] (frm [36,40,43] ([]:List Fact) [.own 3 si (.slice A439 (((rZ c.length)).length) c440) f]) (fun _=>rfl) mixed (by decide+kernel) (by decide+kernel) fun w484 hw483=>?_
 replace hC:=hC.step (Fr.of_drew hw483)
 have hM:=Fr.refl (fun k=>k∈blocks ([]:List Fact)) w484
 clear hw483
 have hS:=hC
 have hD:Fr (fun k=>k∈blocks (([]:List Fact)++[.own 3 si (.slice A439 (((rZ c.length)).length) c440) f])) w484 w484:=hM.wide
 have hUf444:Beside (([]:List Fact)++[.own 3 si (.slice A439 (((rZ c.length)).length) c440) f]) w484 (.slice A439 (((rZ c.length)).length) c440):=Beside.of (i:=0) rfl
 refine mp (.pointer (some ((⟨g345,0,none⟩:Addr).add 0))) (pu_field (sz:=1) underlying24 rfl sizeOf22 (by decide) rfl e5)<|mixE.steady hD (v:=.slice A439 (((rZ c.length)).length) c440) (fun _ hF=>ld_fld (hS.bx2 (i:=4) rfl [5] (by decide) hF) isAgg22 rfl rfl)<|mp (iv (c.length:Int)) (pu_move e4) ?_
 obtain ⟨z84,h486,hb⟩:=bd hb
 refine mp (iv z84) (pu_subc (a:=(c.length:Int)) (b:=1) rfl rfl h486)<|mp (.pointer (some ((⟨g4,0,none⟩:Addr).add 1))) (pu_field (sz:=1) underlying24 rfl sizeOf22 (by decide) rfl e1)<|mixE.steady hD (v:=.slice u l.length x) (fun _ hF=>ld_fld (hS.bx2 (i:=0) rfl [5] (by decide) hF) isAgg22 rfl rfl)<|mp (iv d) (pu_move e6) ?_
 obtain ⟨x86,h488,hb⟩:=bd hb
 obtain ⟨ad489,cs490,hA,ho493,hc491,hr492⟩:=hS.elr2 (i:=2) rfl (get_some h488).2 [5]
 subst hA
 refine mp (.pointer (some (ad489.add (d.toNat*1)))) (pu_index (a:=d) underlying22 sizeOf3 rfl rfl (get_some h488).1) ?_
 obtain ⟨rfl,hr492'⟩:=hr492
 refine mixE.steady hD (v:=iv x86) (fun _ hF=>ld_one isAgg3 rfl (hF.cell (hc491 0 _ rfl) (off1 ho493))) ?_
 obtain ⟨z93,h495,hb⟩:=bd hb
 refine mp (iv z93) (pu_subc (a:=z84) (b:=x86) rfl rfl h495)<|mp (iv d) (pu_move e6) ?_
 obtain ⟨x95,h497,hb⟩:=bd hb
 obtain ⟨ad498,cs499,hA,ho502,hc500,hr501⟩:=hS.elo2 (i:=5) rfl (get_some h497).2 [] (by decide)
 subst hA
 refine mp (.pointer (some (ad498.add (z93.toNat*1)))) (pu_index (a:=z93) underlying22 sizeOf3 rfl rfl (by rw [(hC.ow (i:=5) rfl).sl_len.1]; exact (get_some h497).1))<|mixE.sk hD (hC.put (i:=5) rfl rfl sizeOf3 (k:=z93.toNat) (a:=d) (by have:=(get_some h497).1; simp at this⊢; omega) (⟨rfl,I64.wr j⟩) rfl rfl rfl) ?_
 rintro w503 ⟨hC,hF⟩
 replace hD:=hD.beside hUf444 hF
 clear hF
 refine ⟨hD,?_⟩
 refine mixE.nil ?_
 clear hS hM
 clear hD
 refine hK458 _ _<|rg ?_
 obtain ⟨z103,h505,hb⟩:=bd hb
 refine lp (iv z103) (pu_addc (a:=d) (b:=1) e20 rfl h505)<|lp (iv z103) (pu_move rfl)<|ln ?_
 obtain rfl:=os hb
 exact hK450 m451' _ _ (Nat.lt_succ_self _) ⟨z103,(f.set z93.toNat d),(g.set z71.toNat d),e1,e2,e3,e4,e5,e19,rfl,(chk_rng h505),hC.sE [0,1,2,3,4,5,6],lN hl0⟩
 replace hb:=tf hq457 hb
 refine Wc.exit rfl ?_
 obtain rfl:=os hb
 obtain rfl:=(lX hl0).symm
 exact hK449 _ _ ⟨d,f,g,e2,e3,e5,j,hC.sE [3,4,5,6],hbK0⟩
 clear hb hC hl0
 rintro E507 w506 ⟨d,f,g,e2,e3,e5,j,hC,hb⟩
 subst hf47
 refine hK446 _ _<|Wc.seq fun _ hK508=>rg<|lv (.agg #[.slice A439 (((rZ c.length)).length) c440,.slice A431 (((rZ c.length)).length) c432]) (ld_blk (hC.bx (i:=1) rfl) isAgg24 sizeOf24 e5)<|lex.sk (hC.seta (i:=0) (ds:=[.slice A439 (((rZ c.length)).length) c440,.slice A431 (((rZ c.length)).length) c432]) rfl type24 rfl rfl rfl e2 rfl) ?_
 rintro w509 ⟨hC,hF⟩
 refine lp (iv 0) (pu_assign rfl)<|ln (hK508 _ _ ?_)
 obtain rfl:=os hb
 refine Wc.ret (hKR _ _ ?_)
 refine ⟨_,res2 results31 ⟨_,e2,loadVar_blk (hC.bx (i:=0) rfl) isAgg24 sizeOf24⟩ (tV (iv 0) rfl),_,rfl,A439,((rZ c.length)).length,c440,A431,((rZ c.length)).length,c432,rfl,(show I64 0 from by unfold I64; omega),hC.sE [2,3]⟩
end Go.Proofs.Yticemffhlapnnaa
