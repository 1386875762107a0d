import Derived.Test.YteajmbanlohncaaS
import Derived.Test.YteajmbanlohncaaG8
import Derived.Test.YteajmbanlohncaaG13
import Derived.Test.YteajmbanlohncaaG14
set_option linter.unusedVariables false
set_option linter.unusedSimpArgs false
namespace Go.Proofs.Yteajmbanlohncaa
open Ev Try
set_option maxRecDepth 100000
set_option maxHeartbeats 4000000
theorem ref46_Generic_ok (n:Nat) {w:World} {O0:List Nat} (hO: ∀k∈O0,k<w.heap.size) {p:Option Addr} {H s:Nat} {g:List (List (Int×(Int×Int)))} (J:Rep O0 w (.sl (.sl (.pr si (.pr si si)))) [.slice p H s] g) {r:Bool} (hb:F.ref46_Generic n g=some r):
    Calls prog 19 #[.slice p H s] w fun e w'=> ∃v,e=.returned v∧v=.bool r∧Cx (fun _=>False) O0 w w' []:=by
 unfold F.ref46_Generic at hb
 have hC:=Cx.start hO
 replace hC:=hC.arg rfl J
 clear hO
 obtain ⟨rfl,K,L⟩:=J.sl_len
 refine calls_of_Wc func19 rfl (by rw [ntmps19]; exact nb rfl) fun KR hKR=>?_
 refine Wc.seq fun _ hK2=>rg<|lp (.bool false) (pu_assign rfl)<|ln (hK2 _ _ ?_)
 refine Wc.seq fun _ hK3=>rg<|lp (.slice p g.length s) (pu_move rfl) ?_
 obtain ⟨y4,h5,hb⟩:=bd hb
 refine lex.cl (⟨_,_,op_call (vs:=[.slice p g.length s]) call56 rfl rfl rfl,ref46_Edges_ok n hC.lt (hC.rd (i:=0) rfl) h5⟩) ?_
 rintro _ w10 ⟨A6,m7,c8,rfl,hK⟩
 replace hC:=hC.merge hK
 clear hK
 obtain ⟨rfl,hl11,hc12⟩:=(hC.ow (i:=0) rfl).sl_len
 refine lp (.slice A6 y4.length c8) (pu_assign rfl)<|ln (hK3 _ _ ?_)
 refine Wc.seq fun _ hK13=>?_
 refine Wc.seq fun _ hK14=>rg<|lp (iv 0) (pu_assign rfl)<|ln (hK14 _ _ ?_)
 obtain ⟨o15,hl0,hb⟩:=bd hb
 refine Wc.cut (fun E wv=> ∃(c:Int),E 0=.slice p g.length s∧E 2=.bool false∧E 3=.slice A6 y4.length c8∧I64 c∧Cx (fun _=>False) O0 w wv [.ro (.sl (.sl (.pr si (.pr si si)))) [.slice p g.length s] g,.own 82 (.pr si (.pr si (.pr (.pr si (.pr si si)) (.pr si (.pr si si))))) (.slice A6 y4.length c8) y4]∧(((loopN n (F.ref46_Generic_b4 n g y4) 0).bind fun o678=>match o678 with | (.inl l)=>some true | (.inr q)=>some q):Option (Bool))=some r) (fun _ hK16=>?_) ?_
 refine Wc.block ?_
 refine Wc.loop (fun m E wv=> ∃(c:Int),E 0=.slice p g.length s∧E 2=.bool false∧E 3=.slice A6 y4.length c8∧E 4=iv c∧I64 c∧Cx (fun _=>False) O0 w wv [.ro (.sl (.sl (.pr si (.pr si si)))) [.slice p g.length s] g,.own 82 (.pr si (.pr si (.pr (.pr si (.pr si si)) (.pr si (.pr si si))))) (.slice A6 y4.length c8) y4]∧loopN m (F.ref46_Generic_b0 n g y4) c=some o15) n ⟨0,rfl,rfl,rfl,rfl,(show I64 0 from by unfold I64; omega),hC.sE [1,0],hl0⟩ ?_
 have hbK0:=hb
 clear hb hC hl0
 rintro m18 E20 w19 ⟨c,e0,e2,e3,e4,D,hC,hl0⟩ K17 hK17
 obtain ⟨m18',o21,rfl,hb,hl0⟩:=loopN_some hl0
 unfold F.ref46_Generic_b0 at hb
 refine Wc.seq fun _ hK22=>?_
 refine Wc.seq fun _ hK23=>rg<|lp _ (pu_move e4)<|lp _ (pu_move e3)<|lp (iv (y4.length:Int)) (pu_len (A:=A6) (n:=y4.length) (m:=c8) underlying79 rfl)<|lp (.bool (decide (c<(y4.length:Int)))) (pu_lss (k:=.i64) (a:=c) (b:=(y4.length:Int)) rfl rfl)<|ln (hK23 _ _ ?_)
 refine Wc.cond (t:=(decide (c<(y4.length:Int)))) (rfl) (fun hq24=>?_) (fun hq24=>?_)
 replace hb:=tt hq24 hb
 refine Wc.skip (hK22 _ _ ?_)
 refine Wc.seq fun _ hK25=>?_
 refine Wc.block<|Wc.seq fun _ hK26=>rg<|lp (iv 0) (pu_assign rfl)<|ln (hK26 _ _ ?_)
 obtain ⟨o27,hl1,hb⟩:=bd hb
 refine Wc.cut (fun E wv=> ∃(d:Int),E 0=.slice p g.length s∧E 2=.bool false∧E 3=.slice A6 y4.length c8∧E 4=iv c∧E 5=iv d∧E 22=.bool (decide (c<(y4.length:Int)))∧I64 d∧Cx (fun _=>False) O0 w wv [.ro (.sl (.sl (.pr si (.pr si si)))) [.slice p g.length s] g,.own 82 (.pr si (.pr si (.pr (.pr si (.pr si si)) (.pr si (.pr si si))))) (.slice A6 y4.length c8) y4]∧((chk (c+1)).bind fun z672=>some (.inl z672):Option ((Int)⊕((Int)⊕(Bool))))=some o21) (fun _ hK28=>?_) ?_
 refine Wc.block ?_
 refine Wc.loop (fun m E wv=> ∃(d:Int),E 0=.slice p g.length s∧E 2=.bool false∧E 3=.slice A6 y4.length c8∧E 4=iv c∧E 5=iv d∧E 22=.bool (decide (c<(y4.length:Int)))∧I64 d∧Cx (fun _=>False) O0 w wv [.ro (.sl (.sl (.pr si (.pr si si)))) [.slice p g.length s] g,.own 82 (.pr si (.pr si (.pr (.pr si (.pr si si)) (.pr si (.pr si si))))) (.slice A6 y4.length c8) y4]∧loopN m (F.ref46_Generic_b1 n g y4 c) d=some o27) n ⟨0,e0,e2,e3,e4,rfl,rfl,(show I64 0 from by unfold I64; omega),hC.sE [0,1],hl1⟩ ?_
 have hbK1:=hb
 clear hb hC hl1
 rintro m30 E32 w31 ⟨d,e0,e2,e3,e4,e5,e22,G,hC,hl1⟩ K29 hK29
 obtain ⟨m30',o33,rfl,hb,hl1⟩:=loopN_some hl1
 unfold F.ref46_Generic_b1 at hb
 refine Wc.seq fun _ hK34=>?_
 refine Wc.seq fun _ hK35=>rg<|lp _ (pu_move e5)<|lp _ (pu_move e3)<|lp (iv (y4.length:Int)) (pu_len (A:=A6) (n:=y4.length) (m:=c8) underlying79 rfl)<|lp (.bool (decide (d<(y4.length:Int)))) (pu_lss (k:=.i64) (a:=d) (b:=(y4.length:Int)) rfl rfl)<|ln (hK35 _ _ ?_)
 refine Wc.cond (t:=(decide (d<(y4.length:Int)))) (rfl) (fun hq36=>?_) (fun hq36=>?_)
 replace hb:=tt hq36 hb
 refine Wc.skip (hK34 _ _ ?_)
 refine Wc.seq fun _ hK37=>?_
 refine Wc.block ?_
 refine Wc.seq fun _ hK38=>?_
 refine Wc.seq fun _ hK39=>rg<|lp _ (pu_move e4)<|lp _ (pu_move e5)<|lp (.bool (decide (c=d))) (pu_eql (k:=.i64) (a:=c) (b:=d) rfl rfl)<|ln (hK39 _ _ ?_)
 refine Wc.cond (t:=(decide (c=d))) (rfl) (fun hq40=>?_) (fun hq40=>?_)
 replace hb:=tt hq40 hb
 refine Wc.exit rfl ?_
 refine hK37 _ _<|rg<|lp _ (pu_move e5) ?_
 obtain ⟨z41,h42,hb⟩:=bd hb
 refine lp (iv z41) (pu_addc (a:=d) (b:=1) rfl rfl h42)<|lp (iv z41) (pu_assign rfl)<|ln ?_
 obtain rfl:=os hb
 exact hK29 m30' _ _ (Nat.lt_succ_self _) ⟨z41,e0,e2,e3,e4,rfl,e22,(chk_rng h42),hC.sE [0,1],lN hl1⟩
 replace hb:=tf hq40 hb
 refine Wc.skip (hK38 _ _ ?_)
 refine Wc.seq fun _ hK43=>?_
 refine Wc.seq fun _ hK44=>?_
 refine Wc.regionMix [] (frm [] ([]:List Fact) ([]:List Fact)) (fun _=>rfl) mixed (by decide+kernel) (by decide+kernel) fun w46 hw45=>?_
 replace hC:=hC.step (Fr.of_drew hw45)
 have hM:=Fr.refl (fun k=>k∈blocks ([]:List Fact)) w46
 clear hw45
 have hS:=hC
 refine mp (.slice A6 y4.length c8) (pu_move e3)<|mp (iv c) (pu_move e4) ?_
 obtain ⟨x47,h48,hb⟩:=bd hb
 obtain ⟨ad49,cs50,hA,ho53,hc51,hr52⟩:=hS.elo2 (i:=1) rfl (get_some h48).2 [] (by decide)
 subst hA
 refine mp (.pointer (some (ad49.add (c.toNat*8)))) (pu_index (a:=c) underlying79 sizeOf82 rfl rfl (get_some h48).1) ?_
 obtain ⟨k54,k55,rfl,hr56,hr57⟩:=hr52
 obtain ⟨rfl,hr56⟩:=hr56
 obtain ⟨k58,k59,rfl,hr60,hr61⟩:=hr57
 obtain ⟨rfl,hr60⟩:=hr60
 obtain ⟨k62,k63,rfl,hr64,hr65⟩:=hr61
 obtain ⟨k66,k67,rfl,hr68,hr69⟩:=hr64
 obtain ⟨rfl,hr68⟩:=hr68
 obtain ⟨k70,k71,rfl,hr72,hr73⟩:=hr69
 obtain ⟨rfl,hr72⟩:=hr72
 obtain ⟨rfl,hr73⟩:=hr73
 obtain ⟨k74,k75,rfl,hr76,hr77⟩:=hr65
 obtain ⟨rfl,hr76⟩:=hr76
 obtain ⟨k78,k79,rfl,hr80,hr81⟩:=hr77
 obtain ⟨rfl,hr80⟩:=hr80
 obtain ⟨rfl,hr81⟩:=hr81
 refine mp (.pointer (some ((ad49.add (c.toNat*8)).add 2))) (pu_field (A:=(ad49.add (c.toNat*8))) (off:=2) (sz:=3) underlying82 rfl sizeOf23 (by decide) rfl rfl)<|mixE.load hM (v:=.agg #[iv x47.2.2.1.1,iv x47.2.2.1.2.1,iv x47.2.2.1.2.2]) (fun _ hF=>ld_agg isAgg23 sizeOf23 rfl rfl (sub_cells (o:=2) (n:=3) (fun j u hu=>hF.cell (hc51 j u hu) (off2 ho53)) rfl rfl))<|mp (.slice (some ad49) y4.length c8) (pu_move e3)<|mp (iv d) (pu_move e5) ?_
 obtain ⟨x82,h83,hb⟩:=bd hb
 obtain ⟨ad84,cs85,hA,ho88,hc86,hr87⟩:=hS.elo2 (i:=1) rfl (get_some h83).2 [] (by decide)
 obtain rfl:=Option.some.inj hA
 refine mp (.pointer (some (ad49.add (d.toNat*8)))) (pu_index (a:=d) underlying79 sizeOf82 rfl rfl (get_some h83).1) ?_
 obtain ⟨k89,k90,rfl,hr91,hr92⟩:=hr87
 obtain ⟨rfl,hr91⟩:=hr91
 obtain ⟨k93,k94,rfl,hr95,hr96⟩:=hr92
 obtain ⟨rfl,hr95⟩:=hr95
 obtain ⟨k97,k98,rfl,hr99,hr100⟩:=hr96
 obtain ⟨k101,k102,rfl,hr103,hr104⟩:=hr99
 obtain ⟨rfl,hr103⟩:=hr103
 obtain ⟨k105,k106,rfl,hr107,hr108⟩:=hr104
 obtain ⟨rfl,hr107⟩:=hr107
 obtain ⟨rfl,hr108⟩:=hr108
 obtain ⟨k109,k110,rfl,hr111,hr112⟩:=hr100
 obtain ⟨rfl,hr111⟩:=hr111
 obtain ⟨k113,k114,rfl,hr115,hr116⟩:=hr112
 obtain ⟨rfl,hr115⟩:=hr115
 obtain ⟨rfl,hr116⟩:=hr116
 refine mp (.pointer (some ((ad49.add (d.toNat*8)).add 2))) (pu_field (A:=(ad49.add (d.toNat*8))) (off:=2) (sz:=3) underlying82 rfl sizeOf23 (by decide) rfl rfl)<|mixE.load hM (v:=.agg #[iv x82.2.2.1.1,iv x82.2.2.1.2.1,iv x82.2.2.1.2.2]) (fun _ hF=>ld_agg isAgg23 sizeOf23 rfl rfl (sub_cells (o:=2) (n:=3) (fun j u hu=>hF.cell (hc86 j u hu) (off2 ho88)) rfl rfl)) ?_
 obtain ⟨y117,h118,hb⟩:=bd hb
 refine mixE.cl hM (⟨_,_,op_call (vs:=[.agg #[iv x47.2.2.1.1,iv x47.2.2.1.2.1,iv x47.2.2.1.2.2],.agg #[iv x82.2.2.1.1,iv x82.2.2.1.2.1,iv x82.2.2.1.2.2]]) call57 rfl rfl rfl,ref46_flat_ok n hC.lt (wrap_I64 hr68) (wrap_I64 hr72) (wrap_I64 hr73) (wrap_I64 hr103) (wrap_I64 hr107) (wrap_I64 hr108) h118⟩) ?_
 rintro _ w119 ⟨rfl,hK⟩
 replace hM:=hM.none hK.fr
 refine ⟨hM,?_⟩
 replace hC:=hC.merge hK
 clear hK
 refine mixE.nil ?_
 clear hS hM
 refine hK44 _ _<|Wc.cond (t:=y117) (rfl) (fun hq120=>?_) (fun hq120=>?_)
 replace hb:=tt hq120 hb
 refine Wc.seq fun _ hK121=>rg<|lp (.bool false) (pu_assign rfl)<|ln (hK121 _ _ ?_)
 obtain rfl:=os hb
 obtain rfl:=(lX hl1).symm
 replace hb:=hbK1
 obtain rfl:=os hb
 obtain rfl:=(lX hl0).symm
 replace hb:=hbK0
 obtain rfl:=os hb
 refine Wc.ret (hKR _ _ ?_)
 refine ⟨_,res1 results19 (tV (.bool false) rfl),_,rfl,rfl,hC.sE []⟩
 replace hb:=tf hq120 hb
 refine Wc.skip (hK43 _ _ ?_)
 refine Wc.fresh fun E122 hE=>?_
 have e0:=cg hE 0 e0
 have e2:=cg hE 2 e2
 have e3:=cg hE 3 e3
 have e4:=cg hE 4 e4
 have e5:=cg hE 5 e5
 have e22:=cg hE 22 e22
 have e28:E122 28=.bool (decide (d<(y4.length:Int))):=cg hE 28 rfl
 have e33:E122 33=.bool (decide (c=d)):=cg hE 33 rfl
 have e44:E122 44=.bool y117:=cg hE 44 rfl
 clear hE
 refine Wc.seqJ (fun E wv=> ∃(f:Bool),E 0=.slice p g.length s∧E 2=.bool false∧E 3=.slice (some ad49) y4.length c8∧E 4=iv c∧E 5=iv d∧E 6=.bool f∧E 22=.bool (decide (c<(y4.length:Int)))∧E 28=.bool (decide (d<(y4.length:Int)))∧E 33=.bool (decide (c=d))∧E 44=.bool y117∧Cx (fun _=>False) O0 w wv [.ro (.sl (.sl (.pr si (.pr si si)))) [.slice p g.length s] g,.own 82 (.pr si (.pr si (.pr (.pr si (.pr si si)) (.pr si (.pr si si))))) (.slice (some ad49) y4.length c8) y4]∧F.ref46_Generic_j2 n g y4 c d f=some o33) (fun _ hK123=>?_) ?_
 refine Wc.regionMix [] (frm [] ([]:List Fact) ([]:List Fact)) (fun _=>rfl) mixed (by decide+kernel) (by decide+kernel) fun w125 hw124=>?_
 replace hC:=hC.step (Fr.of_drew hw124)
 have hM:=Fr.refl (fun k=>k∈blocks ([]:List Fact)) w125
 clear hw124
 have hS:=hC
 refine mp (.slice (some ad49) y4.length c8) (pu_move e3)<|mp (iv c) (pu_move e4) ?_
 obtain ⟨x126,h127,hb⟩:=bd hb
 obtain ⟨ad128,cs129,hA,ho132,hc130,hr131⟩:=hS.elo2 (i:=1) rfl (get_some h127).2 [] (by decide)
 obtain rfl:=Option.some.inj hA
 refine mp (.pointer (some (ad49.add (c.toNat*8)))) (pu_index (a:=c) underlying79 sizeOf82 rfl rfl (get_some h127).1) ?_
 obtain ⟨k133,k134,rfl,hr135,hr136⟩:=hr131
 obtain ⟨rfl,hr135⟩:=hr135
 obtain ⟨k137,k138,rfl,hr139,hr140⟩:=hr136
 obtain ⟨rfl,hr139⟩:=hr139
 obtain ⟨k141,k142,rfl,hr143,hr144⟩:=hr140
 obtain ⟨k145,k146,rfl,hr147,hr148⟩:=hr143
 obtain ⟨rfl,hr147⟩:=hr147
 obtain ⟨k149,k150,rfl,hr151,hr152⟩:=hr148
 obtain ⟨rfl,hr151⟩:=hr151
 obtain ⟨rfl,hr152⟩:=hr152
 obtain ⟨k153,k154,rfl,hr155,hr156⟩:=hr144
 obtain ⟨rfl,hr155⟩:=hr155
 obtain ⟨k157,k158,rfl,hr159,hr160⟩:=hr156
 obtain ⟨rfl,hr159⟩:=hr159
 obtain ⟨rfl,hr160⟩:=hr160
 refine mp (.pointer (some ((ad49.add (c.toNat*8)).add 0))) (pu_field (A:=(ad49.add (c.toNat*8))) (off:=0) (sz:=1) underlying82 rfl sizeOf3 (by decide) rfl rfl)<|mixE.load hM (v:=iv x126.1) (fun _ hF=>ld_one isAgg3 rfl (hF.cell (hc130 0 _ rfl) (off2 ho132)))<|mp (.slice (some ad49) y4.length c8) (pu_move e3)<|mp (iv d) (pu_move e5) ?_
 obtain ⟨x161,h162,hb⟩:=bd hb
 obtain ⟨ad163,cs164,hA,ho167,hc165,hr166⟩:=hS.elo2 (i:=1) rfl (get_some h162).2 [] (by decide)
 obtain rfl:=Option.some.inj hA
 refine mp (.pointer (some (ad49.add (d.toNat*8)))) (pu_index (a:=d) underlying79 sizeOf82 rfl rfl (get_some h162).1) ?_
 obtain ⟨k168,k169,rfl,hr170,hr171⟩:=hr166
 obtain ⟨rfl,hr170⟩:=hr170
 obtain ⟨k172,k173,rfl,hr174,hr175⟩:=hr171
 obtain ⟨rfl,hr174⟩:=hr174
 obtain ⟨k176,k177,rfl,hr178,hr179⟩:=hr175
 obtain ⟨k180,k181,rfl,hr182,hr183⟩:=hr178
 obtain ⟨rfl,hr182⟩:=hr182
 obtain ⟨k184,k185,rfl,hr186,hr187⟩:=hr183
 obtain ⟨rfl,hr186⟩:=hr186
 obtain ⟨rfl,hr187⟩:=hr187
 obtain ⟨k188,k189,rfl,hr190,hr191⟩:=hr179
 obtain ⟨rfl,hr190⟩:=hr190
 obtain ⟨k192,k193,rfl,hr194,hr195⟩:=hr191
 obtain ⟨rfl,hr194⟩:=hr194
 obtain ⟨rfl,hr195⟩:=hr195
 refine mp (.pointer (some ((ad49.add (d.toNat*8)).add 0))) (pu_field (A:=(ad49.add (d.toNat*8))) (off:=0) (sz:=1) underlying82 rfl sizeOf3 (by decide) rfl rfl)<|mixE.load hM (v:=iv x161.1) (fun _ hF=>ld_one isAgg3 rfl (hF.cell (hc165 0 _ rfl) (off2 ho167)))<|mp (.bool (decide (x126.1=x161.1))) (pu_eql (k:=.i64) (a:=x126.1) (b:=x161.1) rfl rfl)<|mp (.bool (decide (x126.1=x161.1))) (pu_move rfl) ?_
 rcases bS (decide (x126.1=x161.1)) with hq196 | hq196
 replace hb:=tt hq196 hb
 refine mixE.gpure rfl (want_t rfl rfl (show _=Value.bool (decide (x126.1=x161.1)) from rfl) hq196) (v:=.slice (some ad49) y4.length c8) (pu_move e3)<|mixE.gpure rfl (want_t rfl rfl (show _=Value.bool (decide (x126.1=x161.1)) from rfl) hq196) (v:=iv c) (pu_move e4) ?_
 obtain ⟨x197,h198,hb⟩:=bd hb
 obtain ⟨ad199,cs200,hA,ho203,hc201,hr202⟩:=hS.elo2 (i:=1) rfl (get_some h198).2 [] (by decide)
 obtain rfl:=Option.some.inj hA
 refine mixE.gpure rfl (want_t rfl rfl (show _=Value.bool (decide (x126.1=x161.1)) from rfl) hq196) (v:=.pointer (some (ad49.add (c.toNat*8)))) (pu_index (a:=c) underlying79 sizeOf82 rfl rfl (get_some h198).1) ?_
 obtain ⟨k204,k205,rfl,hr206,hr207⟩:=hr202
 obtain ⟨rfl,hr206⟩:=hr206
 obtain ⟨k208,k209,rfl,hr210,hr211⟩:=hr207
 obtain ⟨rfl,hr210⟩:=hr210
 obtain ⟨k212,k213,rfl,hr214,hr215⟩:=hr211
 obtain ⟨k216,k217,rfl,hr218,hr219⟩:=hr214
 obtain ⟨rfl,hr218⟩:=hr218
 obtain ⟨k220,k221,rfl,hr222,hr223⟩:=hr219
 obtain ⟨rfl,hr222⟩:=hr222
 obtain ⟨rfl,hr223⟩:=hr223
 obtain ⟨k224,k225,rfl,hr226,hr227⟩:=hr215
 obtain ⟨rfl,hr226⟩:=hr226
 obtain ⟨k228,k229,rfl,hr230,hr231⟩:=hr227
 obtain ⟨rfl,hr230⟩:=hr230
 obtain ⟨rfl,hr231⟩:=hr231
 refine mixE.gpure rfl (want_t rfl rfl (show _=Value.bool (decide (x126.1=x161.1)) from rfl) hq196) (v:=.pointer (some ((ad49.add (c.toNat*8)).add 1))) (pu_field (A:=(ad49.add (c.toNat*8))) (off:=1) (sz:=1) underlying82 rfl sizeOf3 (by decide) rfl rfl)<|mixE.gload rfl (want_t rfl rfl (show _=Value.bool (decide (x126.1=x161.1)) from rfl) hq196) hM (v:=iv x197.2.1) (fun _ hF=>ld_one isAgg3 rfl (hF.cell (hc201 1 _ rfl) (off2 ho203))) ?_
 obtain ⟨z232,h233,hb⟩:=bd hb
 refine mixE.gpure rfl (want_t rfl rfl (show _=Value.bool (decide (x126.1=x161.1)) from rfl) hq196) (v:=iv z232) (pu_addc (a:=x197.2.1) (b:=1) rfl rfl h233)<|mixE.gpure rfl (want_t rfl rfl (show _=Value.bool (decide (x126.1=x161.1)) from rfl) hq196) (v:=.slice p g.length s) (pu_move e0)<|mixE.gpure rfl (want_t rfl rfl (show _=Value.bool (decide (x126.1=x161.1)) from rfl) hq196) (v:=.slice (some ad49) y4.length c8) (pu_move e3)<|mixE.gpure rfl (want_t rfl rfl (show _=Value.bool (decide (x126.1=x161.1)) from rfl) hq196) (v:=iv c) (pu_move e4) ?_
 obtain ⟨x234,h235,hb⟩:=bd hb
 obtain ⟨ad236,cs237,hA,ho240,hc238,hr239⟩:=hS.elo2 (i:=1) rfl (get_some h235).2 [] (by decide)
 obtain rfl:=Option.some.inj hA
 refine mixE.gpure rfl (want_t rfl rfl (show _=Value.bool (decide (x126.1=x161.1)) from rfl) hq196) (v:=.pointer (some (ad49.add (c.toNat*8)))) (pu_index (a:=c) underlying79 sizeOf82 rfl rfl (get_some h235).1) ?_
 obtain ⟨k241,k242,rfl,hr243,hr244⟩:=hr239
 obtain ⟨rfl,hr243⟩:=hr243
 obtain ⟨k245,k246,rfl,hr247,hr248⟩:=hr244
 obtain ⟨rfl,hr247⟩:=hr247
 obtain ⟨k249,k250,rfl,hr251,hr252⟩:=hr248
 obtain ⟨k253,k254,rfl,hr255,hr256⟩:=hr251
 obtain ⟨rfl,hr255⟩:=hr255
 obtain ⟨k257,k258,rfl,hr259,hr260⟩:=hr256
 obtain ⟨rfl,hr259⟩:=hr259
 obtain ⟨rfl,hr260⟩:=hr260
 obtain ⟨k261,k262,rfl,hr263,hr264⟩:=hr252
 obtain ⟨rfl,hr263⟩:=hr263
 obtain ⟨k265,k266,rfl,hr267,hr268⟩:=hr264
 obtain ⟨rfl,hr267⟩:=hr267
 obtain ⟨rfl,hr268⟩:=hr268
 refine mixE.gpure rfl (want_t rfl rfl (show _=Value.bool (decide (x126.1=x161.1)) from rfl) hq196) (v:=.pointer (some ((ad49.add (c.toNat*8)).add 0))) (pu_field (A:=(ad49.add (c.toNat*8))) (off:=0) (sz:=1) underlying82 rfl sizeOf3 (by decide) rfl rfl)<|mixE.gload rfl (want_t rfl rfl (show _=Value.bool (decide (x126.1=x161.1)) from rfl) hq196) hM (v:=iv x234.1) (fun _ hF=>ld_one isAgg3 rfl (hF.cell (hc238 0 _ rfl) (off2 ho240))) ?_
 obtain ⟨x269,h270,hb⟩:=bd hb
 obtain ⟨ad271,cs272,hA,ho275,hc273,hr274⟩:=hS.elr2 (i:=0) rfl (get_some h270).2 []
 subst hA
 refine mixE.gpure rfl (want_t rfl rfl (show _=Value.bool (decide (x126.1=x161.1)) from rfl) hq196) (v:=.pointer (some (ad271.add (x234.1.toNat*1)))) (pu_index (a:=x234.1) underlying28 sizeOf43 rfl rfl (get_some h270).1) ?_
 have hR:=hr274
 obtain ⟨A276,c277,rfl,hl278,hc279,_⟩:=hr274
 replace hS:=hS.ro hR
 replace hC:=hC.ro hR
 clear hR
 refine mixE.gload rfl (want_t rfl rfl (show _=Value.bool (decide (x126.1=x161.1)) from rfl) hq196) hM (v:=.slice A276 x269.length c277) (fun _ hF=>ld_one isAgg43 rfl (hF.cell (hc273 0 _ rfl) (off1 ho275)))<|mixE.gpure rfl (want_t rfl rfl (show _=Value.bool (decide (x126.1=x161.1)) from rfl) hq196) (v:=iv (x269.length:Int)) (pu_len (A:=A276) (n:=x269.length) (m:=c277) underlying43 rfl) ?_
 obtain ⟨u281,h282,hb⟩:=bd hb
 refine mixE.gpure rfl (want_t rfl rfl (show _=Value.bool (decide (x126.1=x161.1)) from rfl) hq196) (v:=iv (Int.tmod z232 (x269.length:Int))) (pu_remc (a:=z232) (b:=(x269.length:Int)) rfl rfl h282)<|mixE.gpure rfl (want_t rfl rfl (show _=Value.bool (decide (x126.1=x161.1)) from rfl) hq196) (v:=.slice (some ad49) y4.length c8) (pu_move e3)<|mixE.gpure rfl (want_t rfl rfl (show _=Value.bool (decide (x126.1=x161.1)) from rfl) hq196) (v:=iv d) (pu_move e5) ?_
 obtain ⟨x283,h284,hb⟩:=bd hb
 obtain ⟨ad285,cs286,hA,ho289,hc287,hr288⟩:=hS.elo2 (i:=2) rfl (get_some h284).2 [] (by decide)
 obtain rfl:=Option.some.inj hA
 refine mixE.gpure rfl (want_t rfl rfl (show _=Value.bool (decide (x126.1=x161.1)) from rfl) hq196) (v:=.pointer (some (ad49.add (d.toNat*8)))) (pu_index (a:=d) underlying79 sizeOf82 rfl rfl (get_some h284).1) ?_
 obtain ⟨k290,k291,rfl,hr292,hr293⟩:=hr288
 obtain ⟨rfl,hr292⟩:=hr292
 obtain ⟨k294,k295,rfl,hr296,hr297⟩:=hr293
 obtain ⟨rfl,hr296⟩:=hr296
 obtain ⟨k298,k299,rfl,hr300,hr301⟩:=hr297
 obtain ⟨k302,k303,rfl,hr304,hr305⟩:=hr300
 obtain ⟨rfl,hr304⟩:=hr304
 obtain ⟨k306,k307,rfl,hr308,hr309⟩:=hr305
 obtain ⟨rfl,hr308⟩:=hr308
 obtain ⟨rfl,hr309⟩:=hr309
 obtain ⟨k310,k311,rfl,hr312,hr313⟩:=hr301
 obtain ⟨rfl,hr312⟩:=hr312
 obtain ⟨k314,k315,rfl,hr316,hr317⟩:=hr313
 obtain ⟨rfl,hr316⟩:=hr316
 obtain ⟨rfl,hr317⟩:=hr317
 refine mixE.gpure rfl (want_t rfl rfl (show _=Value.bool (decide (x126.1=x161.1)) from rfl) hq196) (v:=.pointer (some ((ad49.add (d.toNat*8)).add 1))) (pu_field (A:=(ad49.add (d.toNat*8))) (off:=1) (sz:=1) underlying82 rfl sizeOf3 (by decide) rfl rfl)<|mixE.gload rfl (want_t rfl rfl (show _=Value.bool (decide (x126.1=x161.1)) from rfl) hq196) hM (v:=iv x283.2.1) (fun _ hF=>ld_one isAgg3 rfl (hF.cell (hc287 1 _ rfl) (off2 ho289)))<|mixE.gpure rfl (want_t rfl rfl (show _=Value.bool (decide (x126.1=x161.1)) from rfl) hq196) (v:=.bool (decide ((Int.tmod z232 (x269.length:Int))=x283.2.1))) (pu_eql (k:=.i64) (a:=(Int.tmod z232 (x269.length:Int))) (b:=x283.2.1) rfl rfl)<|mp (.bool (decide ((Int.tmod z232 (x269.length:Int))=x283.2.1))) (pu_pickT (q:=(decide (x126.1=x161.1))) rfl hq196 rfl)<|mp (.bool (decide ((Int.tmod z232 (x269.length:Int))=x283.2.1))) (pu_assign rfl)<|mixE.nil ?_
 clear hS hM
 exact hK123 _ _ ⟨(decide ((Int.tmod z232 (x269.length:Int))=x283.2.1)),e0,e2,e3,e4,e5,rfl,e22,e28,e33,e44,hC.sE [1,2],hb⟩
 replace hb:=tf hq196 hb
 refine mixE.gskip (want_f rfl rfl (show _=Value.bool (decide (x126.1=x161.1)) from rfl) hq196)<|mixE.gskip (want_f rfl rfl (show _=Value.bool (decide (x126.1=x161.1)) from rfl) hq196)<|mixE.gskip (want_f rfl rfl (show _=Value.bool (decide (x126.1=x161.1)) from rfl) hq196)<|mixE.gskip (want_f rfl rfl (show _=Value.bool (decide (x126.1=x161.1)) from rfl) hq196)<|mixE.gskip (want_f rfl rfl (show _=Value.bool (decide (x126.1=x161.1)) from rfl) hq196)<|mixE.gskip (want_f rfl rfl (show _=Value.bool (decide (x126.1=x161.1)) from rfl) hq196)<|mixE.gskip (want_f rfl rfl (show _=Value.bool (decide (x126.1=x161.1)) from rfl) hq196)<|mixE.gskip (want_f rfl rfl (show _=Value.bool (decide (x126.1=x161.1)) from rfl) hq196)<|mixE.gskip (want_f rfl rfl (show _=Value.bool (decide (x126.1=x161.1)) from rfl) hq196)<|mixE.gskip (want_f rfl rfl (show _=Value.bool (decide (x126.1=x161.1)) from rfl) hq196)<|mixE.gskip (want_f rfl rfl (show _=Value.bool (decide (x126.1=x161.1)) from rfl) hq196)<|mixE.gskip (want_f rfl rfl (show _=Value.bool (decide (x126.1=x161.1)) from rfl) hq196)<|mixE.gskip (want_f rfl rfl (show _=Value.bool (decide (x126.1=x161.1)) from rfl) hq196)<|mixE.gskip (want_f rfl rfl (show _=Value.bool (decide (x126.1=x161.1)) from rfl) hq196)<|mixE.gskip (want_f rfl rfl (show _=Value.bool (decide (x126.1=x161.1)) from rfl) hq196)<|mixE.gskip (want_f rfl rfl (show _=Value.bool (decide (x126.1=x161.1)) from rfl) hq196)<|mixE.gskip (want_f rfl rfl (show _=Value.bool (decide (x126.1=x161.1)) from rfl) hq196)<|mixE.gskip (want_f rfl rfl (show _=Value.bool (decide (x126.1=x161.1)) from rfl) hq196)<|mixE.gskip (want_f rfl rfl (show _=Value.bool (decide (x126.1=x161.1)) from rfl) hq196)<|mixE.gskip (want_f rfl rfl (show _=Value.bool (decide (x126.1=x161.1)) from rfl) hq196)<|mixE.gskip (want_f rfl rfl (show _=Value.bool (decide (x126.1=x161.1)) from rfl) hq196)<|mixE.gskip (want_f rfl rfl (show _=Value.bool (decide (x126.1=x161.1)) from rfl) hq196)<|mp (.bool false) (pu_pickF (q:=(decide (x126.1=x161.1))) rfl hq196 rfl)<|mp (.bool false) (pu_assign rfl)<|mixE.nil ?_
 clear hS hM
 exact hK123 _ _ ⟨false,e0,e2,e3,e4,e5,rfl,e22,e28,e33,e44,hC.sE [0,1],hb⟩
 clear hb hC
 rintro E319 w318 ⟨f,e0,e2,e3,e4,e5,e6,e22,e28,e33,e44,hC,hb⟩
 unfold F.ref46_Generic_j2 at hb
 refine Wc.seqJ (fun E wv=> ∃(C:Bool),E 0=.slice p g.length s∧E 2=.bool false∧E 3=.slice (some ad49) y4.length c8∧E 4=iv c∧E 5=iv d∧E 6=.bool f∧E 22=.bool (decide (c<(y4.length:Int)))∧E 28=.bool (decide (d<(y4.length:Int)))∧E 33=.bool (decide (c=d))∧E 44=.bool y117∧E 99=.bool C∧Cx (fun _=>False) O0 w wv [.ro (.sl (.sl (.pr si (.pr si si)))) [.slice p g.length s] g,.own 82 (.pr si (.pr si (.pr (.pr si (.pr si si)) (.pr si (.pr si si))))) (.slice (some ad49) y4.length c8) y4]∧F.ref46_Generic_j3 n g y4 c d C=some o33) (fun _ hK320=>?_) ?_
 refine Wc.seq fun _ hK321=>?_
 refine Wc.regionMix [] (frm [] ([]:List Fact) ([]:List Fact)) (fun _=>rfl) mixed (by decide+kernel) (by decide+kernel) fun w323 hw322=>?_
 replace hC:=hC.step (Fr.of_drew hw322)
 have hM:=Fr.refl (fun k=>k∈blocks ([]:List Fact)) w323
 clear hw322
 have hS:=hC
 refine mp (.bool f) (pu_move e6)<|mp (.bool (!f)) (pu_not (q:=f) rfl)<|mp (.bool (!f)) (pu_move rfl) ?_
 rcases bS (!f) with hq324 | hq324
 replace hb:=tt hq324 hb
 refine mixE.gpure rfl (want_t rfl rfl (show _=Value.bool (!f) from rfl) hq324) (v:=.slice (some ad49) y4.length c8) (pu_move e3)<|mixE.gpure rfl (want_t rfl rfl (show _=Value.bool (!f) from rfl) hq324) (v:=iv d) (pu_move e5) ?_
 obtain ⟨x325,h326,hb⟩:=bd hb
 obtain ⟨ad327,cs328,hA,ho331,hc329,hr330⟩:=hS.elo2 (i:=1) rfl (get_some h326).2 [] (by decide)
 obtain rfl:=Option.some.inj hA
 refine mixE.gpure rfl (want_t rfl rfl (show _=Value.bool (!f) from rfl) hq324) (v:=.pointer (some (ad49.add (d.toNat*8)))) (pu_index (a:=d) underlying79 sizeOf82 rfl rfl (get_some h326).1) ?_
 obtain ⟨k332,k333,rfl,hr334,hr335⟩:=hr330
 obtain ⟨rfl,hr334⟩:=hr334
 obtain ⟨k336,k337,rfl,hr338,hr339⟩:=hr335
 obtain ⟨rfl,hr338⟩:=hr338
 obtain ⟨k340,k341,rfl,hr342,hr343⟩:=hr339
 obtain ⟨k344,k345,rfl,hr346,hr347⟩:=hr342
 obtain ⟨rfl,hr346⟩:=hr346
 obtain ⟨k348,k349,rfl,hr350,hr351⟩:=hr347
 obtain ⟨rfl,hr350⟩:=hr350
 obtain ⟨rfl,hr351⟩:=hr351
 obtain ⟨k352,k353,rfl,hr354,hr355⟩:=hr343
 obtain ⟨rfl,hr354⟩:=hr354
 obtain ⟨k356,k357,rfl,hr358,hr359⟩:=hr355
 obtain ⟨rfl,hr358⟩:=hr358
 obtain ⟨rfl,hr359⟩:=hr359
 refine mixE.gpure rfl (want_t rfl rfl (show _=Value.bool (!f) from rfl) hq324) (v:=.pointer (some ((ad49.add (d.toNat*8)).add 2))) (pu_field (A:=(ad49.add (d.toNat*8))) (off:=2) (sz:=3) underlying82 rfl sizeOf23 (by decide) rfl rfl)<|mixE.gload rfl (want_t rfl rfl (show _=Value.bool (!f) from rfl) hq324) hM (v:=.agg #[iv x325.2.2.1.1,iv x325.2.2.1.2.1,iv x325.2.2.1.2.2]) (fun _ hF=>ld_agg isAgg23 sizeOf23 rfl rfl (sub_cells (o:=2) (n:=3) (fun j u hu=>hF.cell (hc329 j u hu) (off2 ho331)) rfl rfl))<|mixE.gpure rfl (want_t rfl rfl (show _=Value.bool (!f) from rfl) hq324) (v:=.slice (some ad49) y4.length c8) (pu_move e3)<|mixE.gpure rfl (want_t rfl rfl (show _=Value.bool (!f) from rfl) hq324) (v:=iv c) (pu_move e4) ?_
 obtain ⟨x360,h361,hb⟩:=bd hb
 obtain ⟨ad362,cs363,hA,ho366,hc364,hr365⟩:=hS.elo2 (i:=1) rfl (get_some h361).2 [] (by decide)
 obtain rfl:=Option.some.inj hA
 refine mixE.gpure rfl (want_t rfl rfl (show _=Value.bool (!f) from rfl) hq324) (v:=.pointer (some (ad49.add (c.toNat*8)))) (pu_index (a:=c) underlying79 sizeOf82 rfl rfl (get_some h361).1) ?_
 obtain ⟨k367,k368,rfl,hr369,hr370⟩:=hr365
 obtain ⟨rfl,hr369⟩:=hr369
 obtain ⟨k371,k372,rfl,hr373,hr374⟩:=hr370
 obtain ⟨rfl,hr373⟩:=hr373
 obtain ⟨k375,k376,rfl,hr377,hr378⟩:=hr374
 obtain ⟨k379,k380,rfl,hr381,hr382⟩:=hr377
 obtain ⟨rfl,hr381⟩:=hr381
 obtain ⟨k383,k384,rfl,hr385,hr386⟩:=hr382
 obtain ⟨rfl,hr385⟩:=hr385
 obtain ⟨rfl,hr386⟩:=hr386
 obtain ⟨k387,k388,rfl,hr389,hr390⟩:=hr378
 obtain ⟨rfl,hr389⟩:=hr389
 obtain ⟨k391,k392,rfl,hr393,hr394⟩:=hr390
 obtain ⟨rfl,hr393⟩:=hr393
 obtain ⟨rfl,hr394⟩:=hr394
 refine mixE.gpure rfl (want_t rfl rfl (show _=Value.bool (!f) from rfl) hq324) (v:=.pointer (some ((ad49.add (c.toNat*8)).add 2))) (pu_field (A:=(ad49.add (c.toNat*8))) (off:=2) (sz:=3) underlying82 rfl sizeOf23 (by decide) rfl rfl)<|mixE.gload rfl (want_t rfl rfl (show _=Value.bool (!f) from rfl) hq324) hM (v:=.agg #[iv x360.2.2.1.1,iv x360.2.2.1.2.1,iv x360.2.2.1.2.2]) (fun _ hF=>ld_agg isAgg23 sizeOf23 rfl rfl (sub_cells (o:=2) (n:=3) (fun j u hu=>hF.cell (hc364 j u hu) (off2 ho366)) rfl rfl))<|mixE.gpure rfl (want_t rfl rfl (show _=Value.bool (!f) from rfl) hq324) (v:=.slice (some ad49) y4.length c8) (pu_move e3)<|mixE.gpure rfl (want_t rfl rfl (show _=Value.bool (!f) from rfl) hq324) (v:=iv c) (pu_move e4) ?_
 obtain ⟨x395,h396,hb⟩:=bd hb
 obtain ⟨ad397,cs398,hA,ho401,hc399,hr400⟩:=hS.elo2 (i:=1) rfl (get_some h396).2 [] (by decide)
 obtain rfl:=Option.some.inj hA
 refine mixE.gpure rfl (want_t rfl rfl (show _=Value.bool (!f) from rfl) hq324) (v:=.pointer (some (ad49.add (c.toNat*8)))) (pu_index (a:=c) underlying79 sizeOf82 rfl rfl (get_some h396).1) ?_
 obtain ⟨k402,k403,rfl,hr404,hr405⟩:=hr400
 obtain ⟨rfl,hr404⟩:=hr404
 obtain ⟨k406,k407,rfl,hr408,hr409⟩:=hr405
 obtain ⟨rfl,hr408⟩:=hr408
 obtain ⟨k410,k411,rfl,hr412,hr413⟩:=hr409
 obtain ⟨k414,k415,rfl,hr416,hr417⟩:=hr412
 obtain ⟨rfl,hr416⟩:=hr416
 obtain ⟨k418,k419,rfl,hr420,hr421⟩:=hr417
 obtain ⟨rfl,hr420⟩:=hr420
 obtain ⟨rfl,hr421⟩:=hr421
 obtain ⟨k422,k423,rfl,hr424,hr425⟩:=hr413
 obtain ⟨rfl,hr424⟩:=hr424
 obtain ⟨k426,k427,rfl,hr428,hr429⟩:=hr425
 obtain ⟨rfl,hr428⟩:=hr428
 obtain ⟨rfl,hr429⟩:=hr429
 refine mixE.gpure rfl (want_t rfl rfl (show _=Value.bool (!f) from rfl) hq324) (v:=.pointer (some ((ad49.add (c.toNat*8)).add 5))) (pu_field (A:=(ad49.add (c.toNat*8))) (off:=5) (sz:=3) underlying82 rfl sizeOf23 (by decide) rfl rfl)<|mixE.gload rfl (want_t rfl rfl (show _=Value.bool (!f) from rfl) hq324) hM (v:=.agg #[iv x395.2.2.2.1,iv x395.2.2.2.2.1,iv x395.2.2.2.2.2]) (fun _ hF=>ld_agg isAgg23 sizeOf23 rfl rfl (sub_cells (o:=5) (n:=3) (fun j u hu=>hF.cell (hc399 j u hu) (off2 ho401)) rfl rfl)) ?_
 obtain ⟨y430,h431,hb⟩:=bd hb
 refine mixE.gcl rfl (want_t rfl rfl (show _=Value.bool (!f) from rfl) hq324) hM (⟨_,_,op_call (vs:=[.agg #[iv x325.2.2.1.1,iv x325.2.2.1.2.1,iv x325.2.2.1.2.2],.agg #[iv x360.2.2.1.1,iv x360.2.2.1.2.1,iv x360.2.2.1.2.2],.agg #[iv x395.2.2.2.1,iv x395.2.2.2.2.1,iv x395.2.2.2.2.2]]) call48 rfl rfl rfl,ref46_on_ok n hC.lt (wrap_I64 hr346) (wrap_I64 hr350) (wrap_I64 hr351) (wrap_I64 hr381) (wrap_I64 hr385) (wrap_I64 hr386) (wrap_I64 hr424) (wrap_I64 hr428) (wrap_I64 hr429) h431⟩) ?_
 rintro _ w432 ⟨rfl,hK⟩
 replace hM:=hM.none hK.fr
 refine ⟨hM,?_⟩
 replace hC:=hC.merge hK
 clear hK
 refine mp (.bool y430) (pu_pickT (q:=(!f)) rfl hq324 rfl)<|mixE.nil ?_
 clear hS hM
 refine hK321 _ _<|Wc.cond (t:=y430) (rfl) (fun hq433=>?_) (fun hq433=>?_)
 replace hb:=tt hq433 hb
 refine Wc.seq fun _ hK434=>rg<|lp (.bool false) (pu_assign rfl)<|ln (hK434 _ _ ?_)
 obtain rfl:=os hb
 obtain rfl:=(lX hl1).symm
 replace hb:=hbK1
 obtain rfl:=os hb
 obtain rfl:=(lX hl0).symm
 replace hb:=hbK0
 obtain rfl:=os hb
 refine Wc.ret (hKR _ _ ?_)
 refine ⟨_,res1 results19 (tV (.bool false) rfl),_,rfl,rfl,hC.sE []⟩
 replace hb:=tf hq433 hb
 refine Wc.skip ?_
 exact hK320 _ _ ⟨y430,e0,e2,e3,e4,e5,e6,e22,e28,e33,e44,rfl,hC.sE [0,1],hb⟩
 replace hb:=tf hq324 hb
 refine mixE.gskip (want_f rfl rfl (show _=Value.bool (!f) from rfl) hq324)<|mixE.gskip (want_f rfl rfl (show _=Value.bool (!f) from rfl) hq324)<|mixE.gskip (want_f rfl rfl (show _=Value.bool (!f) from rfl) hq324)<|mixE.gskip (want_f rfl rfl (show _=Value.bool (!f) from rfl) hq324)<|mixE.gskip (want_f rfl rfl (show _=Value.bool (!f) from rfl) hq324)<|mixE.gskip (want_f rfl rfl (show _=Value.bool (!f) from rfl) hq324)<|mixE.gskip (want_f rfl rfl (show _=Value.bool (!f) from rfl) hq324)<|mixE.gskip (want_f rfl rfl (show _=Value.bool (!f) from rfl) hq324)<|mixE.gskip (want_f rfl rfl (show _=Value.bool (!f) from rfl) hq324)<|mixE.gskip (want_f rfl rfl (show _=Value.bool (!f) from rfl) hq324)<|mixE.gskip (want_f rfl rfl (show _=Value.bool (!f) from rfl) hq324)<|mixE.gskip (want_f rfl rfl (show _=Value.bool (!f) from rfl) hq324)<|mixE.gskip (want_f rfl rfl (show _=Value.bool (!f) from rfl) hq324)<|mixE.gskip (want_f rfl rfl (show _=Value.bool (!f) from rfl) hq324)<|mixE.gskip (want_f rfl rfl (show _=Value.bool (!f) from rfl) hq324)<|mixE.gskip (want_f rfl rfl (show _=Value.bool (!f) from rfl) hq324)<|mp (.bool false) (pu_pickF (q:=(!f)) rfl hq324 rfl)<|mixE.nil ?_
 clear hS hM
 refine hK321 _ _ ?_
 refine Wc.cond_false (rfl) ?_
 refine Wc.skip ?_
 exact hK320 _ _ ⟨false,e0,e2,e3,e4,e5,e6,e22,e28,e33,e44,rfl,hC.sE [0,1],hb⟩
 clear hb hC
 rintro E436 w435 ⟨C,e0,e2,e3,e4,e5,e6,e22,e28,e33,e44,e99,hC,hb⟩
 unfold F.ref46_Generic_j3 at hb
 refine Wc.seq fun _ hK437=>?_
 refine Wc.regionMix [] (frm [] ([]:List Fact) ([]:List Fact)) (fun _=>rfl) mixed (by decide+kernel) (by decide+kernel) fun w439 hw438=>?_
 replace hC:=hC.step (Fr.of_drew hw438)
 have hM:=Fr.refl (fun k=>k∈blocks ([]:List Fact)) w439
 clear hw438
 have hS:=hC
 refine mp (.slice p g.length s) (pu_move e0)<|mp (.slice (some ad49) y4.length c8) (pu_move e3)<|mp (iv c) (pu_move e4) ?_
 obtain ⟨x440,h441,hb⟩:=bd hb
 obtain ⟨ad442,cs443,hA,ho446,hc444,hr445⟩:=hS.elo2 (i:=1) rfl (get_some h441).2 [] (by decide)
 obtain rfl:=Option.some.inj hA
 refine mp (.pointer (some (ad49.add (c.toNat*8)))) (pu_index (a:=c) underlying79 sizeOf82 rfl rfl (get_some h441).1) ?_
 obtain ⟨k447,k448,rfl,hr449,hr450⟩:=hr445
 obtain ⟨rfl,hr449⟩:=hr449
 obtain ⟨k451,k452,rfl,hr453,hr454⟩:=hr450
 obtain ⟨rfl,hr453⟩:=hr453
 obtain ⟨k455,k456,rfl,hr457,hr458⟩:=hr454
 obtain ⟨k459,k460,rfl,hr461,hr462⟩:=hr457
 obtain ⟨rfl,hr461⟩:=hr461
 obtain ⟨k463,k464,rfl,hr465,hr466⟩:=hr462
 obtain ⟨rfl,hr465⟩:=hr465
 obtain ⟨rfl,hr466⟩:=hr466
 obtain ⟨k467,k468,rfl,hr469,hr470⟩:=hr458
 obtain ⟨rfl,hr469⟩:=hr469
 obtain ⟨k471,k472,rfl,hr473,hr474⟩:=hr470
 obtain ⟨rfl,hr473⟩:=hr473
 obtain ⟨rfl,hr474⟩:=hr474
 refine mixE.load hM (v:=.agg #[iv x440.1,iv x440.2.1,iv x440.2.2.1.1,iv x440.2.2.1.2.1,iv x440.2.2.1.2.2,iv x440.2.2.2.1,iv x440.2.2.2.2.1,iv x440.2.2.2.2.2]) (fun _ hF=>ld_agg isAgg82 sizeOf82 rfl rfl (fun j u hu=>hF.cell (hc444 j u hu) (off2 ho446)))<|mp (.slice (some ad49) y4.length c8) (pu_move e3)<|mp (iv d) (pu_move e5) ?_
 obtain ⟨x475,h476,hb⟩:=bd hb
 obtain ⟨ad477,cs478,hA,ho481,hc479,hr480⟩:=hS.elo2 (i:=1) rfl (get_some h476).2 [] (by decide)
 obtain rfl:=Option.some.inj hA
 refine mp (.pointer (some (ad49.add (d.toNat*8)))) (pu_index (a:=d) underlying79 sizeOf82 rfl rfl (get_some h476).1) ?_
 obtain ⟨k482,k483,rfl,hr484,hr485⟩:=hr480
 obtain ⟨rfl,hr484⟩:=hr484
 obtain ⟨k486,k487,rfl,hr488,hr489⟩:=hr485
 obtain ⟨rfl,hr488⟩:=hr488
 obtain ⟨k490,k491,rfl,hr492,hr493⟩:=hr489
 obtain ⟨k494,k495,rfl,hr496,hr497⟩:=hr492
 obtain ⟨rfl,hr496⟩:=hr496
 obtain ⟨k498,k499,rfl,hr500,hr501⟩:=hr497
 obtain ⟨rfl,hr500⟩:=hr500
 obtain ⟨rfl,hr501⟩:=hr501
 obtain ⟨k502,k503,rfl,hr504,hr505⟩:=hr493
 obtain ⟨rfl,hr504⟩:=hr504
 obtain ⟨k506,k507,rfl,hr508,hr509⟩:=hr505
 obtain ⟨rfl,hr508⟩:=hr508
 obtain ⟨rfl,hr509⟩:=hr509
 refine mixE.load hM (v:=.agg #[iv x475.1,iv x475.2.1,iv x475.2.2.1.1,iv x475.2.2.1.2.1,iv x475.2.2.1.2.2,iv x475.2.2.2.1,iv x475.2.2.2.2.1,iv x475.2.2.2.2.2]) (fun _ hF=>ld_agg isAgg82 sizeOf82 rfl rfl (fun j u hu=>hF.cell (hc479 j u hu) (off2 ho481))) ?_
 obtain ⟨y510,h511,hb⟩:=bd hb
 refine mixE.cl hM (⟨_,_,op_call (vs:=[.slice p g.length s,.agg #[iv x440.1,iv x440.2.1,iv x440.2.2.1.1,iv x440.2.2.1.2.1,iv x440.2.2.1.2.2,iv x440.2.2.2.1,iv x440.2.2.2.2.1,iv x440.2.2.2.2.2],.agg #[iv x475.1,iv x475.2.1,iv x475.2.2.1.1,iv x475.2.2.1.2.1,iv x475.2.2.1.2.2,iv x475.2.2.2.1,iv x475.2.2.2.2.1,iv x475.2.2.2.2.2]]) call58 rfl rfl rfl,ref46_adjacent_ok n hC.lt (hC.rd (i:=0) rfl) (wrap_I64 hr449) (wrap_I64 hr453) (wrap_I64 hr461) (wrap_I64 hr465) (wrap_I64 hr466) (wrap_I64 hr469) (wrap_I64 hr473) (wrap_I64 hr474) (wrap_I64 hr484) (wrap_I64 hr488) (wrap_I64 hr496) (wrap_I64 hr500) (wrap_I64 hr501) (wrap_I64 hr504) (wrap_I64 hr508) (wrap_I64 hr509) h511⟩) ?_
 rintro _ w512 ⟨rfl,hK⟩
 replace hM:=hM.none hK.fr
 refine ⟨hM,?_⟩
 replace hC:=hC.merge hK
 clear hK
 refine mp (.bool (!y510)) (pu_not (q:=y510) rfl)<|mixE.nil ?_
 clear hS hM
 refine hK437 _ _<|Wc.fresh fun E513 hE=>?_
 have e0:=cg hE 0 e0
 have e2:=cg hE 2 e2
 have e3:=cg hE 3 e3
 have e4:=cg hE 4 e4
 have e5:=cg hE 5 e5
 have e6:=cg hE 6 e6
 have e22:=cg hE 22 e22
 have e28:=cg hE 28 e28
 have e33:=cg hE 33 e33
 have e44:=cg hE 44 e44
 have e99:=cg hE 99 e99
 have e110:E513 110=.bool (!y510):=cg hE 110 rfl
 clear hE
 refine Wc.cond (t:=(!y510)) (e110) (fun hq514=>?_) (fun hq514=>?_)
 replace hb:=tt hq514 hb
 refine Wc.seq fun _ hK515=>?_
 refine Wc.regionMix [] (frm [] ([]:List Fact) ([]:List Fact)) (fun _=>rfl) mixed (by decide+kernel) (by decide+kernel) fun w517 hw516=>?_
 replace hC:=hC.step (Fr.of_drew hw516)
 have hM:=Fr.refl (fun k=>k∈blocks ([]:List Fact)) w517
 clear hw516
 have hS:=hC
 refine mp (.slice (some ad49) y4.length c8) (pu_move e3)<|mp (iv c) (pu_move e4) ?_
 obtain ⟨x518,h519,hb⟩:=bd hb
 obtain ⟨ad520,cs521,hA,ho524,hc522,hr523⟩:=hS.elo2 (i:=1) rfl (get_some h519).2 [] (by decide)
 obtain rfl:=Option.some.inj hA
 refine mp (.pointer (some (ad49.add (c.toNat*8)))) (pu_index (a:=c) underlying79 sizeOf82 rfl rfl (get_some h519).1) ?_
 obtain ⟨k525,k526,rfl,hr527,hr528⟩:=hr523
 obtain ⟨rfl,hr527⟩:=hr527
 obtain ⟨k529,k530,rfl,hr531,hr532⟩:=hr528
 obtain ⟨rfl,hr531⟩:=hr531
 obtain ⟨k533,k534,rfl,hr535,hr536⟩:=hr532
 obtain ⟨k537,k538,rfl,hr539,hr540⟩:=hr535
 obtain ⟨rfl,hr539⟩:=hr539
 obtain ⟨k541,k542,rfl,hr543,hr544⟩:=hr540
 obtain ⟨rfl,hr543⟩:=hr543
 obtain ⟨rfl,hr544⟩:=hr544
 obtain ⟨k545,k546,rfl,hr547,hr548⟩:=hr536
 obtain ⟨rfl,hr547⟩:=hr547
 obtain ⟨k549,k550,rfl,hr551,hr552⟩:=hr548
 obtain ⟨rfl,hr551⟩:=hr551
 obtain ⟨rfl,hr552⟩:=hr552
 refine mp (.pointer (some ((ad49.add (c.toNat*8)).add 2))) (pu_field (A:=(ad49.add (c.toNat*8))) (off:=2) (sz:=3) underlying82 rfl sizeOf23 (by decide) rfl rfl)<|mixE.load hM (v:=.agg #[iv x518.2.2.1.1,iv x518.2.2.1.2.1,iv x518.2.2.1.2.2]) (fun _ hF=>ld_agg isAgg23 sizeOf23 rfl rfl (sub_cells (o:=2) (n:=3) (fun j u hu=>hF.cell (hc522 j u hu) (off2 ho524)) rfl rfl))<|mp (.slice (some ad49) y4.length c8) (pu_move e3)<|mp (iv c) (pu_move e4) ?_
 obtain ⟨x553,h554,hb⟩:=bd hb
 obtain ⟨ad555,cs556,hA,ho559,hc557,hr558⟩:=hS.elo2 (i:=1) rfl (get_some h554).2 [] (by decide)
 obtain rfl:=Option.some.inj hA
 refine mp (.pointer (some (ad49.add (c.toNat*8)))) (pu_index (a:=c) underlying79 sizeOf82 rfl rfl (get_some h554).1) ?_
 obtain ⟨k560,k561,rfl,hr562,hr563⟩:=hr558
 obtain ⟨rfl,hr562⟩:=hr562
 obtain ⟨k564,k565,rfl,hr566,hr567⟩:=hr563
 obtain ⟨rfl,hr566⟩:=hr566
 obtain ⟨k568,k569,rfl,hr570,hr571⟩:=hr567
 obtain ⟨k572,k573,rfl,hr574,hr575⟩:=hr570
 obtain ⟨rfl,hr574⟩:=hr574
 obtain ⟨k576,k577,rfl,hr578,hr579⟩:=hr575
 obtain ⟨rfl,hr578⟩:=hr578
 obtain ⟨rfl,hr579⟩:=hr579
 obtain ⟨k580,k581,rfl,hr582,hr583⟩:=hr571
 obtain ⟨rfl,hr582⟩:=hr582
 obtain ⟨k584,k585,rfl,hr586,hr587⟩:=hr583
 obtain ⟨rfl,hr586⟩:=hr586
 obtain ⟨rfl,hr587⟩:=hr587
 refine mp (.pointer (some ((ad49.add (c.toNat*8)).add 5))) (pu_field (A:=(ad49.add (c.toNat*8))) (off:=5) (sz:=3) underlying82 rfl sizeOf23 (by decide) rfl rfl)<|mixE.load hM (v:=.agg #[iv x553.2.2.2.1,iv x553.2.2.2.2.1,iv x553.2.2.2.2.2]) (fun _ hF=>ld_agg isAgg23 sizeOf23 rfl rfl (sub_cells (o:=5) (n:=3) (fun j u hu=>hF.cell (hc557 j u hu) (off2 ho559)) rfl rfl))<|mp (.slice (some ad49) y4.length c8) (pu_move e3)<|mp (iv d) (pu_move e5) ?_
 obtain ⟨x588,h589,hb⟩:=bd hb
 obtain ⟨ad590,cs591,hA,ho594,hc592,hr593⟩:=hS.elo2 (i:=1) rfl (get_some h589).2 [] (by decide)
 obtain rfl:=Option.some.inj hA
 refine mp (.pointer (some (ad49.add (d.toNat*8)))) (pu_index (a:=d) underlying79 sizeOf82 rfl rfl (get_some h589).1) ?_
 obtain ⟨k595,k596,rfl,hr597,hr598⟩:=hr593
 obtain ⟨rfl,hr597⟩:=hr597
 obtain ⟨k599,k600,rfl,hr601,hr602⟩:=hr598
 obtain ⟨rfl,hr601⟩:=hr601
 obtain ⟨k603,k604,rfl,hr605,hr606⟩:=hr602
 obtain ⟨k607,k608,rfl,hr609,hr610⟩:=hr605
 obtain ⟨rfl,hr609⟩:=hr609
 obtain ⟨k611,k612,rfl,hr613,hr614⟩:=hr610
 obtain ⟨rfl,hr613⟩:=hr613
 obtain ⟨rfl,hr614⟩:=hr614
 obtain ⟨k615,k616,rfl,hr617,hr618⟩:=hr606
 obtain ⟨rfl,hr617⟩:=hr617
 obtain ⟨k619,k620,rfl,hr621,hr622⟩:=hr618
 obtain ⟨rfl,hr621⟩:=hr621
 obtain ⟨rfl,hr622⟩:=hr622
 refine mp (.pointer (some ((ad49.add (d.toNat*8)).add 2))) (pu_field (A:=(ad49.add (d.toNat*8))) (off:=2) (sz:=3) underlying82 rfl sizeOf23 (by decide) rfl rfl)<|mixE.load hM (v:=.agg #[iv x588.2.2.1.1,iv x588.2.2.1.2.1,iv x588.2.2.1.2.2]) (fun _ hF=>ld_agg isAgg23 sizeOf23 rfl rfl (sub_cells (o:=2) (n:=3) (fun j u hu=>hF.cell (hc592 j u hu) (off2 ho594)) rfl rfl))<|mp (.slice (some ad49) y4.length c8) (pu_move e3)<|mp (iv d) (pu_move e5) ?_
 obtain ⟨x623,h624,hb⟩:=bd hb
 obtain ⟨ad625,cs626,hA,ho629,hc627,hr628⟩:=hS.elo2 (i:=1) rfl (get_some h624).2 [] (by decide)
 obtain rfl:=Option.some.inj hA
 refine mp (.pointer (some (ad49.add (d.toNat*8)))) (pu_index (a:=d) underlying79 sizeOf82 rfl rfl (get_some h624).1) ?_
 obtain ⟨k630,k631,rfl,hr632,hr633⟩:=hr628
 obtain ⟨rfl,hr632⟩:=hr632
 obtain ⟨k634,k635,rfl,hr636,hr637⟩:=hr633
 obtain ⟨rfl,hr636⟩:=hr636
 obtain ⟨k638,k639,rfl,hr640,hr641⟩:=hr637
 obtain ⟨k642,k643,rfl,hr644,hr645⟩:=hr640
 obtain ⟨rfl,hr644⟩:=hr644
 obtain ⟨k646,k647,rfl,hr648,hr649⟩:=hr645
 obtain ⟨rfl,hr648⟩:=hr648
 obtain ⟨rfl,hr649⟩:=hr649
 obtain ⟨k650,k651,rfl,hr652,hr653⟩:=hr641
 obtain ⟨rfl,hr652⟩:=hr652
 obtain ⟨k654,k655,rfl,hr656,hr657⟩:=hr653
 obtain ⟨rfl,hr656⟩:=hr656
 obtain ⟨rfl,hr657⟩:=hr657
 refine mp (.pointer (some ((ad49.add (d.toNat*8)).add 5))) (pu_field (A:=(ad49.add (d.toNat*8))) (off:=5) (sz:=3) underlying82 rfl sizeOf23 (by decide) rfl rfl)<|mixE.load hM (v:=.agg #[iv x623.2.2.2.1,iv x623.2.2.2.2.1,iv x623.2.2.2.2.2]) (fun _ hF=>ld_agg isAgg23 sizeOf23 rfl rfl (sub_cells (o:=5) (n:=3) (fun j u hu=>hF.cell (hc627 j u hu) (off2 ho629)) rfl rfl)) ?_
 obtain ⟨y658,h659,hb⟩:=bd hb
 refine mixE.cl hM (⟨_,_,op_call (vs:=[.agg #[iv x518.2.2.1.1,iv x518.2.2.1.2.1,iv x518.2.2.1.2.2],.agg #[iv x553.2.2.2.1,iv x553.2.2.2.2.1,iv x553.2.2.2.2.2],.agg #[iv x588.2.2.1.1,iv x588.2.2.1.2.1,iv x588.2.2.1.2.2],.agg #[iv x623.2.2.2.1,iv x623.2.2.2.2.1,iv x623.2.2.2.2.2]]) call13 rfl rfl rfl,ref46_Cross_ok n hC.lt (wrap_I64 hr539) (wrap_I64 hr543) (wrap_I64 hr544) (wrap_I64 hr582) (wrap_I64 hr586) (wrap_I64 hr587) (wrap_I64 hr609) (wrap_I64 hr613) (wrap_I64 hr614) (wrap_I64 hr652) (wrap_I64 hr656) (wrap_I64 hr657) h659⟩) ?_
 rintro _ w661 ⟨rfl,hr660,hK⟩
 replace hM:=hM.none hK.fr
 refine ⟨hM,?_⟩
 replace hC:=hC.merge hK
 clear hK
 refine mp (.tuple #[iv y658.1,.bool y658.2]) (pu_move rfl)<|mp (iv y658.1) (pu_extract rfl rfl)<|mp (.bool y658.2) (pu_extract rfl rfl)<|mp (iv y658.1) (pu_assign rfl)<|mp (.bool y658.2) (pu_assign rfl)<|mixE.nil ?_
 clear hS hM
 refine hK515 _ _<|Wc.fresh fun E662 hE=>?_
 have e0:=cg hE 0 e0
 have e2:=cg hE 2 e2
 have e3:=cg hE 3 e3
 have e4:=cg hE 4 e4
 have e5:=cg hE 5 e5
 have e6:=cg hE 6 e6
 have e7:E662 7=iv y658.1:=cg hE 7 rfl
 have e22:=cg hE 22 e22
 have e28:=cg hE 28 e28
 have e33:=cg hE 33 e33
 have e44:=cg hE 44 e44
 have e99:=cg hE 99 e99
 have e110:=cg hE 110 e110
 clear hE
 refine Wc.seq fun _ hK663=>rg<|lp _ (pu_move e7)<|lp (.bool (decide (y658.1=2))) (pu_eql (k:=.i64) (a:=y658.1) (b:=2) rfl rfl)<|ln (hK663 _ _ ?_)
 refine Wc.cond (t:=(decide (y658.1=2))) (rfl) (fun hq664=>?_) (fun hq664=>?_)
 replace hb:=tt hq664 hb
 refine Wc.seq fun _ hK665=>rg<|lp (.bool false) (pu_assign rfl)<|ln (hK665 _ _ ?_)
 obtain rfl:=os hb
 obtain rfl:=(lX hl1).symm
 replace hb:=hbK1
 obtain rfl:=os hb
 obtain rfl:=(lX hl0).symm
 replace hb:=hbK0
 obtain rfl:=os hb
 refine Wc.ret (hKR _ _ ?_)
 refine ⟨_,res1 results19 (tV (.bool false) rfl),_,rfl,rfl,hC.sE []⟩
 replace hb:=tf hq664 hb
 refine Wc.skip (hK37 _ _ ?_)
 refine rg<|lp _ (pu_move e5) ?_
 obtain ⟨z666,h667,hb⟩:=bd hb
 refine lp (iv z666) (pu_addc (a:=d) (b:=1) rfl rfl h667)<|lp (iv z666) (pu_assign rfl)<|ln ?_
 obtain rfl:=os hb
 exact hK29 m30' _ _ (Nat.lt_succ_self _) ⟨z666,e0,e2,e3,e4,rfl,e22,(chk_rng h667),hC.sE [0,1],lN hl1⟩
 replace hb:=tf hq514 hb
 refine Wc.skip (hK37 _ _ ?_)
 refine rg<|lp _ (pu_move e5) ?_
 obtain ⟨z668,h669,hb⟩:=bd hb
 refine lp (iv z668) (pu_addc (a:=d) (b:=1) rfl rfl h669)<|lp (iv z668) (pu_assign rfl)<|ln ?_
 obtain rfl:=os hb
 exact hK29 m30' _ _ (Nat.lt_succ_self _) ⟨z668,e0,e2,e3,e4,rfl,e22,(chk_rng h669),hC.sE [0,1],lN hl1⟩
 replace hb:=tf hq36 hb
 refine Wc.exit rfl ?_
 obtain rfl:=os hb
 obtain rfl:=(lX hl1).symm
 exact hK28 _ _ ⟨d,e0,e2,e3,e4,e5,e22,G,hC.sE [0,1],hbK1⟩
 clear hb hC hl1
 rintro E671 w670 ⟨d,e0,e2,e3,e4,e5,e22,G,hC,hb⟩
 refine hK25 _ _<|rg<|lp _ (pu_move e4) ?_
 obtain ⟨z672,h673,hb⟩:=bd hb
 refine lp (iv z672) (pu_addc (a:=c) (b:=1) rfl rfl h673)<|lp (iv z672) (pu_assign rfl)<|ln ?_
 obtain rfl:=os hb
 exact hK17 m18' _ _ (Nat.lt_succ_self _) ⟨z672,e0,e2,e3,rfl,(chk_rng h673),hC.sE [0,1],lN hl0⟩
 replace hb:=tf hq24 hb
 refine Wc.exit rfl ?_
 obtain rfl:=os hb
 obtain rfl:=(lX hl0).symm
 exact hK16 _ _ ⟨c,e0,e2,e3,D,hC.sE [0,1],hbK0⟩
 clear hb hC hl0
 rintro E675 w674 ⟨c,e0,e2,e3,D,hC,hb⟩
 refine hK13 _ _ ?_
 refine Wc.seq fun _ hK676=>?_
 refine Wc.seq fun _ hK677=>rg<|lp (iv 0) (pu_assign rfl)<|ln (hK677 _ _ ?_)
 obtain ⟨o678,hl4,hb⟩:=bd hb
 refine Wc.cut (fun E wv=> ∃(l:Int),E 2=.bool false∧I64 l∧Cx (fun _=>False) O0 w wv []∧(some true:Option (Bool))=some r) (fun _ hK679=>?_) ?_
 refine Wc.block ?_
 refine Wc.loop (fun m E wv=> ∃(l:Int),E 0=.slice p g.length s∧E 2=.bool false∧E 3=.slice A6 y4.length c8∧E 9=iv l∧I64 l∧Cx (fun _=>False) O0 w wv [.ro (.sl (.sl (.pr si (.pr si si)))) [.slice p g.length s] g,.own 82 (.pr si (.pr si (.pr (.pr si (.pr si si)) (.pr si (.pr si si))))) (.slice A6 y4.length c8) y4]∧loopN m (F.ref46_Generic_b4 n g y4) l=some o678) n ⟨0,e0,e2,e3,rfl,(show I64 0 from by unfold I64; omega),hC.sE [0,1],hl4⟩ ?_
 have hbK4:=hb
 clear hb hC hl4
 rintro m681 E683 w682 ⟨l,e0,e2,e3,e9,y,hC,hl4⟩ K680 hK680
 obtain ⟨m681',o684,rfl,hb,hl4⟩:=loopN_some hl4
 unfold F.ref46_Generic_b4 at hb
 refine Wc.seq fun _ hK685=>?_
 refine Wc.seq fun _ hK686=>rg<|lp _ (pu_move e9)<|lp _ (pu_move e3)<|lp (iv (y4.length:Int)) (pu_len (A:=A6) (n:=y4.length) (m:=c8) underlying79 rfl)<|lp (.bool (decide (l<(y4.length:Int)))) (pu_lss (k:=.i64) (a:=l) (b:=(y4.length:Int)) rfl rfl)<|ln (hK686 _ _ ?_)
 refine Wc.cond (t:=(decide (l<(y4.length:Int)))) (rfl) (fun hq687=>?_) (fun hq687=>?_)
 replace hb:=tt hq687 hb
 refine Wc.skip (hK685 _ _ ?_)
 refine Wc.seq fun _ hK688=>?_
 refine Wc.block<|Wc.seq fun _ hK689=>rg<|lp _ (pu_move e0)<|lp _ (pu_move e3)<|lp _ (pu_move e9) ?_
 obtain ⟨y690,h691,hb⟩:=bd hb
 refine lex.cl (⟨_,_,op_call (vs:=[.slice p g.length s,.slice A6 y4.length c8,iv l]) call59 rfl rfl rfl,ref46_crossers_ok n (hC.lentLt [.slice A6 y4.length c8]) ((hC.rd (i:=0) rfl).lent [.slice A6 y4.length c8]) ((hC.ow (i:=1) rfl).lend (vs:=[.slice A6 y4.length c8]) (by simp)) y h691⟩) ?_
 rintro _ w696 ⟨A692,m693,c694,rfl,hK⟩
 replace hC:=hC.mergeF hK rfl
 clear hK
 obtain ⟨rfl,hl697,hc698⟩:=(hC.ow (i:=0) rfl).sl_len
 refine lp (.slice A692 y690.length c694) (pu_assign rfl)<|ln (hK689 _ _ ?_)
 refine Wc.seq fun _ hK699=>rg<|lp (iv 0) (pu_assign rfl)<|ln (hK699 _ _ ?_)
 refine Wc.fresh fun E700 hE=>?_
 have e0:=cg hE 0 e0
 have e2:=cg hE 2 e2
 have e3:=cg hE 3 e3
 have e9:=cg hE 9 e9
 have e10:E700 10=.slice A692 y690.length c694:=cg hE 10 rfl
 have e11:E700 11=iv 0:=cg hE 11 rfl
 have e140:E700 140=.bool (decide (l<(y4.length:Int))):=cg hE 140 rfl
 clear hE
 obtain ⟨o701,hl5,hb⟩:=bd hb
 refine Wc.cut (fun E wv=> ∃(h:Int),E 0=.slice p g.length s∧E 2=.bool false∧E 3=.slice A6 y4.length c8∧E 9=iv l∧E 10=.slice A692 y690.length c694∧E 11=iv h∧E 140=.bool (decide (l<(y4.length:Int)))∧I64 h∧Cx (fun _=>False) O0 w wv [.ro (.sl (.sl (.pr si (.pr si si)))) [.slice p g.length s] g,.own 82 (.pr si (.pr si (.pr (.pr si (.pr si si)) (.pr si (.pr si si))))) (.slice A6 y4.length c8) y4,.own 3 si (.slice A692 y690.length c694) y690]∧((chk (l+1)).bind fun z911=>some (.inl z911):Option ((Int)⊕((Int)⊕(Bool))))=some o684) (fun _ hK702=>?_) ?_
 refine Wc.block ?_
 refine Wc.loop (fun m E wv=> ∃(h:Int),E 0=.slice p g.length s∧E 2=.bool false∧E 3=.slice A6 y4.length c8∧E 9=iv l∧E 10=.slice A692 y690.length c694∧E 11=iv h∧E 140=.bool (decide (l<(y4.length:Int)))∧I64 h∧Cx (fun _=>False) O0 w wv [.ro (.sl (.sl (.pr si (.pr si si)))) [.slice p g.length s] g,.own 82 (.pr si (.pr si (.pr (.pr si (.pr si si)) (.pr si (.pr si si))))) (.slice A6 y4.length c8) y4,.own 3 si (.slice A692 y690.length c694) y690]∧loopN m (F.ref46_Generic_b5 n y4 l y690) h=some o701) n ⟨0,e0,e2,e3,e9,e10,e11,e140,(show I64 0 from by unfold I64; omega),hC.sE [1,2,0],hl5⟩ ?_
 have hbK5:=hb
 clear hb hC hl5
 rintro m704 E706 w705 ⟨h,e0,e2,e3,e9,e10,e11,e140,z,hC,hl5⟩ K703 hK703
 obtain ⟨m704',o707,rfl,hb,hl5⟩:=loopN_some hl5
 unfold F.ref46_Generic_b5 at hb
 refine Wc.seq fun _ hK708=>?_
 refine Wc.seq fun _ hK709=>rg<|lp _ (pu_move e11)<|lp _ (pu_move e10)<|lp (iv (y690.length:Int)) (pu_len (A:=A692) (n:=y690.length) (m:=c694) underlying30 rfl)<|lp (.bool (decide (h<(y690.length:Int)))) (pu_lss (k:=.i64) (a:=h) (b:=(y690.length:Int)) rfl rfl)<|ln (hK709 _ _ ?_)
 refine Wc.cond (t:=(decide (h<(y690.length:Int)))) (rfl) (fun hq710=>?_) (fun hq710=>?_)
 replace hb:=tt hq710 hb
 refine Wc.skip (hK708 _ _ ?_)
 refine Wc.seq fun _ hK711=>?_
 refine Wc.block<|Wc.seq fun _ hK712=>rg<|lp (iv 0) (pu_assign rfl)<|ln (hK712 _ _ ?_)
 obtain ⟨o713,hl6,hb⟩:=bd hb
 refine Wc.cut (fun E wv=> ∃(x:Int),E 0=.slice p g.length s∧E 2=.bool false∧E 3=.slice A6 y4.length c8∧E 9=iv l∧E 10=.slice A692 y690.length c694∧E 11=iv h∧E 12=iv x∧E 140=.bool (decide (l<(y4.length:Int)))∧E 150=.bool (decide (h<(y690.length:Int)))∧I64 x∧Cx (fun _=>False) O0 w wv [.ro (.sl (.sl (.pr si (.pr si si)))) [.slice p g.length s] g,.own 82 (.pr si (.pr si (.pr (.pr si (.pr si si)) (.pr si (.pr si si))))) (.slice A6 y4.length c8) y4,.own 3 si (.slice A692 y690.length c694) y690]∧((chk (h+1)).bind fun z907=>some (.inl z907):Option ((Int)⊕((Int)⊕(Bool))))=some o707) (fun _ hK714=>?_) ?_
 refine Wc.block ?_
 refine Wc.loop (fun m E wv=> ∃(x:Int),E 0=.slice p g.length s∧E 2=.bool false∧E 3=.slice A6 y4.length c8∧E 9=iv l∧E 10=.slice A692 y690.length c694∧E 11=iv h∧E 12=iv x∧E 140=.bool (decide (l<(y4.length:Int)))∧E 150=.bool (decide (h<(y690.length:Int)))∧I64 x∧Cx (fun _=>False) O0 w wv [.ro (.sl (.sl (.pr si (.pr si si)))) [.slice p g.length s] g,.own 82 (.pr si (.pr si (.pr (.pr si (.pr si si)) (.pr si (.pr si si))))) (.slice A6 y4.length c8) y4,.own 3 si (.slice A692 y690.length c694) y690]∧loopN m (F.ref46_Generic_b6 n y4 l y690 h) x=some o713) n ⟨0,e0,e2,e3,e9,e10,e11,rfl,e140,rfl,(show I64 0 from by unfold I64; omega),hC.sE [0,1,2],hl6⟩ ?_
 have hbK6:=hb
 clear hb hC hl6
 rintro m716 E718 w717 ⟨x,e0,e2,e3,e9,e10,e11,e12,e140,e150,B,hC,hl6⟩ K715 hK715
 obtain ⟨m716',o719,rfl,hb,hl6⟩:=loopN_some hl6
 unfold F.ref46_Generic_b6 at hb
 refine Wc.seq fun _ hK720=>?_
 refine Wc.seq fun _ hK721=>rg<|lp _ (pu_move e12)<|lp _ (pu_move e11)<|lp (.bool (decide (x<h))) (pu_lss (k:=.i64) (a:=x) (b:=h) rfl rfl)<|ln (hK721 _ _ ?_)
 refine Wc.cond (t:=(decide (x<h))) (rfl) (fun hq722=>?_) (fun hq722=>?_)
 replace hb:=tt hq722 hb
 refine Wc.skip (hK720 _ _ ?_)
 refine Wc.seq fun _ hK723=>?_
 refine Wc.block ?_
 refine Wc.seq fun _ hK724=>?_
 refine Wc.regionMix [] (frm [] ([]:List Fact) ([]:List Fact)) (fun _=>rfl) mixed (by decide+kernel) (by decide+kernel) fun w726 hw725=>?_
 replace hC:=hC.step (Fr.of_drew hw725)
 have hM:=Fr.refl (fun k=>k∈blocks ([]:List Fact)) w726
 clear hw725
 have hS:=hC
 refine mp (.slice A6 y4.length c8) (pu_move e3)<|mp (iv l) (pu_move e9) ?_
 obtain ⟨x727,h728,hb⟩:=bd hb
 obtain ⟨ad729,cs730,hA,ho733,hc731,hr732⟩:=hS.elo2 (i:=1) rfl (get_some h728).2 [] (by decide)
 subst hA
 refine mp (.pointer (some (ad729.add (l.toNat*8)))) (pu_index (a:=l) underlying79 sizeOf82 rfl rfl (get_some h728).1) ?_
 obtain ⟨k734,k735,rfl,hr736,hr737⟩:=hr732
 obtain ⟨rfl,hr736⟩:=hr736
 obtain ⟨k738,k739,rfl,hr740,hr741⟩:=hr737
 obtain ⟨rfl,hr740⟩:=hr740
 obtain ⟨k742,k743,rfl,hr744,hr745⟩:=hr741
 obtain ⟨k746,k747,rfl,hr748,hr749⟩:=hr744
 obtain ⟨rfl,hr748⟩:=hr748
 obtain ⟨k750,k751,rfl,hr752,hr753⟩:=hr749
 obtain ⟨rfl,hr752⟩:=hr752
 obtain ⟨rfl,hr753⟩:=hr753
 obtain ⟨k754,k755,rfl,hr756,hr757⟩:=hr745
 obtain ⟨rfl,hr756⟩:=hr756
 obtain ⟨k758,k759,rfl,hr760,hr761⟩:=hr757
 obtain ⟨rfl,hr760⟩:=hr760
 obtain ⟨rfl,hr761⟩:=hr761
 refine mixE.load hM (v:=.agg #[iv x727.1,iv x727.2.1,iv x727.2.2.1.1,iv x727.2.2.1.2.1,iv x727.2.2.1.2.2,iv x727.2.2.2.1,iv x727.2.2.2.2.1,iv x727.2.2.2.2.2]) (fun _ hF=>ld_agg isAgg82 sizeOf82 rfl rfl (fun j u hu=>hF.cell (hc731 j u hu) (off2 ho733)))<|mp (.slice (some ad729) y4.length c8) (pu_move e3)<|mp (.slice A692 y690.length c694) (pu_move e10)<|mp (iv h) (pu_move e11) ?_
 obtain ⟨x762,h763,hb⟩:=bd hb
 obtain ⟨ad764,cs765,hA,ho768,hc766,hr767⟩:=hS.elo2 (i:=2) rfl (get_some h763).2 [] (by decide)
 subst hA
 refine mp (.pointer (some (ad764.add (h.toNat*1)))) (pu_index (a:=h) underlying30 sizeOf3 rfl rfl (get_some h763).1) ?_
 obtain ⟨rfl,hr767'⟩:=hr767
 refine mixE.load hM (v:=iv x762) (fun _ hF=>ld_one isAgg3 rfl (hF.cell (hc766 0 _ rfl) (off1 ho768))) ?_
 obtain ⟨x769,h770,hb⟩:=bd hb
 obtain ⟨ad771,cs772,hA,ho775,hc773,hr774⟩:=hS.elo2 (i:=1) rfl (get_some h770).2 [] (by decide)
 obtain rfl:=Option.some.inj hA
 refine mp (.pointer (some (ad729.add (x762.toNat*8)))) (pu_index (a:=x762) underlying79 sizeOf82 rfl rfl (get_some h770).1) ?_
 obtain ⟨k776,k777,rfl,hr778,hr779⟩:=hr774
 obtain ⟨rfl,hr778⟩:=hr778
 obtain ⟨k780,k781,rfl,hr782,hr783⟩:=hr779
 obtain ⟨rfl,hr782⟩:=hr782
 obtain ⟨k784,k785,rfl,hr786,hr787⟩:=hr783
 obtain ⟨k788,k789,rfl,hr790,hr791⟩:=hr786
 obtain ⟨rfl,hr790⟩:=hr790
 obtain ⟨k792,k793,rfl,hr794,hr795⟩:=hr791
 obtain ⟨rfl,hr794⟩:=hr794
 obtain ⟨rfl,hr795⟩:=hr795
 obtain ⟨k796,k797,rfl,hr798,hr799⟩:=hr787
 obtain ⟨rfl,hr798⟩:=hr798
 obtain ⟨k800,k801,rfl,hr802,hr803⟩:=hr799
 obtain ⟨rfl,hr802⟩:=hr802
 obtain ⟨rfl,hr803⟩:=hr803
 refine mixE.load hM (v:=.agg #[iv x769.1,iv x769.2.1,iv x769.2.2.1.1,iv x769.2.2.1.2.1,iv x769.2.2.1.2.2,iv x769.2.2.2.1,iv x769.2.2.2.2.1,iv x769.2.2.2.2.2]) (fun _ hF=>ld_agg isAgg82 sizeOf82 rfl rfl (fun j u hu=>hF.cell (hc773 j u hu) (off2 ho775))) ?_
 obtain ⟨y804,h805,hb⟩:=bd hb
 refine mixE.cl hM (⟨_,_,op_call (vs:=[.agg #[iv x727.1,iv x727.2.1,iv x727.2.2.1.1,iv x727.2.2.1.2.1,iv x727.2.2.1.2.2,iv x727.2.2.2.1,iv x727.2.2.2.2.1,iv x727.2.2.2.2.2],.agg #[iv x769.1,iv x769.2.1,iv x769.2.2.1.1,iv x769.2.2.1.2.1,iv x769.2.2.1.2.2,iv x769.2.2.2.1,iv x769.2.2.2.2.1,iv x769.2.2.2.2.2]]) call60 rfl rfl rfl,ref46_at_ok n hC.lt (wrap_I64 hr736) (wrap_I64 hr740) (wrap_I64 hr748) (wrap_I64 hr752) (wrap_I64 hr753) (wrap_I64 hr756) (wrap_I64 hr760) (wrap_I64 hr761) (wrap_I64 hr778) (wrap_I64 hr782) (wrap_I64 hr790) (wrap_I64 hr794) (wrap_I64 hr795) (wrap_I64 hr798) (wrap_I64 hr802) (wrap_I64 hr803) h805⟩) ?_
 rintro _ w808 ⟨rfl,hr806,hr807,hK⟩
 replace hM:=hM.none hK.fr
 refine ⟨hM,?_⟩
 replace hC:=hC.merge hK
 clear hK
 refine mp (.tuple #[iv y804.1,iv y804.2]) (pu_move rfl)<|mp (iv y804.1) (pu_extract rfl rfl)<|mp (iv y804.2) (pu_extract rfl rfl)<|mp (iv y804.1) (pu_assign rfl)<|mp (iv y804.2) (pu_assign rfl)<|mixE.nil ?_
 clear hS hM
 refine hK724 _ _<|Wc.fresh fun E809 hE=>?_
 have e0:=cg hE 0 e0
 have e2:=cg hE 2 e2
 have e3:=cg hE 3 e3
 have e9:=cg hE 9 e9
 have e10:=cg hE 10 e10
 have e11:=cg hE 11 e11
 have e12:=cg hE 12 e12
 have e13:E809 13=iv y804.1:=cg hE 13 rfl
 have e14:E809 14=iv y804.2:=cg hE 14 rfl
 have e140:=cg hE 140 e140
 have e150:=cg hE 150 e150
 have e155:E809 155=.bool (decide (x<h)):=cg hE 155 rfl
 clear hE
 refine Wc.seq fun _ hK810=>?_
 refine Wc.regionMix [] (frm [] ([]:List Fact) ([]:List Fact)) (fun _=>rfl) mixed (by decide+kernel) (by decide+kernel) fun w812 hw811=>?_
 replace hC:=hC.step (Fr.of_drew hw811)
 have hM:=Fr.refl (fun k=>k∈blocks ([]:List Fact)) w812
 clear hw811
 have hS:=hC
 refine mp (.slice (some ad729) y4.length c8) (pu_move e3)<|mp (iv l) (pu_move e9) ?_
 obtain ⟨x813,h814,hb⟩:=bd hb
 obtain ⟨ad815,cs816,hA,ho819,hc817,hr818⟩:=hS.elo2 (i:=1) rfl (get_some h814).2 [] (by decide)
 obtain rfl:=Option.some.inj hA
 refine mp (.pointer (some (ad729.add (l.toNat*8)))) (pu_index (a:=l) underlying79 sizeOf82 rfl rfl (get_some h814).1) ?_
 obtain ⟨k820,k821,rfl,hr822,hr823⟩:=hr818
 obtain ⟨rfl,hr822⟩:=hr822
 obtain ⟨k824,k825,rfl,hr826,hr827⟩:=hr823
 obtain ⟨rfl,hr826⟩:=hr826
 obtain ⟨k828,k829,rfl,hr830,hr831⟩:=hr827
 obtain ⟨k832,k833,rfl,hr834,hr835⟩:=hr830
 obtain ⟨rfl,hr834⟩:=hr834
 obtain ⟨k836,k837,rfl,hr838,hr839⟩:=hr835
 obtain ⟨rfl,hr838⟩:=hr838
 obtain ⟨rfl,hr839⟩:=hr839
 obtain ⟨k840,k841,rfl,hr842,hr843⟩:=hr831
 obtain ⟨rfl,hr842⟩:=hr842
 obtain ⟨k844,k845,rfl,hr846,hr847⟩:=hr843
 obtain ⟨rfl,hr846⟩:=hr846
 obtain ⟨rfl,hr847⟩:=hr847
 refine mixE.load hM (v:=.agg #[iv x813.1,iv x813.2.1,iv x813.2.2.1.1,iv x813.2.2.1.2.1,iv x813.2.2.1.2.2,iv x813.2.2.2.1,iv x813.2.2.2.2.1,iv x813.2.2.2.2.2]) (fun _ hF=>ld_agg isAgg82 sizeOf82 rfl rfl (fun j u hu=>hF.cell (hc817 j u hu) (off2 ho819)))<|mp (.slice (some ad729) y4.length c8) (pu_move e3)<|mp (.slice (some ad764) y690.length c694) (pu_move e10)<|mp (iv x) (pu_move e12) ?_
 obtain ⟨x848,h849,hb⟩:=bd hb
 obtain ⟨ad850,cs851,hA,ho854,hc852,hr853⟩:=hS.elo2 (i:=2) rfl (get_some h849).2 [] (by decide)
 obtain rfl:=Option.some.inj hA
 refine mp (.pointer (some (ad764.add (x.toNat*1)))) (pu_index (a:=x) underlying30 sizeOf3 rfl rfl (get_some h849).1) ?_
 obtain ⟨rfl,hr853'⟩:=hr853
 refine mixE.load hM (v:=iv x848) (fun _ hF=>ld_one isAgg3 rfl (hF.cell (hc852 0 _ rfl) (off1 ho854))) ?_
 obtain ⟨x855,h856,hb⟩:=bd hb
 obtain ⟨ad857,cs858,hA,ho861,hc859,hr860⟩:=hS.elo2 (i:=1) rfl (get_some h856).2 [] (by decide)
 obtain rfl:=Option.some.inj hA
 refine mp (.pointer (some (ad729.add (x848.toNat*8)))) (pu_index (a:=x848) underlying79 sizeOf82 rfl rfl (get_some h856).1) ?_
 obtain ⟨k862,k863,rfl,hr864,hr865⟩:=hr860
 obtain ⟨rfl,hr864⟩:=hr864
 obtain ⟨k866,k867,rfl,hr868,hr869⟩:=hr865
 obtain ⟨rfl,hr868⟩:=hr868
 obtain ⟨k870,k871,rfl,hr872,hr873⟩:=hr869
 obtain ⟨k874,k875,rfl,hr876,hr877⟩:=hr872
 obtain ⟨rfl,hr876⟩:=hr876
 obtain ⟨k878,k879,rfl,hr880,hr881⟩:=hr877
 obtain ⟨rfl,hr880⟩:=hr880
 obtain ⟨rfl,hr881⟩:=hr881
 obtain ⟨k882,k883,rfl,hr884,hr885⟩:=hr873
 obtain ⟨rfl,hr884⟩:=hr884
 obtain ⟨k886,k887,rfl,hr888,hr889⟩:=hr885
 obtain ⟨rfl,hr888⟩:=hr888
 obtain ⟨rfl,hr889⟩:=hr889
 refine mixE.load hM (v:=.agg #[iv x855.1,iv x855.2.1,iv x855.2.2.1.1,iv x855.2.2.1.2.1,iv x855.2.2.1.2.2,iv x855.2.2.2.1,iv x855.2.2.2.2.1,iv x855.2.2.2.2.2]) (fun _ hF=>ld_agg isAgg82 sizeOf82 rfl rfl (fun j u hu=>hF.cell (hc859 j u hu) (off2 ho861))) ?_
 obtain ⟨y890,h891,hb⟩:=bd hb
 refine mixE.cl hM (⟨_,_,op_call (vs:=[.agg #[iv x813.1,iv x813.2.1,iv x813.2.2.1.1,iv x813.2.2.1.2.1,iv x813.2.2.1.2.2,iv x813.2.2.2.1,iv x813.2.2.2.2.1,iv x813.2.2.2.2.2],.agg #[iv x855.1,iv x855.2.1,iv x855.2.2.1.1,iv x855.2.2.1.2.1,iv x855.2.2.1.2.2,iv x855.2.2.2.1,iv x855.2.2.2.2.1,iv x855.2.2.2.2.2]]) call60 rfl rfl rfl,ref46_at_ok n hC.lt (wrap_I64 hr822) (wrap_I64 hr826) (wrap_I64 hr834) (wrap_I64 hr838) (wrap_I64 hr839) (wrap_I64 hr842) (wrap_I64 hr846) (wrap_I64 hr847) (wrap_I64 hr864) (wrap_I64 hr868) (wrap_I64 hr876) (wrap_I64 hr880) (wrap_I64 hr881) (wrap_I64 hr884) (wrap_I64 hr888) (wrap_I64 hr889) h891⟩) ?_
 rintro _ w894 ⟨rfl,hr892,hr893,hK⟩
 replace hM:=hM.none hK.fr
 refine ⟨hM,?_⟩
 replace hC:=hC.merge hK
 clear hK
 refine mp (.tuple #[iv y890.1,iv y890.2]) (pu_move rfl)<|mp (iv y890.1) (pu_extract rfl rfl)<|mp (iv y890.2) (pu_extract rfl rfl)<|mp (iv y890.1) (pu_assign rfl)<|mp (iv y890.2) (pu_assign rfl)<|mixE.nil ?_
 clear hS hM
 refine hK810 _ _<|Wc.fresh fun E895 hE=>?_
 have e0:=cg hE 0 e0
 have e2:=cg hE 2 e2
 have e3:=cg hE 3 e3
 have e9:=cg hE 9 e9
 have e10:=cg hE 10 e10
 have e11:=cg hE 11 e11
 have e12:=cg hE 12 e12
 have e13:=cg hE 13 e13
 have e14:=cg hE 14 e14
 have e15:E895 15=iv y890.1:=cg hE 15 rfl
 have e16:E895 16=iv y890.2:=cg hE 16 rfl
 have e140:=cg hE 140 e140
 have e150:=cg hE 150 e150
 have e155:=cg hE 155 e155
 clear hE
 refine Wc.seq fun _ hK896=>rg<|lp _ (pu_move e13)<|lp _ (pu_move e16) ?_
 obtain ⟨z897,h898,hb⟩:=bd hb
 refine lp (iv z897) (pu_mulc (a:=y804.1) (b:=y890.2) rfl rfl h898)<|lp _ (pu_move e15)<|lp _ (pu_move e14) ?_
 obtain ⟨z899,h900,hb⟩:=bd hb
 refine lp (iv z899) (pu_mulc (a:=y890.1) (b:=y804.2) rfl rfl h900)<|lp (.bool (decide (z897=z899))) (pu_eql (k:=.i64) (a:=z897) (b:=z899) rfl rfl)<|ln (hK896 _ _ ?_)
 refine Wc.cond (t:=(decide (z897=z899))) (rfl) (fun hq901=>?_) (fun hq901=>?_)
 replace hb:=tt hq901 hb
 refine Wc.seq fun _ hK902=>rg<|lp (.bool false) (pu_assign rfl)<|ln (hK902 _ _ ?_)
 obtain rfl:=os hb
 obtain rfl:=(lX hl6).symm
 replace hb:=hbK6
 obtain rfl:=os hb
 obtain rfl:=(lX hl5).symm
 replace hb:=hbK5
 obtain rfl:=os hb
 obtain rfl:=(lX hl4).symm
 replace hb:=hbK4
 obtain rfl:=os hb
 refine Wc.ret (hKR _ _ ?_)
 refine ⟨_,res1 results19 (tV (.bool false) rfl),_,rfl,rfl,hC.sE []⟩
 replace hb:=tf hq901 hb
 refine Wc.skip (hK723 _ _ ?_)
 refine rg<|lp _ (pu_move e12) ?_
 obtain ⟨z903,h904,hb⟩:=bd hb
 refine lp (iv z903) (pu_addc (a:=x) (b:=1) rfl rfl h904)<|lp (iv z903) (pu_assign rfl)<|ln ?_
 obtain rfl:=os hb
 exact hK715 m716' _ _ (Nat.lt_succ_self _) ⟨z903,e0,e2,e3,e9,e10,e11,rfl,e140,e150,(chk_rng h904),hC.sE [0,1,2],lN hl6⟩
 replace hb:=tf hq722 hb
 refine Wc.exit rfl ?_
 obtain rfl:=os hb
 obtain rfl:=(lX hl6).symm
 exact hK714 _ _ ⟨x,e0,e2,e3,e9,e10,e11,e12,e140,e150,B,hC.sE [0,1,2],hbK6⟩
 clear hb hC hl6
 rintro E906 w905 ⟨x,e0,e2,e3,e9,e10,e11,e12,e140,e150,B,hC,hb⟩
 refine hK711 _ _<|rg<|lp _ (pu_move e11) ?_
 obtain ⟨z907,h908,hb⟩:=bd hb
 refine lp (iv z907) (pu_addc (a:=h) (b:=1) rfl rfl h908)<|lp (iv z907) (pu_assign rfl)<|ln ?_
 obtain rfl:=os hb
 exact hK703 m704' _ _ (Nat.lt_succ_self _) ⟨z907,e0,e2,e3,e9,e10,rfl,e140,(chk_rng h908),hC.sE [0,1,2],lN hl5⟩
 replace hb:=tf hq710 hb
 refine Wc.exit rfl ?_
 obtain rfl:=os hb
 obtain rfl:=(lX hl5).symm
 exact hK702 _ _ ⟨h,e0,e2,e3,e9,e10,e11,e140,z,hC.sE [0,1,2],hbK5⟩
 clear hb hC hl5
 rintro E910 w909 ⟨h,e0,e2,e3,e9,e10,e11,e140,z,hC,hb⟩
 refine hK688 _ _<|rg<|lp _ (pu_move e9) ?_
 obtain ⟨z911,h912,hb⟩:=bd hb
 refine lp (iv z911) (pu_addc (a:=l) (b:=1) rfl rfl h912)<|lp (iv z911) (pu_assign rfl)<|ln ?_
 obtain rfl:=os hb
 exact hK680 m681' _ _ (Nat.lt_succ_self _) ⟨z911,e0,e2,e3,rfl,(chk_rng h912),hC.sE [0,1],lN hl4⟩
 replace hb:=tf hq687 hb
 refine Wc.exit rfl ?_
 obtain rfl:=os hb
 obtain rfl:=(lX hl4).symm
 exact hK679 _ _ ⟨l,e2,y,hC.sE [],hbK4⟩
 clear hb hC hl4
 rintro E914 w913 ⟨l,e2,y,hC,hb⟩
 refine hK676 _ _<|Wc.seq fun _ hK915=>rg<|lp (.bool true) (pu_assign rfl)<|ln (hK915 _ _ ?_)
 obtain rfl:=os hb
 refine Wc.ret (hKR _ _ ?_)
 refine ⟨_,res1 results19 (tV (.bool true) rfl),_,rfl,rfl,hC.sE []⟩
end Go.Proofs.Yteajmbanlohncaa
