import Derived.Test.YteajmbanlohncaaS
import Derived.Test.YteajmbanlohncaaG8
import Derived.Test.YteajmbanlohncaaG13
import Derived.Test.YteajmbanlohncaaG14
set_option linter.unusedVariables false
set_option linter.unusedSimpArgs false
namespace Go.Proofs.Yteajmbanlohncaa
open Ev Try
set_option maxRecDepth 100000
set_option maxHeartbeats 4000000
theorem ref46_Project_ok (n:Nat) {w:World} {O0:List Nat} (hO: ∀k∈O0,k<w.heap.size) {P:Option Addr} {g4 Q:Nat} {N:List (List (Int×(Int×Int)))} (g5:Rep O0 w (.sl (.sl (.pr si (.pr si si)))) [.slice P g4 Q] N) {r:(List (List (Int×Bool)))×(List Int)×Int} (hb:F.ref46_Project n N=some r):
    Calls prog 20 #[.slice P g4 Q] w fun e w'=> ∃v,e=.returned v∧∃(A0:Option Addr) (m0 c0:Nat) (A1:Option Addr) (m1 c1:Nat),v=.agg #[.slice A0 m0 c0,.slice A1 m1 c1,iv r.2.2]∧I64 r.2.2∧Cx (fun _=>False) O0 w w' [.own 87 (.sl (.pr si .bool)) (.slice A0 m0 c0) r.1,.own 3 si (.slice A1 m1 c1) r.2.1]:=by
 unfold F.ref46_Project at hb
 have hC:=Cx.start hO
 replace hC:=hC.arg rfl g5
 clear hO
 obtain ⟨rfl,k5,k6⟩:=g5.sl_len
 refine calls_of_Wc func20 rfl (by rw [ntmps20]; exact nb rfl) fun KR hKR=>?_
 refine Wc.seq fun _ hK2=>rg<|lex.op (hC.alloc (cs:=[.slice none 0 0,.slice none 0 0,iv 0]) zeroValue39 rfl) ?_
 rintro _ w4 ⟨g3,rfl,hC,hF,-⟩
 refine ln (hK2 _ _ ?_)
 refine Wc.seq fun _ hK6=>rg<|lp (.slice P N.length Q) (pu_move rfl) ?_
 obtain ⟨y7,h8,hb⟩:=bd hb
 refine lex.cl (⟨_,_,op_call (vs:=[.slice P N.length Q]) call56 rfl rfl rfl,ref46_Edges_ok n hC.lt (hC.rd (i:=1) rfl) h8⟩) ?_
 rintro _ w13 ⟨A9,m10,c11,rfl,hK⟩
 replace hC:=hC.merge hK
 clear hK
 obtain ⟨rfl,hl14,hc15⟩:=(hC.ow (i:=0) rfl).sl_len
 refine lp (.slice A9 y7.length c11) (pu_assign rfl)<|ln (hK6 _ _ ?_)
 refine Wc.seq fun _ hK16=>rg<|lp (.slice A9 y7.length c11) (pu_move rfl)<|lp (iv (y7.length:Int)) (pu_len (A:=A9) (n:=y7.length) (m:=c11) underlying79 rfl)<|lp (iv (y7.length:Int)) (pu_assign rfl)<|ln (hK16 _ _ ?_)
 refine Wc.seq fun _ hK17=>rg<|lp (iv (y7.length:Int)) (pu_move rfl)<|lp (iv (y7.length:Int)) (pu_move rfl) ?_
 obtain ⟨z18,h19,hb⟩:=bd hb
 refine lp (iv z18) (pu_mulc (a:=(y7.length:Int)) (b:=(y7.length:Int)) rfl rfl h19) ?_
 obtain ⟨u20,h21,hb⟩:=bd hb
 refine lex.op (hC.make (s:=si) (n:=z18) underlying30 type3 rfl rfl rfl rfl rfl (pos_some h21).1 (pos_some h21).2 (by decide)) ?_
 rintro _ w26 ⟨A22,c23,rfl,hl24,hc25,hC,-,-⟩
 refine lp (.slice A22 (((rZ z18)).length) c23) (pu_assign rfl)<|ln (hK17 _ _ ?_)
 refine Wc.fresh fun E28 hE=>?_
 have e0:E28 0=.slice P N.length Q:=cg hE 0 rfl
 have e2:E28 2=pg g3:=cg hE 2 rfl
 have e3:E28 3=.slice A9 y7.length c11:=cg hE 3 rfl
 have e4:E28 4=iv (y7.length:Int):=cg hE 4 rfl
 have e5:E28 5=.slice A22 (((rZ z18)).length) c23:=cg hE 5 rfl
 clear hE
 refine Wc.seq fun _ hK29=>rg<|lex.op (hC.alloc (cs:=[.slice none 0 0,.slice none 0 0,iv 0]) zeroValue39 rfl) ?_
 rintro _ w31 ⟨g30,rfl,hC,hF,-⟩
 refine ln (hK29 _ _ ?_)
 refine Wc.seq fun _ hK33=>rg<|lp (.slice none 0 0) (pu_assign rfl)<|ln (hK33 _ _ ?_)
 refine Wc.seq fun _ hK34=>?_
 refine Wc.seq fun _ hK35=>rg<|lp (iv 0) (pu_assign rfl)<|ln (hK35 _ _ ?_)
 replace hC:=hC.nil 87 (.sl (.pr si .bool))
 replace hC:=hC.nil 3 si
 replace hC:=hC.nil 89 (.pr si .bool)
 obtain ⟨o39,hl0,f39,hf39,hb⟩:=bn hb
 refine Wc.cut (fun E wv=> ∃(d6:List (Int×Bool)) (f:Int) (b2:List Int) (d:List (List (Int×Bool))) (K:List Int) (z:Int) (d7:Option Addr) (f0 d8:Nat) (g:Option Addr) (R l:Nat) (L:Option Addr) (S M:Nat),E 2=pg g3∧E 6=pg g30∧I64 f∧I64 z∧Cx (fun _=>False) O0 w wv [.box g3 39 [.slice none 0 0,.slice none 0 0,iv 0],.box g30 39 [.slice g R l,.slice L S M,iv z],.own 87 (.sl (.pr si .bool)) (.slice g R l) d,.own 3 si (.slice L S M) K]∧f39 (d6,f,b2,d,K,z)=some r) (fun _ hK40=>?_) ?_
 refine Wc.block ?_
 refine Wc.loop (fun m E wv=> ∃(d6:List (Int×Bool)) (f:Int) (b2:List Int) (d:List (List (Int×Bool))) (K:List Int) (z:Int) (d7:Option Addr) (f0 d8:Nat) (g:Option Addr) (R l:Nat) (L:Option Addr) (S M:Nat),E 0=.slice P N.length Q∧E 2=pg g3∧E 3=.slice A9 y7.length c11∧E 4=iv (y7.length:Int)∧E 5=.slice A22 (((rZ z18)).length) c23∧E 6=pg g30∧E 7=.slice d7 f0 d8∧E 8=iv f∧I64 f∧I64 z∧Cx (fun _=>False) O0 w wv [.ro (.sl (.sl (.pr si (.pr si si)))) [.slice P N.length Q] N,.box g3 39 [.slice none 0 0,.slice none 0 0,iv 0],.own 82 (.pr si (.pr si (.pr (.pr si (.pr si si)) (.pr si (.pr si si))))) (.slice A9 y7.length c11) y7,.own 3 si (.slice A22 (((rZ z18)).length) c23) b2,.box g30 39 [.slice g R l,.slice L S M,iv z],.own 87 (.sl (.pr si .bool)) (.slice g R l) d,.own 3 si (.slice L S M) K,.own 89 (.pr si .bool) (.slice d7 f0 d8) d6]∧loopN m (F.ref46_Project_b0 n N y7) (d6,f,b2,d,K,z)=some o39) n ⟨([]:List (Int×Bool)),0,(rZ z18),([]:List (List (Int×Bool))),([]:List Int),0,none,0,0,none,0,0,none,0,0,e0,e2,e3,e4,e5,rfl,rfl,rfl,(show I64 0 from by unfold I64; omega),(show I64 0 from by unfold I64; omega),hC.sE [7,6,5,4,3,2,1,0],hl0⟩ ?_
 have hbK0:=hb
 clear hb hC hl0
 rintro m42 E44 w43 ⟨d6,f,b2,d,K,z,d7,f0,d8,g,R,l,L,S,M,e0,e2,e3,e4,e5,e6,e7,e8,f4,b1,hC,hl0⟩ K41 hK41
 obtain ⟨m42',o45,rfl,hb,hl0⟩:=loopN_some hl0
 unfold F.ref46_Project_b0 at hb
 obtain ⟨rfl,k3,k4⟩:=(hC.ow (i:=7) rfl).sl_len
 obtain ⟨rfl,f6,f7⟩:=(hC.ow (i:=5) rfl).sl_len
 obtain ⟨rfl,f8,f9⟩:=(hC.ow (i:=6) rfl).sl_len
 refine Wc.seq fun _ hK46=>?_
 refine Wc.seq fun _ hK47=>rg<|lp _ (pu_move e8)<|lp _ (pu_move e4)<|lp (.bool (decide (f<(y7.length:Int)))) (pu_lss (k:=.i64) (a:=f) (b:=(y7.length:Int)) rfl rfl)<|ln (hK47 _ _ ?_)
 refine Wc.cond (t:=(decide (f<(y7.length:Int)))) (rfl) (fun hq48=>?_) (fun hq48=>?_)
 replace hb:=tt hq48 hb
 refine Wc.skip (hK46 _ _ ?_)
 refine Wc.seq fun _ hK49=>?_
 refine Wc.block<|Wc.seq fun _ hK50=>rg<|lp _ (pu_move e0)<|lp _ (pu_move e3)<|lp _ (pu_move e8) ?_
 obtain ⟨y51,h52,hb⟩:=bd hb
 refine lex.cl (⟨_,_,op_call (vs:=[.slice P N.length Q,.slice A9 y7.length c11,iv f]) call61 rfl rfl rfl,ref46_sorted_ok n (hC.lentLt [.slice A9 y7.length c11]) ((hC.rd (i:=0) rfl).lent [.slice A9 y7.length c11]) ((hC.ow (i:=2) rfl).lend (vs:=[.slice A9 y7.length c11]) (by simp)) f4 h52⟩) ?_
 rintro _ w57 ⟨A53,m54,c55,rfl,hK⟩
 replace hC:=hC.mergeF hK rfl
 clear hK
 obtain ⟨rfl,hl58,hc59⟩:=(hC.ow (i:=0) rfl).sl_len
 refine lp (.slice A53 y51.length c55) (pu_assign rfl)<|ln (hK50 _ _ ?_)
 refine Wc.seq fun _ hK60=>?_
 refine Wc.seq fun _ hK61=>rg<|lp (iv 0) (pu_assign rfl)<|ln (hK61 _ _ ?_)
 obtain ⟨o62,hl1,hb⟩:=bd hb
 refine Wc.cut (fun E wv=> ∃(B:List (Int×Bool)) (C:Int) (D:List Int) (c:List Int) (G:Option Addr) (d9 J:Nat) (x:Option Addr) (T y:Nat),E 0=.slice P N.length Q∧E 2=pg g3∧E 3=.slice A9 y7.length c11∧E 4=iv (y7.length:Int)∧E 5=.slice A22 (((rZ z18)).length) c23∧E 6=pg g30∧E 7=.slice G d9 J∧E 8=iv f∧E 9=.slice A53 y51.length c55∧E 10=iv C∧E 27=.bool (decide (f<(y7.length:Int)))∧I64 C∧Cx (fun _=>False) O0 w wv [.ro (.sl (.sl (.pr si (.pr si si)))) [.slice P N.length Q] N,.box g3 39 [.slice none 0 0,.slice none 0 0,iv 0],.own 82 (.pr si (.pr si (.pr (.pr si (.pr si si)) (.pr si (.pr si si))))) (.slice A9 y7.length c11) y7,.own 3 si (.slice A22 (((rZ z18)).length) c23) D,.box g30 39 [.slice g d.length l,.slice x T y,iv z],.own 87 (.sl (.pr si .bool)) (.slice g d.length l) d,.own 3 si (.slice x T y) c,.own 89 (.pr si .bool) (.slice G d9 J) B,.own 3 si (.slice A53 y51.length c55) y51]∧((chk (f+1)).bind fun z498=>cond (decide (z498=(y7.length:Int))) (F.ref46_Project_j5 n f d z B D c true) ((chk (f+1)).bind fun z501=>(get y7 z501).bind fun x503=>(get y7 f).bind fun x538=>F.ref46_Project_j5 n f d z B D c (!(decide (x503.1=x538.1)))):Option (((List (Int×Bool))×Int×(List Int)×(List (List (Int×Bool)))×(List Int)×Int)⊕(((List (Int×Bool))×Int×(List Int)×(List (List (Int×Bool)))×(List Int)×Int))))=some o45) (fun _ hK63=>?_) ?_
 refine Wc.block ?_
 refine Wc.loop (fun m E wv=> ∃(B:List (Int×Bool)) (C:Int) (D:List Int) (c:List Int) (G:Option Addr) (d9 J:Nat) (x:Option Addr) (T y:Nat),E 0=.slice P N.length Q∧E 2=pg g3∧E 3=.slice A9 y7.length c11∧E 4=iv (y7.length:Int)∧E 5=.slice A22 (((rZ z18)).length) c23∧E 6=pg g30∧E 7=.slice G d9 J∧E 8=iv f∧E 9=.slice A53 y51.length c55∧E 10=iv C∧E 27=.bool (decide (f<(y7.length:Int)))∧I64 C∧Cx (fun _=>False) O0 w wv [.ro (.sl (.sl (.pr si (.pr si si)))) [.slice P N.length Q] N,.box g3 39 [.slice none 0 0,.slice none 0 0,iv 0],.own 82 (.pr si (.pr si (.pr (.pr si (.pr si si)) (.pr si (.pr si si))))) (.slice A9 y7.length c11) y7,.own 3 si (.slice A22 (((rZ z18)).length) c23) D,.box g30 39 [.slice g d.length l,.slice x T y,iv z],.own 87 (.sl (.pr si .bool)) (.slice g d.length l) d,.own 3 si (.slice x T y) c,.own 89 (.pr si .bool) (.slice G d9 J) B,.own 3 si (.slice A53 y51.length c55) y51]∧loopN m (F.ref46_Project_b1 n y7 f y51) (B,C,D,c)=some o62) n ⟨d6,0,b2,K,d7,d6.length,d8,L,K.length,M,e0,e2,e3,e4,e5,e6,e7,e8,rfl,rfl,rfl,(show I64 0 from by unfold I64; omega),hC.sE [1,2,3,4,5,6,7,8,0],hl1⟩ ?_
 have hbK1:=hb
 clear hb hC hl1
 rintro m65 E67 w66 ⟨B,C,D,c,G,d9,J,x,T,y,e0,e2,e3,e4,e5,e6,e7,e8,e9,e10,e27,f5,hC,hl1⟩ K64 hK64
 obtain ⟨m65',o68,rfl,hb,hl1⟩:=loopN_some hl1
 unfold F.ref46_Project_b1 at hb
 obtain ⟨rfl,g6,g7⟩:=(hC.ow (i:=7) rfl).sl_len
 obtain ⟨rfl,g0,g1⟩:=(hC.ow (i:=6) rfl).sl_len
 refine Wc.seq fun _ hK69=>?_
 refine Wc.seq fun _ hK70=>rg<|lp _ (pu_move e10)<|lp _ (pu_move e9)<|lp (iv (y51.length:Int)) (pu_len (A:=A53) (n:=y51.length) (m:=c55) underlying30 rfl)<|lp (.bool (decide (C<(y51.length:Int)))) (pu_lss (k:=.i64) (a:=C) (b:=(y51.length:Int)) rfl rfl)<|ln (hK70 _ _ ?_)
 refine Wc.cond (t:=(decide (C<(y51.length:Int)))) (rfl) (fun hq71=>?_) (fun hq71=>?_)
 replace hb:=tt hq71 hb
 refine Wc.skip (hK69 _ _ ?_)
 refine Wc.seq fun _ hK72=>?_
 refine Wc.block<|Wc.seq fun _ hK73=>rg<|lp _ (pu_move e9)<|lp _ (pu_move e10) ?_
 obtain ⟨x74,h75,hb⟩:=bd hb
 obtain ⟨ad76,cs77,hA,hc78,hr79⟩:=hC.elo (i:=8) rfl (get_some h75).2
 subst hA
 refine lp (.pointer (some (ad76.add (C.toNat*1)))) (pu_index (a:=C) underlying30 sizeOf3 rfl rfl (get_some h75).1) ?_
 obtain ⟨rfl,hr79'⟩:=hr79
 refine lv (iv x74) (ld_one isAgg3 rfl (hc78 0 _ rfl))<|lp (iv x74) (pu_assign rfl)<|ln (hK73 _ _ ?_)
 refine Wc.seq fun _ hK80=>?_
 refine Wc.regionMix [] (frm [] ([]:List Fact) ([]:List Fact)) (fun _=>rfl) mixed (by decide+kernel) (by decide+kernel) fun w82 hw81=>?_
 replace hC:=hC.step (Fr.of_drew hw81)
 have hM:=Fr.refl (fun k=>k∈blocks ([]:List Fact)) w82
 clear hw81
 have hS:=hC
 refine mp (.slice A9 y7.length c11) (pu_move e3)<|mp (iv f) (pu_move e8) ?_
 obtain ⟨x83,h84,hb⟩:=bd hb
 obtain ⟨ad85,cs86,hA,ho89,hc87,hr88⟩:=hS.elo2 (i:=2) rfl (get_some h84).2 [] (by decide)
 subst hA
 refine mp (.pointer (some (ad85.add (f.toNat*8)))) (pu_index (a:=f) underlying79 sizeOf82 rfl rfl (get_some h84).1) ?_
 obtain ⟨k90,k91,rfl,hr92,hr93⟩:=hr88
 obtain ⟨rfl,hr92⟩:=hr92
 obtain ⟨k94,k95,rfl,hr96,hr97⟩:=hr93
 obtain ⟨rfl,hr96⟩:=hr96
 obtain ⟨k98,k99,rfl,hr100,hr101⟩:=hr97
 obtain ⟨k102,k103,rfl,hr104,hr105⟩:=hr100
 obtain ⟨rfl,hr104⟩:=hr104
 obtain ⟨k106,k107,rfl,hr108,hr109⟩:=hr105
 obtain ⟨rfl,hr108⟩:=hr108
 obtain ⟨rfl,hr109⟩:=hr109
 obtain ⟨k110,k111,rfl,hr112,hr113⟩:=hr101
 obtain ⟨rfl,hr112⟩:=hr112
 obtain ⟨k114,k115,rfl,hr116,hr117⟩:=hr113
 obtain ⟨rfl,hr116⟩:=hr116
 obtain ⟨rfl,hr117⟩:=hr117
 refine mp (.pointer (some ((ad85.add (f.toNat*8)).add 2))) (pu_field (A:=(ad85.add (f.toNat*8))) (off:=2) (sz:=3) underlying82 rfl sizeOf23 (by decide) rfl rfl)<|mixE.load hM (v:=.agg #[iv x83.2.2.1.1,iv x83.2.2.1.2.1,iv x83.2.2.1.2.2]) (fun _ hF=>ld_agg isAgg23 sizeOf23 rfl rfl (sub_cells (o:=2) (n:=3) (fun j u hu=>hF.cell (hc87 j u hu) (off2 ho89)) rfl rfl))<|mp (.slice (some ad85) y7.length c11) (pu_move e3)<|mp (iv f) (pu_move e8) ?_
 obtain ⟨x118,h119,hb⟩:=bd hb
 obtain ⟨ad120,cs121,hA,ho124,hc122,hr123⟩:=hS.elo2 (i:=2) rfl (get_some h119).2 [] (by decide)
 obtain rfl:=Option.some.inj hA
 refine mp (.pointer (some (ad85.add (f.toNat*8)))) (pu_index (a:=f) underlying79 sizeOf82 rfl rfl (get_some h119).1) ?_
 obtain ⟨k125,k126,rfl,hr127,hr128⟩:=hr123
 obtain ⟨rfl,hr127⟩:=hr127
 obtain ⟨k129,k130,rfl,hr131,hr132⟩:=hr128
 obtain ⟨rfl,hr131⟩:=hr131
 obtain ⟨k133,k134,rfl,hr135,hr136⟩:=hr132
 obtain ⟨k137,k138,rfl,hr139,hr140⟩:=hr135
 obtain ⟨rfl,hr139⟩:=hr139
 obtain ⟨k141,k142,rfl,hr143,hr144⟩:=hr140
 obtain ⟨rfl,hr143⟩:=hr143
 obtain ⟨rfl,hr144⟩:=hr144
 obtain ⟨k145,k146,rfl,hr147,hr148⟩:=hr136
 obtain ⟨rfl,hr147⟩:=hr147
 obtain ⟨k149,k150,rfl,hr151,hr152⟩:=hr148
 obtain ⟨rfl,hr151⟩:=hr151
 obtain ⟨rfl,hr152⟩:=hr152
 refine mp (.pointer (some ((ad85.add (f.toNat*8)).add 5))) (pu_field (A:=(ad85.add (f.toNat*8))) (off:=5) (sz:=3) underlying82 rfl sizeOf23 (by decide) rfl rfl)<|mixE.load hM (v:=.agg #[iv x118.2.2.2.1,iv x118.2.2.2.2.1,iv x118.2.2.2.2.2]) (fun _ hF=>ld_agg isAgg23 sizeOf23 rfl rfl (sub_cells (o:=5) (n:=3) (fun j u hu=>hF.cell (hc122 j u hu) (off2 ho124)) rfl rfl))<|mp (.slice (some ad85) y7.length c11) (pu_move e3)<|mp (iv x74) (pu_move rfl) ?_
 obtain ⟨x153,h154,hb⟩:=bd hb
 obtain ⟨ad155,cs156,hA,ho159,hc157,hr158⟩:=hS.elo2 (i:=2) rfl (get_some h154).2 [] (by decide)
 obtain rfl:=Option.some.inj hA
 refine mp (.pointer (some (ad85.add (x74.toNat*8)))) (pu_index (a:=x74) underlying79 sizeOf82 rfl rfl (get_some h154).1) ?_
 obtain ⟨k160,k161,rfl,hr162,hr163⟩:=hr158
 obtain ⟨rfl,hr162⟩:=hr162
 obtain ⟨k164,k165,rfl,hr166,hr167⟩:=hr163
 obtain ⟨rfl,hr166⟩:=hr166
 obtain ⟨k168,k169,rfl,hr170,hr171⟩:=hr167
 obtain ⟨k172,k173,rfl,hr174,hr175⟩:=hr170
 obtain ⟨rfl,hr174⟩:=hr174
 obtain ⟨k176,k177,rfl,hr178,hr179⟩:=hr175
 obtain ⟨rfl,hr178⟩:=hr178
 obtain ⟨rfl,hr179⟩:=hr179
 obtain ⟨k180,k181,rfl,hr182,hr183⟩:=hr171
 obtain ⟨rfl,hr182⟩:=hr182
 obtain ⟨k184,k185,rfl,hr186,hr187⟩:=hr183
 obtain ⟨rfl,hr186⟩:=hr186
 obtain ⟨rfl,hr187⟩:=hr187
 refine mp (.pointer (some ((ad85.add (x74.toNat*8)).add 2))) (pu_field (A:=(ad85.add (x74.toNat*8))) (off:=2) (sz:=3) underlying82 rfl sizeOf23 (by decide) rfl rfl)<|mixE.load hM (v:=.agg #[iv x153.2.2.1.1,iv x153.2.2.1.2.1,iv x153.2.2.1.2.2]) (fun _ hF=>ld_agg isAgg23 sizeOf23 rfl rfl (sub_cells (o:=2) (n:=3) (fun j u hu=>hF.cell (hc157 j u hu) (off2 ho159)) rfl rfl))<|mp (.slice (some ad85) y7.length c11) (pu_move e3)<|mp (iv x74) (pu_move rfl) ?_
 obtain ⟨x188,h189,hb⟩:=bd hb
 obtain ⟨ad190,cs191,hA,ho194,hc192,hr193⟩:=hS.elo2 (i:=2) rfl (get_some h189).2 [] (by decide)
 obtain rfl:=Option.some.inj hA
 refine mp (.pointer (some (ad85.add (x74.toNat*8)))) (pu_index (a:=x74) underlying79 sizeOf82 rfl rfl (get_some h189).1) ?_
 obtain ⟨k195,k196,rfl,hr197,hr198⟩:=hr193
 obtain ⟨rfl,hr197⟩:=hr197
 obtain ⟨k199,k200,rfl,hr201,hr202⟩:=hr198
 obtain ⟨rfl,hr201⟩:=hr201
 obtain ⟨k203,k204,rfl,hr205,hr206⟩:=hr202
 obtain ⟨k207,k208,rfl,hr209,hr210⟩:=hr205
 obtain ⟨rfl,hr209⟩:=hr209
 obtain ⟨k211,k212,rfl,hr213,hr214⟩:=hr210
 obtain ⟨rfl,hr213⟩:=hr213
 obtain ⟨rfl,hr214⟩:=hr214
 obtain ⟨k215,k216,rfl,hr217,hr218⟩:=hr206
 obtain ⟨rfl,hr217⟩:=hr217
 obtain ⟨k219,k220,rfl,hr221,hr222⟩:=hr218
 obtain ⟨rfl,hr221⟩:=hr221
 obtain ⟨rfl,hr222⟩:=hr222
 refine mp (.pointer (some ((ad85.add (x74.toNat*8)).add 5))) (pu_field (A:=(ad85.add (x74.toNat*8))) (off:=5) (sz:=3) underlying82 rfl sizeOf23 (by decide) rfl rfl)<|mixE.load hM (v:=.agg #[iv x188.2.2.2.1,iv x188.2.2.2.2.1,iv x188.2.2.2.2.2]) (fun _ hF=>ld_agg isAgg23 sizeOf23 rfl rfl (sub_cells (o:=5) (n:=3) (fun j u hu=>hF.cell (hc192 j u hu) (off2 ho194)) rfl rfl)) ?_
 obtain ⟨y223,h224,hb⟩:=bd hb
 refine mixE.cl hM (⟨_,_,op_call (vs:=[.agg #[iv x83.2.2.1.1,iv x83.2.2.1.2.1,iv x83.2.2.1.2.2],.agg #[iv x118.2.2.2.1,iv x118.2.2.2.2.1,iv x118.2.2.2.2.2],.agg #[iv x153.2.2.1.1,iv x153.2.2.1.2.1,iv x153.2.2.1.2.2],.agg #[iv x188.2.2.2.1,iv x188.2.2.2.2.1,iv x188.2.2.2.2.2]]) call13 rfl rfl rfl,ref46_Cross_ok n hC.lt (wrap_I64 hr104) (wrap_I64 hr108) (wrap_I64 hr109) (wrap_I64 hr147) (wrap_I64 hr151) (wrap_I64 hr152) (wrap_I64 hr174) (wrap_I64 hr178) (wrap_I64 hr179) (wrap_I64 hr217) (wrap_I64 hr221) (wrap_I64 hr222) h224⟩) ?_
 rintro _ w226 ⟨rfl,hr225,hK⟩
 replace hM:=hM.none hK.fr
 refine ⟨hM,?_⟩
 replace hC:=hC.merge hK
 clear hK
 refine mp (.tuple #[iv y223.1,.bool y223.2]) (pu_move rfl)<|mp (iv y223.1) (pu_extract rfl rfl)<|mp (.bool y223.2) (pu_extract rfl rfl)<|mp (iv y223.1) (pu_assign rfl)<|mp (.bool y223.2) (pu_assign rfl)<|mixE.nil ?_
 clear hS hM
 refine hK80 _ _<|Wc.fresh fun E227 hE=>?_
 have e0:=cg hE 0 e0
 have e2:=cg hE 2 e2
 have e3:=cg hE 3 e3
 have e4:=cg hE 4 e4
 have e5:=cg hE 5 e5
 have e6:=cg hE 6 e6
 have e7:=cg hE 7 e7
 have e8:=cg hE 8 e8
 have e9:=cg hE 9 e9
 have e10:=cg hE 10 e10
 have e11:E227 11=iv x74:=cg hE 11 rfl
 have e13:E227 13=.bool y223.2:=cg hE 13 rfl
 have e27:=cg hE 27 e27
 have e37:E227 37=.bool (decide (C<(y51.length:Int))):=cg hE 37 rfl
 clear hE
 refine Wc.seqJ (fun E wv=> ∃(g2:Bool) (f1:List Int) (d2:List Int) (d4:Option Addr) (e1 d5:Nat),E 0=.slice P N.length Q∧E 2=pg g3∧E 3=.slice (some ad85) y7.length c11∧E 4=iv (y7.length:Int)∧E 5=.slice A22 (((rZ z18)).length) c23∧E 6=pg g30∧E 7=.slice G B.length J∧E 8=iv f∧E 9=.slice (some ad76) y51.length c55∧E 10=iv C∧E 11=iv x74∧E 13=.bool y223.2∧E 27=.bool (decide (f<(y7.length:Int)))∧E 37=.bool (decide (C<(y51.length:Int)))∧E 76=.bool g2∧Cx (fun _=>False) O0 w wv [.ro (.sl (.sl (.pr si (.pr si si)))) [.slice P N.length Q] N,.box g3 39 [.slice none 0 0,.slice none 0 0,iv 0],.own 82 (.pr si (.pr si (.pr (.pr si (.pr si si)) (.pr si (.pr si si))))) (.slice (some ad85) y7.length c11) y7,.own 3 si (.slice A22 (((rZ z18)).length) c23) f1,.box g30 39 [.slice g d.length l,.slice d4 e1 d5,iv z],.own 87 (.sl (.pr si .bool)) (.slice g d.length l) d,.own 3 si (.slice d4 e1 d5) d2,.own 89 (.pr si .bool) (.slice G B.length J) B,.own 3 si (.slice (some ad76) y51.length c55) y51]∧F.ref46_Project_j2 n y7 f B C x74 y223 g2 f1 d2=some o68) (fun _ hK228=>?_) ?_
 refine Wc.seq fun _ hK229=>rg<|lp _ (pu_move e5)<|lp _ (pu_move e8)<|lp _ (pu_move e4) ?_
 obtain ⟨z230,h231,hb⟩:=bd hb
 refine lp (iv z230) (pu_mulc (a:=f) (b:=(y7.length:Int)) rfl rfl h231)<|lp _ (pu_move e11) ?_
 obtain ⟨z232,h233,hb⟩:=bd hb
 refine lp (iv z232) (pu_addc (a:=z230) (b:=x74) rfl rfl h233) ?_
 obtain ⟨x234,h235,hb⟩:=bd hb
 obtain ⟨ad236,cs237,hA,hc238,hr239⟩:=hC.elo (i:=3) rfl (get_some h235).2
 subst hA
 refine lp (.pointer (some (ad236.add (z232.toNat*1)))) (pu_index (a:=z232) underlying30 sizeOf3 rfl rfl (by rw [(hC.ow (i:=3) rfl).sl_len.1]; exact (get_some h235).1)) ?_
 obtain ⟨rfl,hr239'⟩:=hr239
 refine lv (iv x234) (ld_one isAgg3 rfl (hc238 0 _ rfl))<|lp (.bool (decide (x234=0))) (pu_eql (k:=.i64) (a:=x234) (b:=0) rfl rfl)<|ln (hK229 _ _ ?_)
 refine Wc.cond (t:=(decide (x234=0))) (rfl) (fun hq240=>?_) (fun hq240=>?_)
 replace hb:=tt hq240 hb
 refine Wc.seq fun _ hK241=>?_
 refine Wc.regionPlan [80,84] (frm [80,84] ([]:List Fact) ([]:List Fact)) (chainP [0,1,2,3,4,5,6,7] (.alt (chainP [8] (chainP [9,10,11] .done)) (chainP [9] (chainP [8,10,11] .done)))) (fun _=>rfl) mixed (by decide+kernel) (by decide+kernel) fun w243 hw242=>?_
 replace hC:=hC.step (Fr.of_drew hw242)
 have hM:=Fr.refl (fun k=>k∈blocks ([]:List Fact)) w243
 clear hw242
 have hS:=hC
 have hD:Fr (fun k=>k∈blocks (([]:List Fact)++([]:List Fact))) w243 w243:=hM.wide
 refine mixPE_chain ?_
 refine mp (.slice (some ad85) y7.length c11) (pu_move e3)<|mp (iv f) (pu_move e8) ?_
 obtain ⟨x244,h245,hb⟩:=bd hb
 obtain ⟨ad246,cs247,hA,ho250,hc248,hr249⟩:=hS.elo2 (i:=2) rfl (get_some h245).2 [] (by decide)
 obtain rfl:=Option.some.inj hA
 refine mp (.pointer (some (ad85.add (f.toNat*8)))) (pu_index (a:=f) underlying79 sizeOf82 rfl rfl (get_some h245).1) ?_
 obtain ⟨k251,k252,rfl,hr253,hr254⟩:=hr249
 obtain ⟨rfl,hr253⟩:=hr253
 obtain ⟨k255,k256,rfl,hr257,hr258⟩:=hr254
 obtain ⟨rfl,hr257⟩:=hr257
 obtain ⟨k259,k260,rfl,hr261,hr262⟩:=hr258
 obtain ⟨k263,k264,rfl,hr265,hr266⟩:=hr261
 obtain ⟨rfl,hr265⟩:=hr265
 obtain ⟨k267,k268,rfl,hr269,hr270⟩:=hr266
 obtain ⟨rfl,hr269⟩:=hr269
 obtain ⟨rfl,hr270⟩:=hr270
 obtain ⟨k271,k272,rfl,hr273,hr274⟩:=hr262
 obtain ⟨rfl,hr273⟩:=hr273
 obtain ⟨k275,k276,rfl,hr277,hr278⟩:=hr274
 obtain ⟨rfl,hr277⟩:=hr277
 obtain ⟨rfl,hr278⟩:=hr278
 refine mixE.steady hD (v:=.agg #[iv x244.1,iv x244.2.1,iv x244.2.2.1.1,iv x244.2.2.1.2.1,iv x244.2.2.1.2.2,iv x244.2.2.2.1,iv x244.2.2.2.2.1,iv x244.2.2.2.2.2]) (fun _ hF=>ld_agg isAgg82 sizeOf82 rfl rfl (fun j u hu=>hF.cell (hc248 j u hu) (off2 ho250)))<|mp (.slice (some ad85) y7.length c11) (pu_move e3)<|mp (iv x74) (pu_move e11) ?_
 obtain ⟨x279,h280,hb⟩:=bd hb
 obtain ⟨ad281,cs282,hA,ho285,hc283,hr284⟩:=hS.elo2 (i:=2) rfl (get_some h280).2 [] (by decide)
 obtain rfl:=Option.some.inj hA
 refine mp (.pointer (some (ad85.add (x74.toNat*8)))) (pu_index (a:=x74) underlying79 sizeOf82 rfl rfl (get_some h280).1) ?_
 obtain ⟨k286,k287,rfl,hr288,hr289⟩:=hr284
 obtain ⟨rfl,hr288⟩:=hr288
 obtain ⟨k290,k291,rfl,hr292,hr293⟩:=hr289
 obtain ⟨rfl,hr292⟩:=hr292
 obtain ⟨k294,k295,rfl,hr296,hr297⟩:=hr293
 obtain ⟨k298,k299,rfl,hr300,hr301⟩:=hr296
 obtain ⟨rfl,hr300⟩:=hr300
 obtain ⟨k302,k303,rfl,hr304,hr305⟩:=hr301
 obtain ⟨rfl,hr304⟩:=hr304
 obtain ⟨rfl,hr305⟩:=hr305
 obtain ⟨k306,k307,rfl,hr308,hr309⟩:=hr297
 obtain ⟨rfl,hr308⟩:=hr308
 obtain ⟨k310,k311,rfl,hr312,hr313⟩:=hr309
 obtain ⟨rfl,hr312⟩:=hr312
 obtain ⟨rfl,hr313⟩:=hr313
 refine mixE.steady hD (v:=.agg #[iv x279.1,iv x279.2.1,iv x279.2.2.1.1,iv x279.2.2.1.2.1,iv x279.2.2.1.2.2,iv x279.2.2.2.1,iv x279.2.2.2.2.1,iv x279.2.2.2.2.2]) (fun _ hF=>ld_agg isAgg82 sizeOf82 rfl rfl (fun j u hu=>hF.cell (hc283 j u hu) (off2 ho285)))<|mixE.nil ?_
 refine mixPE_alt ?_ ?_
 refine mixPE_chain ?_
 refine mixE.op hM (hC.alloc (cs:=[iv 0,iv 0,iv 0,iv 0,iv 0,iv 0,iv 0,iv 0]) zeroValue82 rfl) ?_
 rintro _ w315 ⟨g314,rfl,hC,hF,hG⟩
 have hUf316:g314<w243.heap.size→g314∈blocks (([]:List Fact)++([]:List Fact)):=fun h=>absurd (Nat.lt_of_lt_of_le h (Nat.le_trans hM.size hG)) (Nat.lt_irrefl _)
 clear hG
 replace hM:=hM.none hF
 replace hD:=hM.wide (H:=([]:List Fact))
 refine ⟨hM,?_⟩
 refine mixE.nil ?_
 refine mixPE_chain ?_
 refine mixE.op hM (hC.alloc (cs:=[iv 0,iv 0,iv 0,iv 0,iv 0,iv 0,iv 0,iv 0]) zeroValue82 rfl) ?_
 rintro _ w318 ⟨g317,rfl,hC,hF,hG⟩
 have hUf319:g317<w243.heap.size→g317∈blocks (([]:List Fact)++([]:List Fact)):=fun h=>absurd (Nat.lt_of_lt_of_le h (Nat.le_trans hM.size hG)) (Nat.lt_irrefl _)
 clear hG
 replace hM:=hM.none hF
 replace hD:=hM.wide (H:=([]:List Fact))
 refine ⟨hM,?_⟩
 refine mixE.sk hD (hC.seta (i:=1) (ds:=[iv x244.1,iv x244.2.1,iv x244.2.2.1.1,iv x244.2.2.1.2.1,iv x244.2.2.1.2.2,iv x244.2.2.2.1,iv x244.2.2.2.2.1,iv x244.2.2.2.2.2]) rfl type82 rfl rfl rfl rfl rfl) ?_
 rintro w320 ⟨hC,hF⟩
 replace hD:=hD.besideG hUf316 hF
 clear hF
 refine ⟨hD,?_⟩
 refine mixE.sk hD (hC.seta (i:=0) (ds:=[iv x279.1,iv x279.2.1,iv x279.2.2.1.1,iv x279.2.2.1.2.1,iv x279.2.2.1.2.2,iv x279.2.2.2.1,iv x279.2.2.2.2.1,iv x279.2.2.2.2.2]) rfl type82 rfl rfl rfl rfl rfl) ?_
 rintro w321 ⟨hC,hF⟩
 replace hD:=hD.besideG hUf319 hF
 clear hF
 refine ⟨hD,?_⟩
 refine mixE.nil ?_
 clear hS hM
 clear hD
 refine hK241 _ _<|Wc.fresh fun E322 hE=>?_
 have e0:=cg hE 0 e0
 have e2:=cg hE 2 e2
 have e3:=cg hE 3 e3
 have e4:=cg hE 4 e4
 have e5:=cg hE 5 e5
 have e6:=cg hE 6 e6
 have e7:=cg hE 7 e7
 have e8:=cg hE 8 e8
 have e9:=cg hE 9 e9
 have e10:=cg hE 10 e10
 have e11:=cg hE 11 e11
 have e13:=cg hE 13 e13
 have e14:E322 14=pg g314:=cg hE 14 rfl
 have e15:E322 15=pg g317:=cg hE 15 rfl
 have e27:=cg hE 27 e27
 have e37:=cg hE 37 e37
 have e76:E322 76=.bool (decide (x234=0)):=cg hE 76 rfl
 clear hE
 refine Wc.seqJ (fun E wv=> ∃(d1:Bool) (b3:Int) (b4:Int) (U:Int) (V:Int) (b5:Int) (X:Int) (Y:Int) (b6:Int) (b7:Int) (b8:Int) (Z:Int) (a0:Int) (b9:Int) (a1:Int) (a2:Int) (c2:Int),E 0=.slice P N.length Q∧E 2=pg g3∧E 3=.slice (some ad85) y7.length c11∧E 4=iv (y7.length:Int)∧E 5=.slice (some ad236) (((rZ z18)).length) c23∧E 6=pg g30∧E 7=.slice G B.length J∧E 8=iv f∧E 9=.slice (some ad76) y51.length c55∧E 10=iv C∧E 11=iv x74∧E 13=.bool y223.2∧E 14=pg g314∧E 15=pg g317∧E 27=.bool (decide (f<(y7.length:Int)))∧E 37=.bool (decide (C<(y51.length:Int)))∧E 76=.bool (decide (x234=0))∧E 86=.bool d1∧I64 b3∧I64 b4∧I64 U∧I64 V∧I64 b5∧I64 X∧I64 Y∧I64 b6∧I64 b7∧I64 b8∧I64 Z∧I64 a0∧I64 b9∧I64 a1∧I64 a2∧I64 c2∧Cx (fun _=>False) O0 w wv [.ro (.sl (.sl (.pr si (.pr si si)))) [.slice P N.length Q] N,.box g3 39 [.slice none 0 0,.slice none 0 0,iv 0],.own 82 (.pr si (.pr si (.pr (.pr si (.pr si si)) (.pr si (.pr si si))))) (.slice (some ad85) y7.length c11) y7,.own 3 si (.slice (some ad236) (((rZ z18)).length) c23) D,.box g30 39 [.slice g d.length l,.slice x c.length y,iv z],.own 87 (.sl (.pr si .bool)) (.slice g d.length l) d,.own 3 si (.slice x c.length y) c,.own 89 (.pr si .bool) (.slice G B.length J) B,.own 3 si (.slice (some ad76) y51.length c55) y51,.box g314 82 [iv b3,iv b4,iv U,iv V,iv b5,iv X,iv Y,iv b6],.box g317 82 [iv b7,iv b8,iv Z,iv a0,iv b9,iv a1,iv a2,iv c2]]∧F.ref46_Project_j3 n y7 f B C D c x74 y223 x234 d1 b3 b4 U V b5 X Y b6 b7 b8 Z a0 b9 a1 a2 c2=some o68) (fun _ hK323=>?_) ?_
 refine Wc.seq fun _ hK324=>rg<|lp _ (pu_move e13)<|lp (.bool (!y223.2)) (pu_not (q:=y223.2) rfl)<|ln (hK324 _ _ ?_)
 refine Wc.cond (t:=(!y223.2)) (rfl) (fun hq325=>?_) (fun hq325=>?_)
 replace hb:=tt hq325 hb
 refine rg<|lv (.agg #[iv x279.1,iv x279.2.1,iv x279.2.2.1.1,iv x279.2.2.1.2.1,iv x279.2.2.1.2.2,iv x279.2.2.2.1,iv x279.2.2.2.2.1,iv x279.2.2.2.2.2]) (ld_blk (hC.bx (i:=0) rfl) isAgg82 sizeOf82 e15)<|lv (.agg #[iv x244.1,iv x244.2.1,iv x244.2.2.1.1,iv x244.2.2.1.2.1,iv x244.2.2.1.2.2,iv x244.2.2.2.1,iv x244.2.2.2.2.1,iv x244.2.2.2.2.2]) (ld_blk (hC.bx (i:=1) rfl) isAgg82 sizeOf82 e14)<|lex.sk (hC.seta (i:=1) (ds:=[iv x279.1,iv x279.2.1,iv x279.2.2.1.1,iv x279.2.2.1.2.1,iv x279.2.2.1.2.2,iv x279.2.2.2.1,iv x279.2.2.2.2.1,iv x279.2.2.2.2.2]) rfl type82 rfl rfl rfl e14 rfl) ?_
 rintro w326 ⟨hC,hF⟩
 refine lex.sk (hC.seta (i:=0) (ds:=[iv x244.1,iv x244.2.1,iv x244.2.2.1.1,iv x244.2.2.1.2.1,iv x244.2.2.1.2.2,iv x244.2.2.2.1,iv x244.2.2.2.2.1,iv x244.2.2.2.2.2]) rfl type82 rfl rfl rfl e15 rfl) ?_
 rintro w327 ⟨hC,hF⟩
 refine ln ?_
 exact hK323 _ _ ⟨(!y223.2),x279.1,x279.2.1,x279.2.2.1.1,x279.2.2.1.2.1,x279.2.2.1.2.2,x279.2.2.2.1,x279.2.2.2.2.1,x279.2.2.2.2.2,x244.1,x244.2.1,x244.2.2.1.1,x244.2.2.1.2.1,x244.2.2.1.2.2,x244.2.2.2.1,x244.2.2.2.2.1,x244.2.2.2.2.2,e0,e2,e3,e4,e5,e6,e7,e8,e9,e10,e11,e13,e14,e15,e27,e37,e76,rfl,(wrap_I64 hr288),(wrap_I64 hr292),(wrap_I64 hr300),(wrap_I64 hr304),(wrap_I64 hr305),(wrap_I64 hr308),(wrap_I64 hr312),(wrap_I64 hr313),(wrap_I64 hr253),(wrap_I64 hr257),(wrap_I64 hr265),(wrap_I64 hr269),(wrap_I64 hr270),(wrap_I64 hr273),(wrap_I64 hr277),(wrap_I64 hr278),hC.sE [2,3,4,5,6,7,8,9,10,1,0],hb⟩
 replace hb:=tf hq325 hb
 refine Wc.skip ?_
 exact hK323 _ _ ⟨(!y223.2),x244.1,x244.2.1,x244.2.2.1.1,x244.2.2.1.2.1,x244.2.2.1.2.2,x244.2.2.2.1,x244.2.2.2.2.1,x244.2.2.2.2.2,x279.1,x279.2.1,x279.2.2.1.1,x279.2.2.1.2.1,x279.2.2.1.2.2,x279.2.2.2.1,x279.2.2.2.2.1,x279.2.2.2.2.2,e0,e2,e3,e4,e5,e6,e7,e8,e9,e10,e11,e13,e14,e15,e27,e37,e76,rfl,(wrap_I64 hr253),(wrap_I64 hr257),(wrap_I64 hr265),(wrap_I64 hr269),(wrap_I64 hr270),(wrap_I64 hr273),(wrap_I64 hr277),(wrap_I64 hr278),(wrap_I64 hr288),(wrap_I64 hr292),(wrap_I64 hr300),(wrap_I64 hr304),(wrap_I64 hr305),(wrap_I64 hr308),(wrap_I64 hr312),(wrap_I64 hr313),hC.sE [2,3,4,5,6,7,8,9,10,1,0],hb⟩
 clear hb hC
 rintro E329 w328 ⟨d1,b3,b4,U,V,b5,X,Y,b6,b7,b8,Z,a0,b9,a1,a2,c2,e0,e2,e3,e4,e5,e6,e7,e8,e9,e10,e11,e13,e14,e15,e27,e37,e76,e86,g8,g9,h0,h1,h2,h3,h4,h5,h6,h7,h9,i0,i1,i2,i3,i4,hC,hb⟩
 unfold F.ref46_Project_j3 at hb
 refine Wc.seq fun _ hK330=>rg<|lp (iv 1) (pu_assign rfl)<|ln (hK330 _ _ ?_)
 refine Wc.seqJ (fun E wv=> ∃(p:Int) (d3:Bool),E 0=.slice P N.length Q∧E 2=pg g3∧E 3=.slice (some ad85) y7.length c11∧E 4=iv (y7.length:Int)∧E 5=.slice (some ad236) (((rZ z18)).length) c23∧E 6=pg g30∧E 7=.slice G B.length J∧E 8=iv f∧E 9=.slice (some ad76) y51.length c55∧E 10=iv C∧E 11=iv x74∧E 13=.bool y223.2∧E 14=pg g314∧E 15=pg g317∧E 16=iv p∧E 27=.bool (decide (f<(y7.length:Int)))∧E 37=.bool (decide (C<(y51.length:Int)))∧E 76=.bool (decide (x234=0))∧E 86=.bool d1∧E 120=.bool d3∧I64 p∧Cx (fun _=>False) O0 w wv [.ro (.sl (.sl (.pr si (.pr si si)))) [.slice P N.length Q] N,.box g3 39 [.slice none 0 0,.slice none 0 0,iv 0],.own 82 (.pr si (.pr si (.pr (.pr si (.pr si si)) (.pr si (.pr si si))))) (.slice (some ad85) y7.length c11) y7,.own 3 si (.slice (some ad236) (((rZ z18)).length) c23) D,.box g30 39 [.slice g d.length l,.slice x c.length y,iv z],.own 87 (.sl (.pr si .bool)) (.slice g d.length l) d,.own 3 si (.slice x c.length y) c,.own 89 (.pr si .bool) (.slice G B.length J) B,.own 3 si (.slice (some ad76) y51.length c55) y51,.box g314 82 [iv b3,iv b4,iv U,iv V,iv b5,iv X,iv Y,iv b6],.box g317 82 [iv b7,iv b8,iv Z,iv a0,iv b9,iv a1,iv a2,iv c2]]∧F.ref46_Project_j4 n y7 f B C D c x74 y223 x234 p d3=some o68) (fun _ hK331=>?_) ?_
 refine Wc.seq fun _ hK332=>rg<|lp (.pointer (some ((⟨g314,0,none⟩:Addr).add 5))) (pu_field (sz:=3) underlying82 rfl sizeOf23 (by decide) rfl e14)<|lp (.pointer (some ((⟨g314,0,none⟩:Addr).add 5))) (pu_field (A:=((⟨g314,0,none⟩:Addr).add 5)) (off:=0) (sz:=1) underlying23 rfl sizeOf3 (by decide) rfl rfl)<|lv (iv X) (ld_fld (hC.bx (i:=9) rfl) isAgg3 rfl rfl)<|lp (.pointer (some ((⟨g314,0,none⟩:Addr).add 2))) (pu_field (sz:=3) underlying82 rfl sizeOf23 (by decide) rfl e14)<|lp (.pointer (some ((⟨g314,0,none⟩:Addr).add 2))) (pu_field (A:=((⟨g314,0,none⟩:Addr).add 2)) (off:=0) (sz:=1) underlying23 rfl sizeOf3 (by decide) rfl rfl)<|lv (iv U) (ld_fld (hC.bx (i:=9) rfl) isAgg3 rfl rfl) ?_
 obtain ⟨z333,h334,hb⟩:=bd hb
 refine lp (iv z333) (pu_subc (a:=X) (b:=U) rfl rfl h334)<|lp (.pointer (some ((⟨g317,0,none⟩:Addr).add 5))) (pu_field (sz:=3) underlying82 rfl sizeOf23 (by decide) rfl e15)<|lp (.pointer (some ((⟨g317,0,none⟩:Addr).add 6))) (pu_field (A:=((⟨g317,0,none⟩:Addr).add 5)) (off:=1) (sz:=1) underlying23 rfl sizeOf3 (by decide) rfl rfl)<|lv (iv a2) (ld_fld (hC.bx (i:=10) rfl) isAgg3 rfl rfl)<|lp (.pointer (some ((⟨g317,0,none⟩:Addr).add 2))) (pu_field (sz:=3) underlying82 rfl sizeOf23 (by decide) rfl e15)<|lp (.pointer (some ((⟨g317,0,none⟩:Addr).add 3))) (pu_field (A:=((⟨g317,0,none⟩:Addr).add 2)) (off:=1) (sz:=1) underlying23 rfl sizeOf3 (by decide) rfl rfl)<|lv (iv a0) (ld_fld (hC.bx (i:=10) rfl) isAgg3 rfl rfl) ?_
 obtain ⟨z335,h336,hb⟩:=bd hb
 refine lp (iv z335) (pu_subc (a:=a2) (b:=a0) rfl rfl h336) ?_
 obtain ⟨z337,h338,hb⟩:=bd hb
 refine lp (iv z337) (pu_mulc (a:=z333) (b:=z335) rfl rfl h338)<|lp (.pointer (some ((⟨g314,0,none⟩:Addr).add 5))) (pu_field (sz:=3) underlying82 rfl sizeOf23 (by decide) rfl e14)<|lp (.pointer (some ((⟨g314,0,none⟩:Addr).add 6))) (pu_field (A:=((⟨g314,0,none⟩:Addr).add 5)) (off:=1) (sz:=1) underlying23 rfl sizeOf3 (by decide) rfl rfl)<|lv (iv Y) (ld_fld (hC.bx (i:=9) rfl) isAgg3 rfl rfl)<|lp (.pointer (some ((⟨g314,0,none⟩:Addr).add 2))) (pu_field (sz:=3) underlying82 rfl sizeOf23 (by decide) rfl e14)<|lp (.pointer (some ((⟨g314,0,none⟩:Addr).add 3))) (pu_field (A:=((⟨g314,0,none⟩:Addr).add 2)) (off:=1) (sz:=1) underlying23 rfl sizeOf3 (by decide) rfl rfl)<|lv (iv V) (ld_fld (hC.bx (i:=9) rfl) isAgg3 rfl rfl) ?_
 obtain ⟨z339,h340,hb⟩:=bd hb
 refine lp (iv z339) (pu_subc (a:=Y) (b:=V) rfl rfl h340)<|lp (.pointer (some ((⟨g317,0,none⟩:Addr).add 5))) (pu_field (sz:=3) underlying82 rfl sizeOf23 (by decide) rfl e15)<|lp (.pointer (some ((⟨g317,0,none⟩:Addr).add 5))) (pu_field (A:=((⟨g317,0,none⟩:Addr).add 5)) (off:=0) (sz:=1) underlying23 rfl sizeOf3 (by decide) rfl rfl)<|lv (iv a1) (ld_fld (hC.bx (i:=10) rfl) isAgg3 rfl rfl)<|lp (.pointer (some ((⟨g317,0,none⟩:Addr).add 2))) (pu_field (sz:=3) underlying82 rfl sizeOf23 (by decide) rfl e15)<|lp (.pointer (some ((⟨g317,0,none⟩:Addr).add 2))) (pu_field (A:=((⟨g317,0,none⟩:Addr).add 2)) (off:=0) (sz:=1) underlying23 rfl sizeOf3 (by decide) rfl rfl)<|lv (iv Z) (ld_fld (hC.bx (i:=10) rfl) isAgg3 rfl rfl) ?_
 obtain ⟨z341,h342,hb⟩:=bd hb
 refine lp (iv z341) (pu_subc (a:=a1) (b:=Z) rfl rfl h342) ?_
 obtain ⟨z343,h344,hb⟩:=bd hb
 refine lp (iv z343) (pu_mulc (a:=z339) (b:=z341) rfl rfl h344) ?_
 obtain ⟨z345,h346,hb⟩:=bd hb
 refine lp (iv z345) (pu_subc (a:=z337) (b:=z343) rfl rfl h346)<|lp (.bool (decide (z345<0))) (pu_lss (k:=.i64) (a:=z345) (b:=0) rfl rfl)<|ln (hK332 _ _ ?_)
 refine Wc.cond (t:=(decide (z345<0))) (rfl) (fun hq347=>?_) (fun hq347=>?_)
 replace hb:=tt hq347 hb
 refine rg<|lp (iv (-1)) (pu_assign rfl)<|ln ?_
 exact hK331 _ _ ⟨(-1),(decide (z345<0)),e0,e2,e3,e4,e5,e6,e7,e8,e9,e10,e11,e13,e14,e15,rfl,e27,e37,e76,e86,rfl,(show I64 (-1) from by unfold I64; omega),hC.sE [0,1,2,3,4,5,6,7,8,9,10],hb⟩
 replace hb:=tf hq347 hb
 refine Wc.skip ?_
 exact hK331 _ _ ⟨1,(decide (z345<0)),e0,e2,e3,e4,e5,e6,e7,e8,e9,e10,e11,e13,e14,e15,rfl,e27,e37,e76,e86,rfl,(show I64 1 from by unfold I64; omega),hC.sE [0,1,2,3,4,5,6,7,8,9,10],hb⟩
 clear hb hC
 rintro E349 w348 ⟨p,d3,e0,e2,e3,e4,e5,e6,e7,e8,e9,e10,e11,e13,e14,e15,e16,e27,e37,e76,e86,e120,f3,hC,hb⟩
 unfold F.ref46_Project_j4 at hb
 refine Wc.seq fun _ hK350=>rg<|lp (.pointer (some ((⟨g30,0,none⟩:Addr).add 1))) (pu_field (sz:=1) underlying39 rfl sizeOf30 (by decide) rfl e6)<|lv (.slice x c.length y) (ld_fld (hC.bx (i:=4) rfl) isAgg30 rfl rfl)<|lp _ (pu_move e16)<|lex.op (hC.lit (s:=si) (vs:=[iv p]) (xs:=[p]) underlying30 type3 rfl rfl (nb rfl) rfl rfl (by simp [Value.cells,Sh.n]) rfl (show Elems _ _ si ([iv p]++([])) ([p]:List Int) from Elems.cons (⟨rfl,I64.wr f3⟩) (Elems.nil _ _ _))) ?_
 rintro _ w355 ⟨A351,c352,rfl,hl353,hc354,hC,-,-⟩
 obtain ⟨u357,h358,hb⟩:=bd hb
 refine lex.op (hC.app (i:=7) (s:=si) (xs:=c) (ys:=([p]:List Int)) (m:=((([p]:List Int)).length)) rfl underlying30 underlying30 type3 rfl rfl rfl (hC.srco (i:=0) rfl) rfl rfl (by have:=lim_some h358; simp at this⊢ <;>omega) (by decide)) ?_
 rintro _ w363 ⟨A359,c360,rfl,hl361,hc362,hC,-,-⟩
 refine lp (.pointer (some ((⟨g30,0,none⟩:Addr).add 1))) (pu_field (sz:=1) underlying39 rfl sizeOf30 (by decide) rfl e6)<|lex.sk (hC.setf (i:=5) (k:=1) (v:=.slice A359 ((c++([p]:List Int)).length) c360) rfl sizeOf30 rfl rfl rfl rfl) ?_
 rintro w364 ⟨hC,hF⟩
 refine ln (hK350 _ _ ?_)
 refine Wc.seq fun _ hK365=>rg<|lp _ (pu_move e5)<|lp _ (pu_move e8)<|lp _ (pu_move e4) ?_
 obtain ⟨z366,h367,hb⟩:=bd hb
 refine lp (iv z366) (pu_mulc (a:=f) (b:=(y7.length:Int)) rfl rfl h367)<|lp _ (pu_move e11) ?_
 obtain ⟨z368,h369,hb⟩:=bd hb
 refine lp (iv z368) (pu_addc (a:=z366) (b:=x74) rfl rfl h369)<|lp (.pointer (some ((⟨g30,0,none⟩:Addr).add 1))) (pu_field (sz:=1) underlying39 rfl sizeOf30 (by decide) rfl e6)<|lv (.slice A359 ((c++([p]:List Int)).length) c360) (ld_fld (hC.bx (i:=5) rfl) isAgg30 rfl rfl)<|lp (iv ((c++([p]:List Int)).length:Int)) (pu_len (A:=A359) (n:=(c++([p]:List Int)).length) (m:=c360) underlying30 rfl) ?_
 obtain ⟨x370,h371,hb⟩:=bd hb
 obtain ⟨ad372,cs373,hA,hc374,hr375⟩:=hC.elo (i:=4) rfl (get_some h371).2
 obtain rfl:=Option.some.inj hA
 refine lp (.pointer (some (ad236.add (z368.toNat*1)))) (pu_index (a:=z368) underlying30 sizeOf3 rfl rfl (by rw [(hC.ow (i:=4) rfl).sl_len.1]; exact (get_some h371).1))<|lex.sk (hC.put (i:=4) rfl rfl sizeOf3 (k:=z368.toNat) (a:=((c++([p]:List Int)).length:Int)) (by have:=(get_some h371).1; simp at this⊢; omega) (⟨rfl,I64.wr (I64.len hl361 hc362)⟩) rfl rfl rfl) ?_
 rintro w376 ⟨hC,hF⟩
 refine ln (hK365 _ _ ?_)
 refine Wc.fresh fun E377 hE=>?_
 have e0:=cg hE 0 e0
 have e2:=cg hE 2 e2
 have e3:=cg hE 3 e3
 have e4:=cg hE 4 e4
 have e5:=cg hE 5 e5
 have e6:=cg hE 6 e6
 have e7:=cg hE 7 e7
 have e8:=cg hE 8 e8
 have e9:=cg hE 9 e9
 have e10:=cg hE 10 e10
 have e11:=cg hE 11 e11
 have e13:=cg hE 13 e13
 have e14:=cg hE 14 e14
 have e15:=cg hE 15 e15
 have e16:=cg hE 16 e16
 have e27:=cg hE 27 e27
 have e37:=cg hE 37 e37
 have e76:=cg hE 76 e76
 have e86:=cg hE 86 e86
 have e120:=cg hE 120 e120
 clear hE
 refine rg<|lp _ (pu_move e5)<|lp _ (pu_move e11)<|lp _ (pu_move e4) ?_
 obtain ⟨z378,h379,hb⟩:=bd hb
 refine lp (iv z378) (pu_mulc (a:=x74) (b:=(y7.length:Int)) rfl rfl h379)<|lp _ (pu_move e8) ?_
 obtain ⟨z380,h381,hb⟩:=bd hb
 refine lp (iv z380) (pu_addc (a:=z378) (b:=f) rfl rfl h381)<|lp (.pointer (some ((⟨g30,0,none⟩:Addr).add 1))) (pu_field (sz:=1) underlying39 rfl sizeOf30 (by decide) rfl e6)<|lv (.slice A359 ((c++([p]:List Int)).length) c360) (ld_fld (hC.bx (i:=5) rfl) isAgg30 rfl rfl)<|lp (iv ((c++([p]:List Int)).length:Int)) (pu_len (A:=A359) (n:=(c++([p]:List Int)).length) (m:=c360) underlying30 rfl) ?_
 obtain ⟨x382,h383,hb⟩:=bd hb
 obtain ⟨ad384,cs385,hA,hc386,hr387⟩:=hC.elo (i:=4) rfl (get_some h383).2
 obtain rfl:=Option.some.inj hA
 refine lp (.pointer (some (ad236.add (z380.toNat*1)))) (pu_index (a:=z380) underlying30 sizeOf3 rfl rfl (by rw [(hC.ow (i:=4) rfl).sl_len.1]; exact (get_some h383).1))<|lex.sk (hC.put (i:=4) rfl rfl sizeOf3 (k:=z380.toNat) (a:=((c++([p]:List Int)).length:Int)) (by have:=(get_some h383).1; simp at this⊢; omega) (⟨rfl,I64.wr (I64.len hl361 hc362)⟩) rfl rfl rfl) ?_
 rintro w388 ⟨hC,hF⟩
 refine ln ?_
 exact hK228 _ _ ⟨(decide (x234=0)),((D.set z368.toNat ((c++([p]:List Int)).length:Int)).set z380.toNat ((c++([p]:List Int)).length:Int)),(c++([p]:List Int)),A359,(c++([p]:List Int)).length,c360,e0,e2,e3,e4,e5,e6,e7,e8,e9,e10,e11,e13,e27,e37,e76,hC.sE [1,2,3,4,5,6,7,8,9],hb⟩
 refine mixPE_chain ?_
 refine mixE.op hM (hC.alloc (cs:=[iv 0,iv 0,iv 0,iv 0,iv 0,iv 0,iv 0,iv 0]) zeroValue82 rfl) ?_
 rintro _ w390 ⟨g389,rfl,hC,hF,hG⟩
 have hUf391:g389<w243.heap.size→g389∈blocks (([]:List Fact)++([]:List Fact)):=fun h=>absurd (Nat.lt_of_lt_of_le h (Nat.le_trans hM.size hG)) (Nat.lt_irrefl _)
 clear hG
 replace hM:=hM.none hF
 replace hD:=hM.wide (H:=([]:List Fact))
 refine ⟨hM,?_⟩
 refine mixE.nil ?_
 refine mixPE_chain ?_
 refine mixE.op hM (hC.alloc (cs:=[iv 0,iv 0,iv 0,iv 0,iv 0,iv 0,iv 0,iv 0]) zeroValue82 rfl) ?_
 rintro _ w393 ⟨g392,rfl,hC,hF,hG⟩
 have hUf394:g392<w243.heap.size→g392∈blocks (([]:List Fact)++([]:List Fact)):=fun h=>absurd (Nat.lt_of_lt_of_le h (Nat.le_trans hM.size hG)) (Nat.lt_irrefl _)
 clear hG
 replace hM:=hM.none hF
 replace hD:=hM.wide (H:=([]:List Fact))
 refine ⟨hM,?_⟩
 refine mixE.sk hD (hC.seta (i:=0) (ds:=[iv x244.1,iv x244.2.1,iv x244.2.2.1.1,iv x244.2.2.1.2.1,iv x244.2.2.1.2.2,iv x244.2.2.2.1,iv x244.2.2.2.2.1,iv x244.2.2.2.2.2]) rfl type82 rfl rfl rfl rfl rfl) ?_
 rintro w395 ⟨hC,hF⟩
 replace hD:=hD.besideG hUf394 hF
 clear hF
 refine ⟨hD,?_⟩
 refine mixE.sk hD (hC.seta (i:=1) (ds:=[iv x279.1,iv x279.2.1,iv x279.2.2.1.1,iv x279.2.2.1.2.1,iv x279.2.2.1.2.2,iv x279.2.2.2.1,iv x279.2.2.2.2.1,iv x279.2.2.2.2.2]) rfl type82 rfl rfl rfl rfl rfl) ?_
 rintro w396 ⟨hC,hF⟩
 replace hD:=hD.besideG hUf391 hF
 clear hF
 refine ⟨hD,?_⟩
 refine mixE.nil ?_
 clear hS hM
 clear hD
 refine hK241 _ _<|Wc.fresh fun E397 hE=>?_
 have e0:=cg hE 0 e0
 have e2:=cg hE 2 e2
 have e3:=cg hE 3 e3
 have e4:=cg hE 4 e4
 have e5:=cg hE 5 e5
 have e6:=cg hE 6 e6
 have e7:=cg hE 7 e7
 have e8:=cg hE 8 e8
 have e9:=cg hE 9 e9
 have e10:=cg hE 10 e10
 have e11:=cg hE 11 e11
 have e13:=cg hE 13 e13
 have e14:E397 14=pg g392:=cg hE 14 rfl
 have e15:E397 15=pg g389:=cg hE 15 rfl
 have e27:=cg hE 27 e27
 have e37:=cg hE 37 e37
 have e76:E397 76=.bool (decide (x234=0)):=cg hE 76 rfl
 clear hE
 refine Wc.seqJ (fun E wv=> ∃(d1:Bool) (c3:Int) (c4:Int) (a3:Int) (a4:Int) (c5:Int) (a5:Int) (a6:Int) (c6:Int) (c7:Int) (c8:Int) (a7:Int) (a8:Int) (c9:Int) (a9:Int) (b0:Int) (d0:Int),E 0=.slice P N.length Q∧E 2=pg g3∧E 3=.slice (some ad85) y7.length c11∧E 4=iv (y7.length:Int)∧E 5=.slice (some ad236) (((rZ z18)).length) c23∧E 6=pg g30∧E 7=.slice G B.length J∧E 8=iv f∧E 9=.slice (some ad76) y51.length c55∧E 10=iv C∧E 11=iv x74∧E 13=.bool y223.2∧E 14=pg g392∧E 15=pg g389∧E 27=.bool (decide (f<(y7.length:Int)))∧E 37=.bool (decide (C<(y51.length:Int)))∧E 76=.bool (decide (x234=0))∧E 86=.bool d1∧I64 c3∧I64 c4∧I64 a3∧I64 a4∧I64 c5∧I64 a5∧I64 a6∧I64 c6∧I64 c7∧I64 c8∧I64 a7∧I64 a8∧I64 c9∧I64 a9∧I64 b0∧I64 d0∧Cx (fun _=>False) O0 w wv [.ro (.sl (.sl (.pr si (.pr si si)))) [.slice P N.length Q] N,.box g3 39 [.slice none 0 0,.slice none 0 0,iv 0],.own 82 (.pr si (.pr si (.pr (.pr si (.pr si si)) (.pr si (.pr si si))))) (.slice (some ad85) y7.length c11) y7,.own 3 si (.slice (some ad236) (((rZ z18)).length) c23) D,.box g30 39 [.slice g d.length l,.slice x c.length y,iv z],.own 87 (.sl (.pr si .bool)) (.slice g d.length l) d,.own 3 si (.slice x c.length y) c,.own 89 (.pr si .bool) (.slice G B.length J) B,.own 3 si (.slice (some ad76) y51.length c55) y51,.box g392 82 [iv c3,iv c4,iv a3,iv a4,iv c5,iv a5,iv a6,iv c6],.box g389 82 [iv c7,iv c8,iv a7,iv a8,iv c9,iv a9,iv b0,iv d0]]∧F.ref46_Project_j3 n y7 f B C D c x74 y223 x234 d1 c3 c4 a3 a4 c5 a5 a6 c6 c7 c8 a7 a8 c9 a9 b0 d0=some o68) (fun _ hK398=>?_) ?_
 refine Wc.seq fun _ hK399=>rg<|lp _ (pu_move e13)<|lp (.bool (!y223.2)) (pu_not (q:=y223.2) rfl)<|ln (hK399 _ _ ?_)
 refine Wc.cond (t:=(!y223.2)) (rfl) (fun hq400=>?_) (fun hq400=>?_)
 replace hb:=tt hq400 hb
 refine rg<|lv (.agg #[iv x279.1,iv x279.2.1,iv x279.2.2.1.1,iv x279.2.2.1.2.1,iv x279.2.2.1.2.2,iv x279.2.2.2.1,iv x279.2.2.2.2.1,iv x279.2.2.2.2.2]) (ld_blk (hC.bx (i:=1) rfl) isAgg82 sizeOf82 e15)<|lv (.agg #[iv x244.1,iv x244.2.1,iv x244.2.2.1.1,iv x244.2.2.1.2.1,iv x244.2.2.1.2.2,iv x244.2.2.2.1,iv x244.2.2.2.2.1,iv x244.2.2.2.2.2]) (ld_blk (hC.bx (i:=0) rfl) isAgg82 sizeOf82 e14)<|lex.sk (hC.seta (i:=0) (ds:=[iv x279.1,iv x279.2.1,iv x279.2.2.1.1,iv x279.2.2.1.2.1,iv x279.2.2.1.2.2,iv x279.2.2.2.1,iv x279.2.2.2.2.1,iv x279.2.2.2.2.2]) rfl type82 rfl rfl rfl e14 rfl) ?_
 rintro w401 ⟨hC,hF⟩
 refine lex.sk (hC.seta (i:=1) (ds:=[iv x244.1,iv x244.2.1,iv x244.2.2.1.1,iv x244.2.2.1.2.1,iv x244.2.2.1.2.2,iv x244.2.2.2.1,iv x244.2.2.2.2.1,iv x244.2.2.2.2.2]) rfl type82 rfl rfl rfl e15 rfl) ?_
 rintro w402 ⟨hC,hF⟩
 refine ln ?_
 exact hK398 _ _ ⟨(!y223.2),x279.1,x279.2.1,x279.2.2.1.1,x279.2.2.1.2.1,x279.2.2.1.2.2,x279.2.2.2.1,x279.2.2.2.2.1,x279.2.2.2.2.2,x244.1,x244.2.1,x244.2.2.1.1,x244.2.2.1.2.1,x244.2.2.1.2.2,x244.2.2.2.1,x244.2.2.2.2.1,x244.2.2.2.2.2,e0,e2,e3,e4,e5,e6,e7,e8,e9,e10,e11,e13,e14,e15,e27,e37,e76,rfl,(wrap_I64 hr288),(wrap_I64 hr292),(wrap_I64 hr300),(wrap_I64 hr304),(wrap_I64 hr305),(wrap_I64 hr308),(wrap_I64 hr312),(wrap_I64 hr313),(wrap_I64 hr253),(wrap_I64 hr257),(wrap_I64 hr265),(wrap_I64 hr269),(wrap_I64 hr270),(wrap_I64 hr273),(wrap_I64 hr277),(wrap_I64 hr278),hC.sE [2,3,4,5,6,7,8,9,10,0,1],hb⟩
 replace hb:=tf hq400 hb
 refine Wc.skip ?_
 exact hK398 _ _ ⟨(!y223.2),x244.1,x244.2.1,x244.2.2.1.1,x244.2.2.1.2.1,x244.2.2.1.2.2,x244.2.2.2.1,x244.2.2.2.2.1,x244.2.2.2.2.2,x279.1,x279.2.1,x279.2.2.1.1,x279.2.2.1.2.1,x279.2.2.1.2.2,x279.2.2.2.1,x279.2.2.2.2.1,x279.2.2.2.2.2,e0,e2,e3,e4,e5,e6,e7,e8,e9,e10,e11,e13,e14,e15,e27,e37,e76,rfl,(wrap_I64 hr253),(wrap_I64 hr257),(wrap_I64 hr265),(wrap_I64 hr269),(wrap_I64 hr270),(wrap_I64 hr273),(wrap_I64 hr277),(wrap_I64 hr278),(wrap_I64 hr288),(wrap_I64 hr292),(wrap_I64 hr300),(wrap_I64 hr304),(wrap_I64 hr305),(wrap_I64 hr308),(wrap_I64 hr312),(wrap_I64 hr313),hC.sE [2,3,4,5,6,7,8,9,10,0,1],hb⟩
 clear hb hC
 rintro E404 w403 ⟨d1,c3,c4,a3,a4,c5,a5,a6,c6,c7,c8,a7,a8,c9,a9,b0,d0,e0,e2,e3,e4,e5,e6,e7,e8,e9,e10,e11,e13,e14,e15,e27,e37,e76,e86,i5,i6,i7,i8,i9,j0,j1,j2,j3,j4,j5,j6,j7,j8,j9,k0,hC,hb⟩
 unfold F.ref46_Project_j3 at hb
 refine Wc.seq fun _ hK405=>rg<|lp (iv 1) (pu_assign rfl)<|ln (hK405 _ _ ?_)
 refine Wc.seqJ (fun E wv=> ∃(p:Int) (d3:Bool),E 0=.slice P N.length Q∧E 2=pg g3∧E 3=.slice (some ad85) y7.length c11∧E 4=iv (y7.length:Int)∧E 5=.slice (some ad236) (((rZ z18)).length) c23∧E 6=pg g30∧E 7=.slice G B.length J∧E 8=iv f∧E 9=.slice (some ad76) y51.length c55∧E 10=iv C∧E 11=iv x74∧E 13=.bool y223.2∧E 14=pg g392∧E 15=pg g389∧E 16=iv p∧E 27=.bool (decide (f<(y7.length:Int)))∧E 37=.bool (decide (C<(y51.length:Int)))∧E 76=.bool (decide (x234=0))∧E 86=.bool d1∧E 120=.bool d3∧I64 p∧Cx (fun _=>False) O0 w wv [.ro (.sl (.sl (.pr si (.pr si si)))) [.slice P N.length Q] N,.box g3 39 [.slice none 0 0,.slice none 0 0,iv 0],.own 82 (.pr si (.pr si (.pr (.pr si (.pr si si)) (.pr si (.pr si si))))) (.slice (some ad85) y7.length c11) y7,.own 3 si (.slice (some ad236) (((rZ z18)).length) c23) D,.box g30 39 [.slice g d.length l,.slice x c.length y,iv z],.own 87 (.sl (.pr si .bool)) (.slice g d.length l) d,.own 3 si (.slice x c.length y) c,.own 89 (.pr si .bool) (.slice G B.length J) B,.own 3 si (.slice (some ad76) y51.length c55) y51,.box g392 82 [iv c3,iv c4,iv a3,iv a4,iv c5,iv a5,iv a6,iv c6],.box g389 82 [iv c7,iv c8,iv a7,iv a8,iv c9,iv a9,iv b0,iv d0]]∧F.ref46_Project_j4 n y7 f B C D c x74 y223 x234 p d3=some o68) (fun _ hK406=>?_) ?_
 refine Wc.seq fun _ hK407=>rg<|lp (.pointer (some ((⟨g392,0,none⟩:Addr).add 5))) (pu_field (sz:=3) underlying82 rfl sizeOf23 (by decide) rfl e14)<|lp (.pointer (some ((⟨g392,0,none⟩:Addr).add 5))) (pu_field (A:=((⟨g392,0,none⟩:Addr).add 5)) (off:=0) (sz:=1) underlying23 rfl sizeOf3 (by decide) rfl rfl)<|lv (iv a5) (ld_fld (hC.bx (i:=9) rfl) isAgg3 rfl rfl)<|lp (.pointer (some ((⟨g392,0,none⟩:Addr).add 2))) (pu_field (sz:=3) underlying82 rfl sizeOf23 (by decide) rfl e14)<|lp (.pointer (some ((⟨g392,0,none⟩:Addr).add 2))) (pu_field (A:=((⟨g392,0,none⟩:Addr).add 2)) (off:=0) (sz:=1) underlying23 rfl sizeOf3 (by decide) rfl rfl)<|lv (iv a3) (ld_fld (hC.bx (i:=9) rfl) isAgg3 rfl rfl) ?_
 obtain ⟨z408,h409,hb⟩:=bd hb
 refine lp (iv z408) (pu_subc (a:=a5) (b:=a3) rfl rfl h409)<|lp (.pointer (some ((⟨g389,0,none⟩:Addr).add 5))) (pu_field (sz:=3) underlying82 rfl sizeOf23 (by decide) rfl e15)<|lp (.pointer (some ((⟨g389,0,none⟩:Addr).add 6))) (pu_field (A:=((⟨g389,0,none⟩:Addr).add 5)) (off:=1) (sz:=1) underlying23 rfl sizeOf3 (by decide) rfl rfl)<|lv (iv b0) (ld_fld (hC.bx (i:=10) rfl) isAgg3 rfl rfl)<|lp (.pointer (some ((⟨g389,0,none⟩:Addr).add 2))) (pu_field (sz:=3) underlying82 rfl sizeOf23 (by decide) rfl e15)<|lp (.pointer (some ((⟨g389,0,none⟩:Addr).add 3))) (pu_field (A:=((⟨g389,0,none⟩:Addr).add 2)) (off:=1) (sz:=1) underlying23 rfl sizeOf3 (by decide) rfl rfl)<|lv (iv a8) (ld_fld (hC.bx (i:=10) rfl) isAgg3 rfl rfl) ?_
 obtain ⟨z410,h411,hb⟩:=bd hb
 refine lp (iv z410) (pu_subc (a:=b0) (b:=a8) rfl rfl h411) ?_
 obtain ⟨z412,h413,hb⟩:=bd hb
 refine lp (iv z412) (pu_mulc (a:=z408) (b:=z410) rfl rfl h413)<|lp (.pointer (some ((⟨g392,0,none⟩:Addr).add 5))) (pu_field (sz:=3) underlying82 rfl sizeOf23 (by decide) rfl e14)<|lp (.pointer (some ((⟨g392,0,none⟩:Addr).add 6))) (pu_field (A:=((⟨g392,0,none⟩:Addr).add 5)) (off:=1) (sz:=1) underlying23 rfl sizeOf3 (by decide) rfl rfl)<|lv (iv a6) (ld_fld (hC.bx (i:=9) rfl) isAgg3 rfl rfl)<|lp (.pointer (some ((⟨g392,0,none⟩:Addr).add 2))) (pu_field (sz:=3) underlying82 rfl sizeOf23 (by decide) rfl e14)<|lp (.pointer (some ((⟨g392,0,none⟩:Addr).add 3))) (pu_field (A:=((⟨g392,0,none⟩:Addr).add 2)) (off:=1) (sz:=1) underlying23 rfl sizeOf3 (by decide) rfl rfl)<|lv (iv a4) (ld_fld (hC.bx (i:=9) rfl) isAgg3 rfl rfl) ?_
 obtain ⟨z414,h415,hb⟩:=bd hb
 refine lp (iv z414) (pu_subc (a:=a6) (b:=a4) rfl rfl h415)<|lp (.pointer (some ((⟨g389,0,none⟩:Addr).add 5))) (pu_field (sz:=3) underlying82 rfl sizeOf23 (by decide) rfl e15)<|lp (.pointer (some ((⟨g389,0,none⟩:Addr).add 5))) (pu_field (A:=((⟨g389,0,none⟩:Addr).add 5)) (off:=0) (sz:=1) underlying23 rfl sizeOf3 (by decide) rfl rfl)<|lv (iv a9) (ld_fld (hC.bx (i:=10) rfl) isAgg3 rfl rfl)<|lp (.pointer (some ((⟨g389,0,none⟩:Addr).add 2))) (pu_field (sz:=3) underlying82 rfl sizeOf23 (by decide) rfl e15)<|lp (.pointer (some ((⟨g389,0,none⟩:Addr).add 2))) (pu_field (A:=((⟨g389,0,none⟩:Addr).add 2)) (off:=0) (sz:=1) underlying23 rfl sizeOf3 (by decide) rfl rfl)<|lv (iv a7) (ld_fld (hC.bx (i:=10) rfl) isAgg3 rfl rfl) ?_
 obtain ⟨z416,h417,hb⟩:=bd hb
 refine lp (iv z416) (pu_subc (a:=a9) (b:=a7) rfl rfl h417) ?_
 obtain ⟨z418,h419,hb⟩:=bd hb
 refine lp (iv z418) (pu_mulc (a:=z414) (b:=z416) rfl rfl h419) ?_
 obtain ⟨z420,h421,hb⟩:=bd hb
 refine lp (iv z420) (pu_subc (a:=z412) (b:=z418) rfl rfl h421)<|lp (.bool (decide (z420<0))) (pu_lss (k:=.i64) (a:=z420) (b:=0) rfl rfl)<|ln (hK407 _ _ ?_)
 refine Wc.cond (t:=(decide (z420<0))) (rfl) (fun hq422=>?_) (fun hq422=>?_)
 replace hb:=tt hq422 hb
 refine rg<|lp (iv (-1)) (pu_assign rfl)<|ln ?_
 exact hK406 _ _ ⟨(-1),(decide (z420<0)),e0,e2,e3,e4,e5,e6,e7,e8,e9,e10,e11,e13,e14,e15,rfl,e27,e37,e76,e86,rfl,(show I64 (-1) from by unfold I64; omega),hC.sE [0,1,2,3,4,5,6,7,8,9,10],hb⟩
 replace hb:=tf hq422 hb
 refine Wc.skip ?_
 exact hK406 _ _ ⟨1,(decide (z420<0)),e0,e2,e3,e4,e5,e6,e7,e8,e9,e10,e11,e13,e14,e15,rfl,e27,e37,e76,e86,rfl,(show I64 1 from by unfold I64; omega),hC.sE [0,1,2,3,4,5,6,7,8,9,10],hb⟩
 clear hb hC
 rintro E424 w423 ⟨p,d3,e0,e2,e3,e4,e5,e6,e7,e8,e9,e10,e11,e13,e14,e15,e16,e27,e37,e76,e86,e120,f3,hC,hb⟩
 unfold F.ref46_Project_j4 at hb
 refine Wc.seq fun _ hK425=>rg<|lp (.pointer (some ((⟨g30,0,none⟩:Addr).add 1))) (pu_field (sz:=1) underlying39 rfl sizeOf30 (by decide) rfl e6)<|lv (.slice x c.length y) (ld_fld (hC.bx (i:=4) rfl) isAgg30 rfl rfl)<|lp _ (pu_move e16)<|lex.op (hC.lit (s:=si) (vs:=[iv p]) (xs:=[p]) underlying30 type3 rfl rfl (nb rfl) rfl rfl (by simp [Value.cells,Sh.n]) rfl (show Elems _ _ si ([iv p]++([])) ([p]:List Int) from Elems.cons (⟨rfl,I64.wr f3⟩) (Elems.nil _ _ _))) ?_
 rintro _ w430 ⟨A426,c427,rfl,hl428,hc429,hC,-,-⟩
 obtain ⟨u432,h433,hb⟩:=bd hb
 refine lex.op (hC.app (i:=7) (s:=si) (xs:=c) (ys:=([p]:List Int)) (m:=((([p]:List Int)).length)) rfl underlying30 underlying30 type3 rfl rfl rfl (hC.srco (i:=0) rfl) rfl rfl (by have:=lim_some h433; simp at this⊢ <;>omega) (by decide)) ?_
 rintro _ w438 ⟨A434,c435,rfl,hl436,hc437,hC,-,-⟩
 refine lp (.pointer (some ((⟨g30,0,none⟩:Addr).add 1))) (pu_field (sz:=1) underlying39 rfl sizeOf30 (by decide) rfl e6)<|lex.sk (hC.setf (i:=5) (k:=1) (v:=.slice A434 ((c++([p]:List Int)).length) c435) rfl sizeOf30 rfl rfl rfl rfl) ?_
 rintro w439 ⟨hC,hF⟩
 refine ln (hK425 _ _ ?_)
 refine Wc.seq fun _ hK440=>rg<|lp _ (pu_move e5)<|lp _ (pu_move e8)<|lp _ (pu_move e4) ?_
 obtain ⟨z441,h442,hb⟩:=bd hb
 refine lp (iv z441) (pu_mulc (a:=f) (b:=(y7.length:Int)) rfl rfl h442)<|lp _ (pu_move e11) ?_
 obtain ⟨z443,h444,hb⟩:=bd hb
 refine lp (iv z443) (pu_addc (a:=z441) (b:=x74) rfl rfl h444)<|lp (.pointer (some ((⟨g30,0,none⟩:Addr).add 1))) (pu_field (sz:=1) underlying39 rfl sizeOf30 (by decide) rfl e6)<|lv (.slice A434 ((c++([p]:List Int)).length) c435) (ld_fld (hC.bx (i:=5) rfl) isAgg30 rfl rfl)<|lp (iv ((c++([p]:List Int)).length:Int)) (pu_len (A:=A434) (n:=(c++([p]:List Int)).length) (m:=c435) underlying30 rfl) ?_
 obtain ⟨x445,h446,hb⟩:=bd hb
 obtain ⟨ad447,cs448,hA,hc449,hr450⟩:=hC.elo (i:=4) rfl (get_some h446).2
 obtain rfl:=Option.some.inj hA
 refine lp (.pointer (some (ad236.add (z443.toNat*1)))) (pu_index (a:=z443) underlying30 sizeOf3 rfl rfl (by rw [(hC.ow (i:=4) rfl).sl_len.1]; exact (get_some h446).1))<|lex.sk (hC.put (i:=4) rfl rfl sizeOf3 (k:=z443.toNat) (a:=((c++([p]:List Int)).length:Int)) (by have:=(get_some h446).1; simp at this⊢; omega) (⟨rfl,I64.wr (I64.len hl436 hc437)⟩) rfl rfl rfl) ?_
 rintro w451 ⟨hC,hF⟩
 refine ln (hK440 _ _ ?_)
 refine Wc.fresh fun E452 hE=>?_
 have e0:=cg hE 0 e0
 have e2:=cg hE 2 e2
 have e3:=cg hE 3 e3
 have e4:=cg hE 4 e4
 have e5:=cg hE 5 e5
 have e6:=cg hE 6 e6
 have e7:=cg hE 7 e7
 have e8:=cg hE 8 e8
 have e9:=cg hE 9 e9
 have e10:=cg hE 10 e10
 have e11:=cg hE 11 e11
 have e13:=cg hE 13 e13
 have e14:=cg hE 14 e14
 have e15:=cg hE 15 e15
 have e16:=cg hE 16 e16
 have e27:=cg hE 27 e27
 have e37:=cg hE 37 e37
 have e76:=cg hE 76 e76
 have e86:=cg hE 86 e86
 have e120:=cg hE 120 e120
 clear hE
 refine rg<|lp _ (pu_move e5)<|lp _ (pu_move e11)<|lp _ (pu_move e4) ?_
 obtain ⟨z453,h454,hb⟩:=bd hb
 refine lp (iv z453) (pu_mulc (a:=x74) (b:=(y7.length:Int)) rfl rfl h454)<|lp _ (pu_move e8) ?_
 obtain ⟨z455,h456,hb⟩:=bd hb
 refine lp (iv z455) (pu_addc (a:=z453) (b:=f) rfl rfl h456)<|lp (.pointer (some ((⟨g30,0,none⟩:Addr).add 1))) (pu_field (sz:=1) underlying39 rfl sizeOf30 (by decide) rfl e6)<|lv (.slice A434 ((c++([p]:List Int)).length) c435) (ld_fld (hC.bx (i:=5) rfl) isAgg30 rfl rfl)<|lp (iv ((c++([p]:List Int)).length:Int)) (pu_len (A:=A434) (n:=(c++([p]:List Int)).length) (m:=c435) underlying30 rfl) ?_
 obtain ⟨x457,h458,hb⟩:=bd hb
 obtain ⟨ad459,cs460,hA,hc461,hr462⟩:=hC.elo (i:=4) rfl (get_some h458).2
 obtain rfl:=Option.some.inj hA
 refine lp (.pointer (some (ad236.add (z455.toNat*1)))) (pu_index (a:=z455) underlying30 sizeOf3 rfl rfl (by rw [(hC.ow (i:=4) rfl).sl_len.1]; exact (get_some h458).1))<|lex.sk (hC.put (i:=4) rfl rfl sizeOf3 (k:=z455.toNat) (a:=((c++([p]:List Int)).length:Int)) (by have:=(get_some h458).1; simp at this⊢; omega) (⟨rfl,I64.wr (I64.len hl436 hc437)⟩) rfl rfl rfl) ?_
 rintro w463 ⟨hC,hF⟩
 refine ln ?_
 exact hK228 _ _ ⟨(decide (x234=0)),((D.set z443.toNat ((c++([p]:List Int)).length:Int)).set z455.toNat ((c++([p]:List Int)).length:Int)),(c++([p]:List Int)),A434,(c++([p]:List Int)).length,c435,e0,e2,e3,e4,e5,e6,e7,e8,e9,e10,e11,e13,e27,e37,e76,hC.sE [1,2,3,4,5,6,7,8,9],hb⟩
 replace hb:=tf hq240 hb
 refine Wc.skip ?_
 exact hK228 _ _ ⟨(decide (x234=0)),D,c,x,c.length,y,e0,e2,e3,e4,e5,e6,e7,e8,e9,e10,e11,e13,e27,e37,rfl,hC.sE [0,1,2,3,4,5,6,7,8],hb⟩
 clear hb hC
 rintro E465 w464 ⟨g2,f1,d2,d4,e1,d5,e0,e2,e3,e4,e5,e6,e7,e8,e9,e10,e11,e13,e27,e37,e76,hC,hb⟩
 unfold F.ref46_Project_j2 at hb
 obtain ⟨rfl,k1,k2⟩:=(hC.ow (i:=6) rfl).sl_len
 refine rg<|lp _ (pu_move e7)<|lp _ (pu_move e5)<|lp _ (pu_move e8)<|lp _ (pu_move e4) ?_
 obtain ⟨z466,h467,hb⟩:=bd hb
 refine lp (iv z466) (pu_mulc (a:=f) (b:=(y7.length:Int)) rfl rfl h467)<|lp _ (pu_move e11) ?_
 obtain ⟨z468,h469,hb⟩:=bd hb
 refine lp (iv z468) (pu_addc (a:=z466) (b:=x74) rfl rfl h469) ?_
 obtain ⟨x470,h471,hb⟩:=bd hb
 obtain ⟨ad472,cs473,hA,hc474,hr475⟩:=hC.elo (i:=3) rfl (get_some h471).2
 subst hA
 refine lp (.pointer (some (ad472.add (z468.toNat*1)))) (pu_index (a:=z468) underlying30 sizeOf3 rfl rfl (by rw [(hC.ow (i:=3) rfl).sl_len.1]; exact (get_some h471).1)) ?_
 obtain ⟨rfl,hr475'⟩:=hr475
 refine lv (iv x470) (ld_one isAgg3 rfl (hc474 0 _ rfl)) ?_
 obtain ⟨z476,h477,hb⟩:=bd hb
 refine lp (iv z476) (pu_subc (a:=x470) (b:=1) rfl rfl h477)<|lp _ (pu_move e13)<|lp (.agg #[iv z476,.bool y223.2]) (pu_builds (places:=[(0,1),(1,1)]) (pv:=[(0,iv z476),(1,.bool y223.2)]) type89 underlying89 rfl (mp_cons type3 (mp_cons type4 mp_nil rfl rfl) rfl rfl) rfl (by simp [Instr.fill,Value.cells]))<|lex.op (hC.lit (s:=(.pr si .bool)) (vs:=[.agg #[iv z476,.bool y223.2]]) (xs:=[(z476,y223.2)]) underlying87 type89 rfl rfl (nb rfl) rfl rfl (by simp [Value.cells,Sh.n]) rfl (show Elems _ _ (.pr si .bool) ([iv z476,.bool y223.2]++([])) ([(z476,y223.2)]:List (Int×Bool)) from Elems.cons (⟨[iv z476],[.bool y223.2],rfl,⟨rfl,I64.wr (chk_rng h477)⟩,show Rep _ _ .bool _ _ from rfl⟩) (Elems.nil _ _ _))) ?_
 rintro _ w482 ⟨A478,c479,rfl,hl480,hc481,hC,-,-⟩
 obtain ⟨u484,h485,hb⟩:=bd hb
 refine lex.op (hC.app (i:=8) (s:=(.pr si .bool)) (xs:=B) (ys:=([(z476,y223.2)]:List (Int×Bool))) (m:=((([(z476,y223.2)]:List (Int×Bool))).length)) rfl underlying87 underlying87 type89 rfl rfl rfl (hC.srco (i:=0) rfl) rfl rfl (by have:=lim_some h485; simp at this⊢ <;>omega) (by decide)) ?_
 rintro _ w490 ⟨A486,c487,rfl,hl488,hc489,hC,-,-⟩
 refine lp (.slice A486 ((B++([(z476,y223.2)]:List (Int×Bool))).length) c487) (pu_assign rfl)<|ln (hK72 _ _ ?_)
 refine rg<|lp _ (pu_move e10) ?_
 obtain ⟨z491,h492,hb⟩:=bd hb
 refine lp (iv z491) (pu_addc (a:=C) (b:=1) rfl rfl h492)<|lp (iv z491) (pu_assign rfl)<|ln ?_
 obtain rfl:=os hb
 exact hK64 m65' _ _ (Nat.lt_succ_self _) ⟨(B++([(z476,y223.2)]:List (Int×Bool))),z491,f1,d2,A486,(B++([(z476,y223.2)]:List (Int×Bool))).length,c487,d4,d2.length,d5,e0,e2,e3,e4,e5,e6,rfl,e8,e9,rfl,e27,(chk_rng h492),hC.sE [1,2,3,4,5,6,7,8,9],lN hl1⟩
 replace hb:=tf hq71 hb
 refine Wc.exit rfl ?_
 obtain rfl:=os hb
 obtain rfl:=(lX hl1).symm
 exact hK63 _ _ ⟨B,C,D,c,G,B.length,J,x,c.length,y,e0,e2,e3,e4,e5,e6,e7,e8,e9,e10,e27,f5,hC.sE [0,1,2,3,4,5,6,7,8],hbK1⟩
 clear hb hC hl1
 rintro E494 w493 ⟨B,C,D,c,G,d9,J,x,T,y,e0,e2,e3,e4,e5,e6,e7,e8,e9,e10,e27,f5,hC,hb⟩
 obtain ⟨rfl,g6,g7⟩:=(hC.ow (i:=7) rfl).sl_len
 obtain ⟨rfl,g0,g1⟩:=(hC.ow (i:=6) rfl).sl_len
 refine hK60 _ _ ?_
 refine Wc.seqJ (fun E wv=> ∃(f2:Bool),E 0=.slice P N.length Q∧E 2=pg g3∧E 3=.slice A9 y7.length c11∧E 4=iv (y7.length:Int)∧E 5=.slice A22 (((rZ z18)).length) c23∧E 6=pg g30∧E 7=.slice G B.length J∧E 8=iv f∧E 9=.slice A53 y51.length c55∧E 10=iv C∧E 27=.bool (decide (f<(y7.length:Int)))∧E 178=.bool f2∧Cx (fun _=>False) O0 w wv [.ro (.sl (.sl (.pr si (.pr si si)))) [.slice P N.length Q] N,.box g3 39 [.slice none 0 0,.slice none 0 0,iv 0],.own 82 (.pr si (.pr si (.pr (.pr si (.pr si si)) (.pr si (.pr si si))))) (.slice A9 y7.length c11) y7,.own 3 si (.slice A22 (((rZ z18)).length) c23) D,.box g30 39 [.slice g d.length l,.slice x c.length y,iv z],.own 87 (.sl (.pr si .bool)) (.slice g d.length l) d,.own 3 si (.slice x c.length y) c,.own 89 (.pr si .bool) (.slice G B.length J) B,.own 3 si (.slice A53 y51.length c55) y51]∧F.ref46_Project_j5 n f d z B D c f2=some o45) (fun _ hK495=>?_) ?_
 refine Wc.regionMix [] (frm [] ([]:List Fact) ([]:List Fact)) (fun _=>rfl) mixed (by decide+kernel) (by decide+kernel) fun w497 hw496=>?_
 replace hC:=hC.step (Fr.of_drew hw496)
 have hM:=Fr.refl (fun k=>k∈blocks ([]:List Fact)) w497
 clear hw496
 have hS:=hC
 refine mp (iv f) (pu_move e8) ?_
 obtain ⟨z498,h499,hb⟩:=bd hb
 refine mp (iv z498) (pu_addc (a:=f) (b:=1) rfl rfl h499)<|mp (iv (y7.length:Int)) (pu_move e4)<|mp (.bool (decide (z498=(y7.length:Int)))) (pu_eql (k:=.i64) (a:=z498) (b:=(y7.length:Int)) rfl rfl)<|mp (.bool (decide (z498=(y7.length:Int)))) (pu_move rfl) ?_
 rcases bS (decide (z498=(y7.length:Int))) with hq500 | hq500
 replace hb:=tt hq500 hb
 refine mixE.gskip (want_f rfl rfl (show _=Value.bool (decide (z498=(y7.length:Int))) from rfl) hq500)<|mixE.gskip (want_f rfl rfl (show _=Value.bool (decide (z498=(y7.length:Int))) from rfl) hq500)<|mixE.gskip (want_f rfl rfl (show _=Value.bool (decide (z498=(y7.length:Int))) from rfl) hq500)<|mixE.gskip (want_f rfl rfl (show _=Value.bool (decide (z498=(y7.length:Int))) from rfl) hq500)<|mixE.gskip (want_f rfl rfl (show _=Value.bool (decide (z498=(y7.length:Int))) from rfl) hq500)<|mixE.gskip (want_f rfl rfl (show _=Value.bool (decide (z498=(y7.length:Int))) from rfl) hq500)<|mixE.gskip (want_f rfl rfl (show _=Value.bool (decide (z498=(y7.length:Int))) from rfl) hq500)<|mixE.gskip (want_f rfl rfl (show _=Value.bool (decide (z498=(y7.length:Int))) from rfl) hq500)<|mixE.gskip (want_f rfl rfl (show _=Value.bool (decide (z498=(y7.length:Int))) from rfl) hq500)<|mixE.gskip (want_f rfl rfl (show _=Value.bool (decide (z498=(y7.length:Int))) from rfl) hq500)<|mixE.gskip (want_f rfl rfl (show _=Value.bool (decide (z498=(y7.length:Int))) from rfl) hq500)<|mixE.gskip (want_f rfl rfl (show _=Value.bool (decide (z498=(y7.length:Int))) from rfl) hq500)<|mp (.bool true) (pu_pickT (q:=(decide (z498=(y7.length:Int)))) rfl hq500 rfl)<|mixE.nil ?_
 clear hS hM
 exact hK495 _ _ ⟨true,e0,e2,e3,e4,e5,e6,e7,e8,e9,e10,e27,rfl,hC.sE [0,1,2,3,4,5,6,7,8],hb⟩
 replace hb:=tf hq500 hb
 refine mixE.gpure rfl (want_t rfl rfl (show _=Value.bool (decide (z498=(y7.length:Int))) from rfl) hq500) (v:=.slice A9 y7.length c11) (pu_move e3)<|mixE.gpure rfl (want_t rfl rfl (show _=Value.bool (decide (z498=(y7.length:Int))) from rfl) hq500) (v:=iv f) (pu_move e8) ?_
 obtain ⟨z501,h502,hb⟩:=bd hb
 refine mixE.gpure rfl (want_t rfl rfl (show _=Value.bool (decide (z498=(y7.length:Int))) from rfl) hq500) (v:=iv z501) (pu_addc (a:=f) (b:=1) rfl rfl h502) ?_
 obtain ⟨x503,h504,hb⟩:=bd hb
 obtain ⟨ad505,cs506,hA,ho509,hc507,hr508⟩:=hS.elo2 (i:=2) rfl (get_some h504).2 [] (by decide)
 subst hA
 refine mixE.gpure rfl (want_t rfl rfl (show _=Value.bool (decide (z498=(y7.length:Int))) from rfl) hq500) (v:=.pointer (some (ad505.add (z501.toNat*8)))) (pu_index (a:=z501) underlying79 sizeOf82 rfl rfl (get_some h504).1) ?_
 obtain ⟨k510,k511,rfl,hr512,hr513⟩:=hr508
 obtain ⟨rfl,hr512⟩:=hr512
 obtain ⟨k514,k515,rfl,hr516,hr517⟩:=hr513
 obtain ⟨rfl,hr516⟩:=hr516
 obtain ⟨k518,k519,rfl,hr520,hr521⟩:=hr517
 obtain ⟨k522,k523,rfl,hr524,hr525⟩:=hr520
 obtain ⟨rfl,hr524⟩:=hr524
 obtain ⟨k526,k527,rfl,hr528,hr529⟩:=hr525
 obtain ⟨rfl,hr528⟩:=hr528
 obtain ⟨rfl,hr529⟩:=hr529
 obtain ⟨k530,k531,rfl,hr532,hr533⟩:=hr521
 obtain ⟨rfl,hr532⟩:=hr532
 obtain ⟨k534,k535,rfl,hr536,hr537⟩:=hr533
 obtain ⟨rfl,hr536⟩:=hr536
 obtain ⟨rfl,hr537⟩:=hr537
 refine mixE.gpure rfl (want_t rfl rfl (show _=Value.bool (decide (z498=(y7.length:Int))) from rfl) hq500) (v:=.pointer (some ((ad505.add (z501.toNat*8)).add 0))) (pu_field (A:=(ad505.add (z501.toNat*8))) (off:=0) (sz:=1) underlying82 rfl sizeOf3 (by decide) rfl rfl)<|mixE.gload rfl (want_t rfl rfl (show _=Value.bool (decide (z498=(y7.length:Int))) from rfl) hq500) hM (v:=iv x503.1) (fun _ hF=>ld_one isAgg3 rfl (hF.cell (hc507 0 _ rfl) (off2 ho509)))<|mixE.gpure rfl (want_t rfl rfl (show _=Value.bool (decide (z498=(y7.length:Int))) from rfl) hq500) (v:=.slice (some ad505) y7.length c11) (pu_move e3)<|mixE.gpure rfl (want_t rfl rfl (show _=Value.bool (decide (z498=(y7.length:Int))) from rfl) hq500) (v:=iv f) (pu_move e8) ?_
 obtain ⟨x538,h539,hb⟩:=bd hb
 obtain ⟨ad540,cs541,hA,ho544,hc542,hr543⟩:=hS.elo2 (i:=2) rfl (get_some h539).2 [] (by decide)
 obtain rfl:=Option.some.inj hA
 refine mixE.gpure rfl (want_t rfl rfl (show _=Value.bool (decide (z498=(y7.length:Int))) from rfl) hq500) (v:=.pointer (some (ad505.add (f.toNat*8)))) (pu_index (a:=f) underlying79 sizeOf82 rfl rfl (get_some h539).1) ?_
 obtain ⟨k545,k546,rfl,hr547,hr548⟩:=hr543
 obtain ⟨rfl,hr547⟩:=hr547
 obtain ⟨k549,k550,rfl,hr551,hr552⟩:=hr548
 obtain ⟨rfl,hr551⟩:=hr551
 obtain ⟨k553,k554,rfl,hr555,hr556⟩:=hr552
 obtain ⟨k557,k558,rfl,hr559,hr560⟩:=hr555
 obtain ⟨rfl,hr559⟩:=hr559
 obtain ⟨k561,k562,rfl,hr563,hr564⟩:=hr560
 obtain ⟨rfl,hr563⟩:=hr563
 obtain ⟨rfl,hr564⟩:=hr564
 obtain ⟨k565,k566,rfl,hr567,hr568⟩:=hr556
 obtain ⟨rfl,hr567⟩:=hr567
 obtain ⟨k569,k570,rfl,hr571,hr572⟩:=hr568
 obtain ⟨rfl,hr571⟩:=hr571
 obtain ⟨rfl,hr572⟩:=hr572
 refine mixE.gpure rfl (want_t rfl rfl (show _=Value.bool (decide (z498=(y7.length:Int))) from rfl) hq500) (v:=.pointer (some ((ad505.add (f.toNat*8)).add 0))) (pu_field (A:=(ad505.add (f.toNat*8))) (off:=0) (sz:=1) underlying82 rfl sizeOf3 (by decide) rfl rfl)<|mixE.gload rfl (want_t rfl rfl (show _=Value.bool (decide (z498=(y7.length:Int))) from rfl) hq500) hM (v:=iv x538.1) (fun _ hF=>ld_one isAgg3 rfl (hF.cell (hc542 0 _ rfl) (off2 ho544)))<|mixE.gpure rfl (want_t rfl rfl (show _=Value.bool (decide (z498=(y7.length:Int))) from rfl) hq500) (v:=.bool (!(decide (x503.1=x538.1)))) (pu_neq (k:=.i64) (a:=x503.1) (b:=x538.1) rfl rfl)<|mp (.bool (!(decide (x503.1=x538.1)))) (pu_pickF (q:=(decide (z498=(y7.length:Int)))) rfl hq500 rfl)<|mixE.nil ?_
 clear hS hM
 exact hK495 _ _ ⟨(!(decide (x503.1=x538.1))),e0,e2,e3,e4,e5,e6,e7,e8,e9,e10,e27,rfl,hC.sE [0,1,2,3,4,5,6,7,8],hb⟩
 clear hb hC
 rintro E574 w573 ⟨f2,e0,e2,e3,e4,e5,e6,e7,e8,e9,e10,e27,e178,hC,hb⟩
 unfold F.ref46_Project_j5 at hb
 refine Wc.cond (t:=f2) (e178) (fun hq575=>?_) (fun hq575=>?_)
 replace hb:=tt hq575 hb
 refine Wc.seq fun _ hK576=>?_
 refine Wc.seq fun _ hK577=>rg<|lp _ (pu_move e7)<|lp (iv (B.length:Int)) (pu_len (A:=G) (n:=B.length) (m:=J) underlying87 rfl)<|lp (.bool (decide (0<(B.length:Int)))) (pu_gtr (k:=.i64) (a:=(B.length:Int)) (b:=0) rfl rfl)<|ln (hK577 _ _ ?_)
 refine Wc.cond (t:=(decide (0<(B.length:Int)))) (rfl) (fun hq578=>?_) (fun hq578=>?_)
 replace hb:=tt hq578 hb
 refine rg<|lp (.pointer (some ((⟨g30,0,none⟩:Addr).add 0))) (pu_field (sz:=1) underlying39 rfl sizeOf37 (by decide) rfl e6)<|lv (.slice g d.length l) (ld_fld (hC.bx (i:=4) rfl) isAgg37 rfl rfl)<|lp _ (pu_move e7) ?_
 replace hC:=hC.freeze (i:=7) rfl (hC.own_new (i:=7) rfl)
 refine lex.op (hC.lit (s:=(.sl (.pr si .bool))) (vs:=[.slice G B.length J]) (xs:=[B]) underlying37 type87 rfl rfl (nb rfl) rfl rfl (by simp [Value.cells,Sh.n]) rfl (show Elems _ _ (.sl (.pr si .bool)) ([.slice G B.length J]++([])) ([B]:List (List (Int×Bool))) from Elems.cons (hC.rd (i:=7) rfl) (Elems.nil _ _ _))) ?_
 rintro _ w583 ⟨A579,c580,rfl,hl581,hc582,hC,-,-⟩
 obtain ⟨u585,h586,hb⟩:=bd hb
 refine lex.op (hC.app (i:=6) (s:=(.sl (.pr si .bool))) (xs:=d) (ys:=([B]:List (List (Int×Bool)))) (m:=((([B]:List (List (Int×Bool)))).length)) rfl underlying37 underlying37 type87 rfl rfl rfl (hC.srco (i:=0) rfl) rfl rfl (by have:=lim_some h586; simp at this⊢ <;>omega) (by decide)) ?_
 rintro _ w591 ⟨A587,c588,rfl,hl589,hc590,hC,-,-⟩
 refine lp (.pointer (some ((⟨g30,0,none⟩:Addr).add 0))) (pu_field (sz:=1) underlying39 rfl sizeOf37 (by decide) rfl e6)<|lex.sk (hC.setf (i:=5) (k:=0) (v:=.slice A587 ((d++([B]:List (List (Int×Bool)))).length) c588) rfl sizeOf37 rfl rfl rfl rfl) ?_
 rintro w592 ⟨hC,hF⟩
 refine ln (hK576 _ _ ?_)
 refine rg<|lp (.slice none 0 0) (pu_assign rfl)<|ln (hK49 _ _ ?_)
 refine rg<|lp _ (pu_move e8) ?_
 obtain ⟨z593,h594,hb⟩:=bd hb
 refine lp (iv z593) (pu_addc (a:=f) (b:=1) rfl rfl h594)<|lp (iv z593) (pu_assign rfl)<|ln ?_
 replace hC:=hC.nil 89 (.pr si .bool)
 obtain rfl:=os hb
 exact hK41 m42' _ _ (Nat.lt_succ_self _) ⟨([]:List (Int×Bool)),z593,D,(d++([B]:List (List (Int×Bool)))),c,z,none,0,0,A587,(d++([B]:List (List (Int×Bool)))).length,c588,x,c.length,y,e0,e2,e3,e4,e5,e6,rfl,rfl,(chk_rng h594),b1,hC.sE [2,3,4,5,6,7,8,0],lN hl0⟩
 replace hb:=tf hq578 hb
 refine rg<|lp (.pointer (some ((⟨g30,0,none⟩:Addr).add 2))) (pu_field (sz:=1) underlying39 rfl sizeOf3 (by decide) rfl e6)<|lv (iv z) (ld_fld (hC.bx (i:=4) rfl) isAgg3 rfl rfl) ?_
 obtain ⟨z596,h597,hb⟩:=bd hb
 refine lp (iv z596) (pu_addc (a:=z) (b:=1) rfl rfl h597)<|lp (.pointer (some ((⟨g30,0,none⟩:Addr).add 2))) (pu_field (sz:=1) underlying39 rfl sizeOf3 (by decide) rfl e6)<|lex.sk (hC.setf (i:=4) (k:=2) (v:=iv z596) rfl sizeOf3 rfl rfl rfl rfl) ?_
 rintro w598 ⟨hC,hF⟩
 refine ln (hK576 _ _ ?_)
 refine rg<|lp (.slice none 0 0) (pu_assign rfl)<|ln (hK49 _ _ ?_)
 refine rg<|lp _ (pu_move e8) ?_
 obtain ⟨z599,h600,hb⟩:=bd hb
 refine lp (iv z599) (pu_addc (a:=f) (b:=1) rfl rfl h600)<|lp (iv z599) (pu_assign rfl)<|ln ?_
 replace hC:=hC.nil 89 (.pr si .bool)
 obtain rfl:=os hb
 exact hK41 m42' _ _ (Nat.lt_succ_self _) ⟨([]:List (Int×Bool)),z599,D,d,c,z596,none,0,0,g,d.length,l,x,c.length,y,e0,e2,e3,e4,e5,e6,rfl,rfl,(chk_rng h600),(chk_rng h597),hC.sE [1,2,3,4,5,6,7,0],lN hl0⟩
 replace hb:=tf hq575 hb
 refine Wc.skip (hK49 _ _ ?_)
 refine rg<|lp _ (pu_move e8) ?_
 obtain ⟨z602,h603,hb⟩:=bd hb
 refine lp (iv z602) (pu_addc (a:=f) (b:=1) rfl rfl h603)<|lp (iv z602) (pu_assign rfl)<|ln ?_
 obtain rfl:=os hb
 exact hK41 m42' _ _ (Nat.lt_succ_self _) ⟨B,z602,D,d,c,z,G,B.length,J,g,d.length,l,x,c.length,y,e0,e2,e3,e4,e5,e6,e7,rfl,(chk_rng h603),b1,hC.sE [0,1,2,3,4,5,6,7],lN hl0⟩
 replace hb:=tf hq48 hb
 refine Wc.exit rfl ?_
 obtain rfl:=os hb
 obtain rfl:=(lX hl0).symm
 exact hK40 _ _ ⟨d6,f,b2,d,K,z,d7,d6.length,d8,g,d.length,l,L,K.length,M,e2,e6,f4,b1,hC.sE [1,4,5,6],hbK0⟩
 clear hb hC hl0
 rintro E605 w604 ⟨d6,f,b2,d,K,z,d7,f0,d8,g,R,l,L,S,M,e2,e6,f4,b1,hC,hb⟩
 subst hf39
 obtain ⟨rfl,f6,f7⟩:=(hC.ow (i:=2) rfl).sl_len
 obtain ⟨rfl,f8,f9⟩:=(hC.ow (i:=3) rfl).sl_len
 refine hK34 _ _<|Wc.seq fun _ hK606=>rg<|lv (.agg #[.slice g d.length l,.slice L K.length M,iv z]) (ld_blk (hC.bx (i:=1) rfl) isAgg39 sizeOf39 e6)<|lex.sk (hC.seta (i:=0) (ds:=[.slice g d.length l,.slice L K.length M,iv z]) rfl type39 rfl rfl rfl e2 rfl) ?_
 rintro w607 ⟨hC,hF⟩
 refine ln (hK606 _ _ ?_)
 obtain rfl:=os hb
 refine Wc.ret (hKR _ _ ?_)
 refine ⟨_,res1 results20 ⟨_,e2,loadVar_blk (hC.bx (i:=0) rfl) isAgg39 sizeOf39⟩,_,rfl,g,d.length,l,L,K.length,M,rfl,b1,hC.sE [2,3]⟩
end Go.Proofs.Yteajmbanlohncaa
