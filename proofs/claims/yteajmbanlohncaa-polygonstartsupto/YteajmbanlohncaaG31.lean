import Derived.Test.YteajmbanlohncaaS
import Derived.Test.YteajmbanlohncaaG30
set_option linter.unusedVariables false
set_option linter.unusedSimpArgs false
namespace Go.Proofs.Yteajmbanlohncaa
open Ev Try
set_option maxRecDepth 100000
set_option maxHeartbeats 4000000
theorem canon_pieces_c1_ok (n:Nat) {w:World} {O0:List Nat} (hO: ∀k∈O0,k<w.heap.size) {l:Option Addr} {z o:Nat} {s:List Int} (B:Rep O0 w (.sl si) [.slice l z o] s) {f:Option Addr} {C g:Nat} {c:List Int} (D:Rep O0 w (.sl si) [.slice f C g] c) {x:Int} (U:I64 x) {p:Option Addr} {G q:Nat} {u:List Int} (H:Rep O0 w (.sl si) [.slice p G q] u) {h:Option Addr} {J j:Nat} {d:List Int} (K:Rep O0 w (.sl si) [.slice h J j] d) {y:Int} (V:I64 y) {r:Int} (hb:F.canon_pieces_c1 n s c x u d y=some r):
    Calls prog 106 #[.agg #[.slice l z o,.slice f C g,iv x],.agg #[.slice p G q,.slice h J j,iv y]] w fun e w'=> ∃v,e=.returned v∧v=iv r∧I64 r∧Cx (fun _=>False) O0 w w' []:=by
 unfold F.canon_pieces_c1 at hb
 have hC:=Cx.start hO
 replace hC:=hC.arg rfl B
 replace hC:=hC.arg rfl D
 replace hC:=hC.arg rfl H
 replace hC:=hC.arg rfl K
 clear hO
 obtain ⟨rfl,L,M⟩:=B.sl_len
 obtain ⟨rfl,N,P⟩:=D.sl_len
 obtain ⟨rfl,Q,R⟩:=H.sl_len
 obtain ⟨rfl,S,T⟩:=K.sl_len
 refine calls_of_Wc func106 rfl (by rw [ntmps106]; exact nb rfl) fun KR hKR=>?_
 refine Wc.seq fun _ hK5=>rg<|lex.op (hC.box (cs:=[.slice l s.length o,.slice f c.length g,iv x]) rfl rfl) ?_
 rintro _ w7 ⟨g6,rfl,hC,hF,-⟩
 refine lex.op (hC.box (cs:=[.slice p u.length q,.slice h d.length j,iv y]) rfl rfl) ?_
 rintro _ w10 ⟨g9,rfl,hC,hF,-⟩
 refine lp (iv 0) (pu_assign rfl)<|ln (hK5 _ _ ?_)
 refine Wc.seq fun _ hK12=>?_
 refine Wc.seq fun _ hK13=>rg<|lp (.pointer (some ((⟨g6,0,none⟩:Addr).add 1))) (pu_field (sz:=1) underlying127 rfl sizeOf30 (by decide) rfl rfl)<|lv (.slice f c.length g) (ld_fld (hC.bx (i:=1) rfl) isAgg30 rfl rfl)<|lp (iv (c.length:Int)) (pu_len (A:=f) (n:=c.length) (m:=g) underlying30 rfl)<|lp (.pointer (some ((⟨g9,0,none⟩:Addr).add 1))) (pu_field (sz:=1) underlying127 rfl sizeOf30 (by decide) rfl rfl)<|lv (.slice h d.length j) (ld_fld (hC.bx (i:=0) rfl) isAgg30 rfl rfl)<|lp (iv (d.length:Int)) (pu_len (A:=h) (n:=d.length) (m:=j) underlying30 rfl)<|lp (.bool (!(decide ((c.length:Int)=(d.length:Int))))) (pu_neq (k:=.i64) (a:=(c.length:Int)) (b:=(d.length:Int)) rfl rfl)<|ln (hK13 _ _ ?_)
 refine Wc.fresh fun E14 hE=>?_
 have e2:E14 2=pg g6:=cg hE 2 rfl
 have e3:E14 3=pg g9:=cg hE 3 rfl
 have e4:E14 4=iv 0:=cg hE 4 rfl
 have e11:E14 11=.bool (!(decide ((c.length:Int)=(d.length:Int)))):=cg hE 11 rfl
 clear hE
 refine Wc.cond (t:=(!(decide ((c.length:Int)=(d.length:Int))))) (e11) (fun hq15=>?_) (fun hq15=>?_)
 replace hb:=tt hq15 hb
 refine Wc.seq fun _ hK16=>rg<|lp (.pointer (some ((⟨g6,0,none⟩:Addr).add 1))) (pu_field (sz:=1) underlying127 rfl sizeOf30 (by decide) rfl e2)<|lv (.slice f c.length g) (ld_fld (hC.bx (i:=1) rfl) isAgg30 rfl rfl)<|lp (iv (c.length:Int)) (pu_len (A:=f) (n:=c.length) (m:=g) underlying30 rfl)<|lp (.pointer (some ((⟨g9,0,none⟩:Addr).add 1))) (pu_field (sz:=1) underlying127 rfl sizeOf30 (by decide) rfl e3)<|lv (.slice h d.length j) (ld_fld (hC.bx (i:=0) rfl) isAgg30 rfl rfl)<|lp (iv (d.length:Int)) (pu_len (A:=h) (n:=d.length) (m:=j) underlying30 rfl) ?_
 obtain ⟨z17,h18,hb⟩:=bd hb
 refine lp (iv z17) (pu_subc (a:=(c.length:Int)) (b:=(d.length:Int)) rfl rfl h18)<|lp (iv z17) (pu_assign rfl)<|ln (hK16 _ _ ?_)
 obtain rfl:=os hb
 refine Wc.ret (hKR _ _ ?_)
 refine ⟨_,res1 results106 (tV (iv z17) rfl),_,rfl,rfl,(chk_rng h18),hC.sE []⟩
 replace hb:=tf hq15 hb
 refine Wc.skip (hK12 _ _ ?_)
 refine Wc.seq fun _ hK19=>rg<|lp (.pointer (some ((⟨g6,0,none⟩:Addr).add 0))) (pu_field (sz:=1) underlying127 rfl sizeOf30 (by decide) rfl e2)<|lv (.slice l s.length o) (ld_fld (hC.bx (i:=1) rfl) isAgg30 rfl rfl)<|lp (.pointer (some ((⟨g9,0,none⟩:Addr).add 0))) (pu_field (sz:=1) underlying127 rfl sizeOf30 (by decide) rfl e3)<|lv (.slice p u.length q) (ld_fld (hC.bx (i:=0) rfl) isAgg30 rfl rfl) ?_
 obtain ⟨y20,h21,hb⟩:=bd hb
 refine lex.cl (⟨_,_,op_call (vs:=[.slice l s.length o,.slice p u.length q]) call107 rfl rfl rfl,slices_Compare_Lint_int_ok n hC.lt (hC.rd (i:=5) rfl) (hC.rd (i:=3) rfl) h21⟩) ?_
 rintro _ w23 ⟨rfl,hr22,hK⟩
 replace hC:=hC.merge hK
 clear hK
 refine lp (iv y20) (pu_assign rfl)<|ln (hK19 _ _ ?_)
 obtain rfl:=os hb
 refine Wc.ret (hKR _ _ ?_)
 refine ⟨_,res1 results106 (tV (iv y20) rfl),_,rfl,rfl,hr22,hC.sE []⟩

theorem slices_insertionSortCmpFunc_piece_canon_pieces_c1_ok (n:Nat) {w:World} {O0:List Nat} (hO: ∀k∈O0,k<w.heap.size) {h:Option Addr} {x d:Nat} {f:List ((List Int)×((List Int)×Int))} {g:Int} (C:I64 g) {s:Int} (D:I64 s) (hio:Tk O0 w [.own 127 (.pr (.sl si) (.pr (.sl si) si)) (.slice h x d) f]) {r:(List ((List Int)×((List Int)×Int)))} (hb:F.slices_insertionSortCmpFunc_piece_canon_pieces_c1 n f g s=some r):
    Calls prog 125 #[.slice h x d,iv g,iv s,.func (.func 106) #[] #[]] w fun e w'=> ∃v,e=.returned v∧v=.tuple #[]∧Cx (fun k=>k∈blocks [.own 127 (.pr (.sl si) (.pr (.sl si) si)) (.slice h x d) f]) O0 w w' [.own 127 (.pr (.sl si) (.pr (.sl si) si)) (.slice h x d) r]:=by
 unfold F.slices_insertionSortCmpFunc_piece_canon_pieces_c1 at hb
 have hC:=Cx.startTk hO hio
 have hsub:=hio.2.2
 clear hO
 obtain ⟨rfl,A,B⟩:=(hC.ow (i:=0) rfl).sl_len
 clear hio hsub
 obtain ⟨I,hI,hC⟩: ∃I:Nat→Prop,I=(fun k=>k∈blocks [.own 127 (.pr (.sl si) (.pr (.sl si) si)) (.slice h f.length d) f])∧Cx I O0 w w ([.own 127 (.pr (.sl si) (.pr (.sl si) si)) (.slice h f.length d) f]):=⟨_,rfl,hC⟩
 refine calls_of_Wc func125 rfl (by rw [ntmps125]; exact nb rfl) fun KR hKR=>?_
 refine Wc.seq fun _ hK2=>rg<|lp (iv g) (pu_move rfl) ?_
 obtain ⟨z3,h4,hb⟩:=bd hb
 refine lp (iv z3) (pu_addc (a:=g) (b:=1) rfl rfl h4)<|lp (iv z3) (pu_assign rfl)<|ln (hK2 _ _ ?_)
 obtain ⟨o5,hl0,f5,hf5,hb⟩:=bn hb
 refine Wc.cut (fun E wv=> ∃(l:Int) (p:List ((List Int)×((List Int)×Int))),I64 l∧Cx I O0 w wv [.own 127 (.pr (.sl si) (.pr (.sl si) si)) (.slice h f.length d) p]∧f5 (l,p)=some r) (fun _ hK6=>?_) ?_
 refine Wc.block ?_
 refine Wc.loop (fun m E wv=> ∃(l:Int) (p:List ((List Int)×((List Int)×Int))),E 0=.slice h f.length d∧E 1=iv g∧E 2=iv s∧E 3=.func (.func 106) #[] #[]∧E 8=iv l∧I64 l∧Cx I O0 w wv [.own 127 (.pr (.sl si) (.pr (.sl si) si)) (.slice h f.length d) p]∧loopN m (F.slices_insertionSortCmpFunc_piece_canon_pieces_c1_b0 n g s) (l,p)=some o5) n ⟨z3,f,rfl,rfl,rfl,rfl,rfl,(chk_rng h4),hC.sE [0],hl0⟩ ?_
 have hbK0:=hb
 clear hb hC hl0
 rintro m8 E10 w9 ⟨l,p,e0,e1,e2,e3,e8,y,hC,hl0⟩ K7 hK7
 obtain ⟨m8',o11,rfl,hb,hl0⟩:=loopN_some hl0
 unfold F.slices_insertionSortCmpFunc_piece_canon_pieces_c1_b0 at hb
 refine Wc.seq fun _ hK12=>?_
 refine Wc.seq fun _ hK13=>rg<|lp _ (pu_move e8)<|lp _ (pu_move e2)<|lp (.bool (decide (l<s))) (pu_lss (k:=.i64) (a:=l) (b:=s) rfl rfl)<|ln (hK13 _ _ ?_)
 refine Wc.cond (t:=(decide (l<s))) (rfl) (fun hq14=>?_) (fun hq14=>?_)
 replace hb:=tt hq14 hb
 refine Wc.skip (hK12 _ _ ?_)
 refine Wc.seq fun _ hK15=>?_
 refine Wc.block<|Wc.seq fun _ hK16=>rg<|lp _ (pu_move e8)<|lp (iv l) (pu_assign rfl)<|ln (hK16 _ _ ?_)
 obtain ⟨o17,hl1,hb⟩:=bd hb
 refine Wc.cut (fun E wv=> ∃(c:Int) (o:List ((List Int)×((List Int)×Int))),E 0=.slice h f.length d∧E 1=iv g∧E 2=iv s∧E 3=.func (.func 106) #[] #[]∧E 8=iv l∧E 9=iv c∧E 14=.bool (decide (l<s))∧I64 c∧Cx I O0 w wv [.own 127 (.pr (.sl si) (.pr (.sl si) si)) (.slice h f.length d) o]∧((chk (l+1)).bind fun z163=>some (.inl (z163,o)):Option ((Int×(List ((List Int)×((List Int)×Int))))⊕((Int×(List ((List Int)×((List Int)×Int)))))))=some o11) (fun _ hK18=>?_) ?_
 refine Wc.block ?_
 refine Wc.loop (fun m E wv=> ∃(c:Int) (o:List ((List Int)×((List Int)×Int))),E 0=.slice h f.length d∧E 1=iv g∧E 2=iv s∧E 3=.func (.func 106) #[] #[]∧E 8=iv l∧E 9=iv c∧E 14=.bool (decide (l<s))∧I64 c∧Cx I O0 w wv [.own 127 (.pr (.sl si) (.pr (.sl si) si)) (.slice h f.length d) o]∧loopN m (F.slices_insertionSortCmpFunc_piece_canon_pieces_c1_b1 n g) (c,o)=some o17) n ⟨l,p,e0,e1,e2,e3,e8,rfl,rfl,y,hC.sE [0],hl1⟩ ?_
 have hbK1:=hb
 clear hb hC hl1
 rintro m20 E22 w21 ⟨c,o,e0,e1,e2,e3,e8,e9,e14,z,hC,hl1⟩ K19 hK19
 obtain ⟨m20',o23,rfl,hb,hl1⟩:=loopN_some hl1
 unfold F.slices_insertionSortCmpFunc_piece_canon_pieces_c1_b1 at hb
 refine Wc.seq fun _ hK24=>?_
 refine Wc.seq fun _ hK25=>?_
 refine Wc.regionMix [] (frm [] ([]:List Fact) ([]:List Fact)) (fun _=>rfl) mixed (by decide+kernel) (by decide+kernel) fun w27 hw26=>?_
 replace hC:=hC.step (Fr.of_drew hw26)
 have hM:=Fr.refl (fun k=>k∈blocks ([]:List Fact)) w27
 clear hw26
 have hS:=hC
 refine mp (iv c) (pu_move e9)<|mp (iv g) (pu_move e1)<|mp (.bool (decide (g<c))) (pu_gtr (k:=.i64) (a:=c) (b:=g) rfl rfl)<|mp (.bool (decide (g<c))) (pu_move rfl) ?_
 rcases bS (decide (g<c)) with hq28 | hq28
 replace hb:=tt hq28 hb
 refine mixE.gpure rfl (want_t rfl rfl (show _=Value.bool (decide (g<c)) from rfl) hq28) (v:=.func (.func 106) #[] #[]) (pu_move e3)<|mixE.gpure rfl (want_t rfl rfl (show _=Value.bool (decide (g<c)) from rfl) hq28) (v:=.slice h f.length d) (pu_move e0)<|mixE.gpure rfl (want_t rfl rfl (show _=Value.bool (decide (g<c)) from rfl) hq28) (v:=iv c) (pu_move e9) ?_
 obtain ⟨x29,h30,hb⟩:=bd hb
 obtain ⟨ad31,cs32,hA,ho35,hc33,hr34⟩:=hS.elo2 (i:=0) rfl (get_some h30).2 [] (by decide)
 subst hA
 refine mixE.gpure rfl (want_t rfl rfl (show _=Value.bool (decide (g<c)) from rfl) hq28) (v:=.pointer (some (ad31.add (c.toNat*3)))) (pu_index (a:=c) underlying124 sizeOf127 rfl rfl (by rw [(hC.ow (i:=0) rfl).sl_len.1]; exact (get_some h30).1)) ?_
 obtain ⟨k36,k37,rfl,hr38,hr39⟩:=hr34
 have hR:=hr38
 obtain ⟨A40,c41,rfl,hl42,hc43,_⟩:=hr38
 replace hS:=hS.ro hR
 replace hC:=hC.ro hR
 clear hR
 obtain ⟨k45,k46,rfl,hr47,hr48⟩:=hr39
 have hR:=hr47
 obtain ⟨A49,c50,rfl,hl51,hc52,_⟩:=hr47
 replace hS:=hS.ro hR
 replace hC:=hC.ro hR
 clear hR
 obtain ⟨rfl,hr48⟩:=hr48
 refine mixE.gload rfl (want_t rfl rfl (show _=Value.bool (decide (g<c)) from rfl) hq28) hM (v:=.agg #[.slice A40 x29.1.length c41,.slice A49 x29.2.1.length c50,iv x29.2.2]) (fun _ hF=>ld_agg isAgg127 sizeOf127 rfl rfl (fun j u hu=>hF.cell (hc33 j u hu) (off2 ho35)))<|mixE.gpure rfl (want_t rfl rfl (show _=Value.bool (decide (g<c)) from rfl) hq28) (v:=.slice (some ad31) f.length d) (pu_move e0)<|mixE.gpure rfl (want_t rfl rfl (show _=Value.bool (decide (g<c)) from rfl) hq28) (v:=iv c) (pu_move e9) ?_
 obtain ⟨z54,h55,hb⟩:=bd hb
 refine mixE.gpure rfl (want_t rfl rfl (show _=Value.bool (decide (g<c)) from rfl) hq28) (v:=iv z54) (pu_subc (a:=c) (b:=1) rfl rfl h55) ?_
 obtain ⟨x56,h57,hb⟩:=bd hb
 obtain ⟨ad58,cs59,hA,ho62,hc60,hr61⟩:=hS.elo2 (i:=2) rfl (get_some h57).2 [] (by decide)
 obtain rfl:=Option.some.inj hA
 refine mixE.gpure rfl (want_t rfl rfl (show _=Value.bool (decide (g<c)) from rfl) hq28) (v:=.pointer (some (ad31.add (z54.toNat*3)))) (pu_index (a:=z54) underlying124 sizeOf127 rfl rfl (by rw [(hC.ow (i:=2) rfl).sl_len.1]; exact (get_some h57).1)) ?_
 obtain ⟨k63,k64,rfl,hr65,hr66⟩:=hr61
 have hR:=hr65
 obtain ⟨A67,c68,rfl,hl69,hc70,_⟩:=hr65
 replace hS:=hS.ro hR
 replace hC:=hC.ro hR
 clear hR
 obtain ⟨k72,k73,rfl,hr74,hr75⟩:=hr66
 have hR:=hr74
 obtain ⟨A76,c77,rfl,hl78,hc79,_⟩:=hr74
 replace hS:=hS.ro hR
 replace hC:=hC.ro hR
 clear hR
 obtain ⟨rfl,hr75⟩:=hr75
 refine mixE.gload rfl (want_t rfl rfl (show _=Value.bool (decide (g<c)) from rfl) hq28) hM (v:=.agg #[.slice A67 x56.1.length c68,.slice A76 x56.2.1.length c77,iv x56.2.2]) (fun _ hF=>ld_agg isAgg127 sizeOf127 rfl rfl (fun j u hu=>hF.cell (hc60 j u hu) (off2 ho62))) ?_
 obtain ⟨y81,h82,hb⟩:=bd hb
 refine mixE.gcl rfl (want_t rfl rfl (show _=Value.bool (decide (g<c)) from rfl) hq28) hM (⟨_,_,op_callv (vs:=[.agg #[.slice A40 x29.1.length c41,.slice A49 x29.2.1.length c50,iv x29.2.2],.agg #[.slice A67 x56.1.length c68,.slice A76 x56.2.1.length c77,iv x56.2.2]]) (ca:=#[]) call106 rfl rfl rfl,canon_pieces_c1_ok n hC.lt (hC.rd (i:=3) rfl) (hC.rd (i:=2) rfl) (wrap_I64 hr48) (hC.rd (i:=1) rfl) (hC.rd (i:=0) rfl) (wrap_I64 hr75) h82⟩) ?_
 rintro _ w84 ⟨rfl,hr83,hK⟩
 replace hM:=hM.none hK.fr
 refine ⟨hM,?_⟩
 replace hC:=hC.merge hK
 clear hK
 refine mixE.gpure rfl (want_t rfl rfl (show _=Value.bool (decide (g<c)) from rfl) hq28) (v:=.bool (decide (y81<0))) (pu_lss (k:=.i64) (a:=y81) (b:=0) rfl rfl)<|mp (.bool (decide (y81<0))) (pu_pickT (q:=(decide (g<c))) rfl hq28 rfl)<|mixE.nil ?_
 clear hS hM
 refine hK25 _ _<|Wc.cond (t:=(decide (y81<0))) (rfl) (fun hq85=>?_) (fun hq85=>?_)
 replace hb:=tt hq85 hb
 refine Wc.skip (hK24 _ _ ?_)
 refine Wc.fresh fun E86 hE=>?_
 have e0:=cg hE 0 e0
 have e1:=cg hE 1 e1
 have e2:=cg hE 2 e2
 have e3:=cg hE 3 e3
 have e8:=cg hE 8 e8
 have e9:=cg hE 9 e9
 have e14:=cg hE 14 e14
 have e34:E86 34=.bool (decide (y81<0)):=cg hE 34 rfl
 clear hE
 refine Wc.seq fun _ hK87=>?_
 refine Wc.block ?_
 refine Wc.regionMix [] (frm [] ([]:List Fact) [.own 127 (.pr (.sl si) (.pr (.sl si) si)) (.slice (some ad31) f.length d) o]) (fun _=>rfl) mixed (by decide+kernel) (by decide+kernel) fun w89 hw88=>?_
 replace hC:=hC.step (Fr.of_drew hw88)
 have hM:=Fr.refl (fun k=>k∈blocks ([]:List Fact)) w89
 clear hw88
 have hS:=hC
 have hD:Fr (fun k=>k∈blocks (([]:List Fact)++[.own 127 (.pr (.sl si) (.pr (.sl si) si)) (.slice (some ad31) f.length d) o])) w89 w89:=hM.wide
 have hUf1:Beside (([]:List Fact)++[.own 127 (.pr (.sl si) (.pr (.sl si) si)) (.slice (some ad31) f.length d) o]) w89 (.slice (some ad31) f.length d):=Beside.of (i:=0) rfl
 refine mp (.slice (some ad31) f.length d) (pu_move e0)<|mp (iv c) (pu_move e9)<|mp (.slice (some ad31) f.length d) (pu_move e0)<|mp (iv c) (pu_move e9) ?_
 obtain ⟨z90,h91,hb⟩:=bd hb
 refine mp (iv z90) (pu_subc (a:=c) (b:=1) rfl rfl h91)<|mp (.slice (some ad31) f.length d) (pu_move e0)<|mp (iv c) (pu_move e9) ?_
 obtain ⟨z92,h93,hb⟩:=bd hb
 refine mp (iv z92) (pu_subc (a:=c) (b:=1) rfl rfl h93) ?_
 obtain ⟨x94,h95,hb⟩:=bd hb
 obtain ⟨ad96,cs97,hA,ho100,hc98,hr99⟩:=hS.elo2 (i:=4) rfl (get_some h95).2 [] (by decide)
 obtain rfl:=Option.some.inj hA
 refine mp (.pointer (some (ad31.add (z92.toNat*3)))) (pu_index (a:=z92) underlying124 sizeOf127 rfl rfl (by rw [(hC.ow (i:=4) rfl).sl_len.1]; exact (get_some h95).1)) ?_
 obtain ⟨k101,k102,rfl,hr103,hr104⟩:=hr99
 have hR:=hr103
 obtain ⟨A105,c106,rfl,hl107,hc108,_⟩:=hr103
 replace hS:=hS.ro hR
 replace hC:=hC.ro hR
 clear hR
 obtain ⟨k110,k111,rfl,hr112,hr113⟩:=hr104
 have hR:=hr112
 obtain ⟨A114,c115,rfl,hl116,hc117,_⟩:=hr112
 replace hS:=hS.ro hR
 replace hC:=hC.ro hR
 clear hR
 obtain ⟨rfl,hr113⟩:=hr113
 refine mixE.load hM (v:=.agg #[.slice A105 x94.1.length c106,.slice A114 x94.2.1.length c115,iv x94.2.2]) (fun _ hF=>ld_agg isAgg127 sizeOf127 rfl rfl (fun j u hu=>hF.cell (hc98 j u hu) (off2 ho100)))<|mp (.slice (some ad31) f.length d) (pu_move e0)<|mp (iv c) (pu_move e9) ?_
 obtain ⟨x119,h120,hb⟩:=bd hb
 obtain ⟨ad121,cs122,hA,ho125,hc123,hr124⟩:=hS.elo2 (i:=6) rfl (get_some h120).2 [] (by decide)
 obtain rfl:=Option.some.inj hA
 refine mp (.pointer (some (ad31.add (c.toNat*3)))) (pu_index (a:=c) underlying124 sizeOf127 rfl rfl (by rw [(hC.ow (i:=6) rfl).sl_len.1]; exact (get_some h120).1)) ?_
 obtain ⟨k126,k127,rfl,hr128,hr129⟩:=hr124
 have hR:=hr128
 obtain ⟨A130,c131,rfl,hl132,hc133,_⟩:=hr128
 replace hS:=hS.ro hR
 replace hC:=hC.ro hR
 clear hR
 obtain ⟨k135,k136,rfl,hr137,hr138⟩:=hr129
 have hR:=hr137
 obtain ⟨A139,c140,rfl,hl141,hc142,_⟩:=hr137
 replace hS:=hS.ro hR
 replace hC:=hC.ro hR
 clear hR
 obtain ⟨rfl,hr138⟩:=hr138
 refine mixE.load hM (v:=.agg #[.slice A130 x119.1.length c131,.slice A139 x119.2.1.length c140,iv x119.2.2]) (fun _ hF=>ld_agg isAgg127 sizeOf127 rfl rfl (fun j u hu=>hF.cell (hc123 j u hu) (off2 ho125))) ?_
 obtain ⟨x144,h145,hb⟩:=bd hb
 obtain ⟨ad146,cs147,hA,ho150,hc148,hr149⟩:=hS.elo2 (i:=8) rfl (get_some h145).2 [] (by decide)
 obtain rfl:=Option.some.inj hA
 refine mp (.pointer (some (ad31.add (c.toNat*3)))) (pu_index (a:=c) underlying124 sizeOf127 rfl rfl (by rw [(hC.ow (i:=8) rfl).sl_len.1]; exact (get_some h145).1))<|mixE.sk hD (hC.putS (P:=prog) (i:=8) (e:=127) (ds:=[.slice A105 x94.1.length c106,.slice A114 x94.2.1.length c115,iv x94.2.2]) rfl type127 rfl (k:=c.toNat) (a:=(x94.1,(x94.2.1,x94.2.2))) (by have:=(get_some h145).1; simp at this⊢; omega) rfl rfl (⟨[.slice A105 x94.1.length c106],[.slice A114 x94.2.1.length c115,iv x94.2.2],rfl,hC.rd (i:=3) rfl,⟨[.slice A114 x94.2.1.length c115],[iv x94.2.2],rfl,hC.rd (i:=2) rfl,⟨rfl,I64.wr (wrap_I64 hr113)⟩⟩⟩) rfl rfl) ?_
 rintro w151 ⟨hC,hF⟩
 replace hD:=hD.beside hUf1 hF
 clear hF
 refine ⟨hD,?_⟩
 obtain ⟨x152,h153,hb⟩:=bd hb
 obtain ⟨ad154,cs155,hA,hc156,hr157⟩:=hC.elo (i:=8) rfl (get_some h153).2
 obtain rfl:=Option.some.inj hA
 refine mp (.pointer (some (ad31.add (z90.toNat*3)))) (pu_index (a:=z90) underlying124 sizeOf127 rfl rfl (by rw [(hC.ow (i:=8) rfl).sl_len.1]; exact (get_some h153).1))<|mixE.sk hD (hC.putS (P:=prog) (i:=8) (e:=127) (ds:=[.slice A130 x119.1.length c131,.slice A139 x119.2.1.length c140,iv x119.2.2]) rfl type127 rfl (k:=z90.toNat) (a:=(x119.1,(x119.2.1,x119.2.2))) (by have:=(get_some h153).1; simp at this⊢; omega) rfl rfl (⟨[.slice A130 x119.1.length c131],[.slice A139 x119.2.1.length c140,iv x119.2.2],rfl,hC.rd (i:=1) rfl,⟨[.slice A139 x119.2.1.length c140],[iv x119.2.2],rfl,hC.rd (i:=0) rfl,⟨rfl,I64.wr (wrap_I64 hr138)⟩⟩⟩) rfl rfl) ?_
 rintro w158 ⟨hC,hF⟩
 replace hD:=hD.beside hUf1 hF
 clear hF
 refine ⟨hD,?_⟩
 refine mixE.nil ?_
 clear hS hM
 clear hD
 refine hK87 _ _<|rg<|lp _ (pu_move e9) ?_
 obtain ⟨z159,h160,hb⟩:=bd hb
 refine lp (iv z159) (pu_subc (a:=c) (b:=1) rfl rfl h160)<|lp (iv z159) (pu_assign rfl)<|ln ?_
 obtain rfl:=os hb
 exact hK19 m20' _ _ (Nat.lt_succ_self _) ⟨z159,((o.set c.toNat (x94.1,(x94.2.1,x94.2.2))).set z90.toNat (x119.1,(x119.2.1,x119.2.2))),e0,e1,e2,e3,e8,rfl,e14,(chk_rng h160),hC.sE [8],lN hl1⟩
 replace hb:=tf hq85 hb
 refine Wc.exit rfl ?_
 obtain rfl:=os hb
 obtain rfl:=(lX hl1).symm
 exact hK18 _ _ ⟨c,o,e0,e1,e2,e3,e8,e9,e14,z,hC.sE [4],hbK1⟩
 replace hb:=tf hq28 hb
 refine mixE.gskip (want_f rfl rfl (show _=Value.bool (decide (g<c)) from rfl) hq28)<|mixE.gskip (want_f rfl rfl (show _=Value.bool (decide (g<c)) from rfl) hq28)<|mixE.gskip (want_f rfl rfl (show _=Value.bool (decide (g<c)) from rfl) hq28)<|mixE.gskip (want_f rfl rfl (show _=Value.bool (decide (g<c)) from rfl) hq28)<|mixE.gskip (want_f rfl rfl (show _=Value.bool (decide (g<c)) from rfl) hq28)<|mixE.gskip (want_f rfl rfl (show _=Value.bool (decide (g<c)) from rfl) hq28)<|mixE.gskip (want_f rfl rfl (show _=Value.bool (decide (g<c)) from rfl) hq28)<|mixE.gskip (want_f rfl rfl (show _=Value.bool (decide (g<c)) from rfl) hq28)<|mixE.gskip (want_f rfl rfl (show _=Value.bool (decide (g<c)) from rfl) hq28)<|mixE.gskip (want_f rfl rfl (show _=Value.bool (decide (g<c)) from rfl) hq28)<|mixE.gskip (want_f rfl rfl (show _=Value.bool (decide (g<c)) from rfl) hq28)<|mixE.gskip (want_f rfl rfl (show _=Value.bool (decide (g<c)) from rfl) hq28)<|mp (.bool false) (pu_pickF (q:=(decide (g<c))) rfl hq28 rfl)<|mixE.nil ?_
 clear hS hM
 refine hK25 _ _ ?_
 refine Wc.cond_false (rfl) ?_
 refine Wc.exit rfl ?_
 obtain rfl:=os hb
 obtain rfl:=(lX hl1).symm
 exact hK18 _ _ ⟨c,o,e0,e1,e2,e3,e8,e9,e14,z,hC.sE [0],hbK1⟩
 clear hb hC hl1
 rintro E162 w161 ⟨c,o,e0,e1,e2,e3,e8,e9,e14,z,hC,hb⟩
 refine hK15 _ _<|rg<|lp _ (pu_move e8) ?_
 obtain ⟨z163,h164,hb⟩:=bd hb
 refine lp (iv z163) (pu_addc (a:=l) (b:=1) rfl rfl h164)<|lp (iv z163) (pu_assign rfl)<|ln ?_
 obtain rfl:=os hb
 exact hK7 m8' _ _ (Nat.lt_succ_self _) ⟨z163,o,e0,e1,e2,e3,rfl,(chk_rng h164),hC.sE [0],lN hl0⟩
 replace hb:=tf hq14 hb
 refine Wc.exit rfl ?_
 obtain rfl:=os hb
 obtain rfl:=(lX hl0).symm
 exact hK6 _ _ ⟨l,p,y,hC.sE [0],hbK0⟩
 clear hb hC hl0
 rintro E166 w165 ⟨l,p,y,hC,hb⟩
 subst hf5
 obtain rfl:=os hb
 subst hI
 refine hKR _ _ ?_
 refine ⟨_,res0 results125,_,rfl,rfl,hC.sE [0]⟩

theorem slices_stableCmpFunc_piece_canon_pieces_c1_ok (n:Nat) {w:World} {O0:List Nat} (hO: ∀k∈O0,k<w.heap.size) {c:Option Addr} {x d:Nat} {f:List ((List Int)×((List Int)×Int))} {g:Int} (B:I64 g) (hio:Tk O0 w [.own 127 (.pr (.sl si) (.pr (.sl si) si)) (.slice c x d) f]) {r:(List ((List Int)×((List Int)×Int)))} (hb:F.slices_stableCmpFunc_piece_canon_pieces_c1 n f g=some r):
    Calls prog 118 #[.slice c x d,iv g,.func (.func 106) #[] #[]] w fun e w'=> ∃v,e=.returned v∧v=.tuple #[]∧Cx (fun k=>k∈blocks [.own 127 (.pr (.sl si) (.pr (.sl si) si)) (.slice c x d) f]) O0 w w' [.own 127 (.pr (.sl si) (.pr (.sl si) si)) (.slice c x d) r]:=by
 unfold F.slices_stableCmpFunc_piece_canon_pieces_c1 at hb
 have hC:=Cx.startTk hO hio
 have hsub:=hio.2.2
 clear hO
 obtain ⟨rfl,C,D⟩:=(hC.ow (i:=0) rfl).sl_len
 clear hio hsub
 obtain ⟨I,hI,hC⟩: ∃I:Nat→Prop,I=(fun k=>k∈blocks [.own 127 (.pr (.sl si) (.pr (.sl si) si)) (.slice c f.length d) f])∧Cx I O0 w w ([.own 127 (.pr (.sl si) (.pr (.sl si) si)) (.slice c f.length d) f]):=⟨_,rfl,hC⟩
 refine calls_of_Wc func118 rfl (by rw [ntmps118]; exact nb rfl) fun KR hKR=>?_
 refine Wc.seq fun _ hK2=>rg<|lp (iv 20) (pu_assign rfl)<|ln (hK2 _ _ ?_)
 refine Wc.seq fun _ hK3=>rg<|lp (iv 20) (pu_move rfl)<|lp (iv 0) (pu_assign rfl)<|lp (iv 20) (pu_assign rfl)<|ln (hK3 _ _ ?_)
 refine Wc.seq fun _ hK4=>?_
 obtain ⟨o5,hl0,f5,hf5,hb⟩:=bn hb
 refine Wc.cut (fun E wv=> ∃(l:Int) (j:Int) (o:List ((List Int)×((List Int)×Int))),E 0=.slice c f.length d∧E 1=iv g∧E 2=.func (.func 106) #[] #[]∧E 6=iv 20∧E 7=iv l∧E 8=iv j∧I64 l∧I64 j∧Cx I O0 w wv [.own 127 (.pr (.sl si) (.pr (.sl si) si)) (.slice c f.length d) o]∧f5 (l,j,o)=some r) (fun _ hK6=>?_) ?_
 refine Wc.block ?_
 refine Wc.loop (fun m E wv=> ∃(l:Int) (j:Int) (o:List ((List Int)×((List Int)×Int))),E 0=.slice c f.length d∧E 1=iv g∧E 2=.func (.func 106) #[] #[]∧E 6=iv 20∧E 7=iv l∧E 8=iv j∧I64 l∧I64 j∧Cx I O0 w wv [.own 127 (.pr (.sl si) (.pr (.sl si) si)) (.slice c f.length d) o]∧loopN m (F.slices_stableCmpFunc_piece_canon_pieces_c1_b0 n g) (l,j,o)=some o5) n ⟨0,20,f,rfl,rfl,rfl,rfl,rfl,rfl,(show I64 0 from by unfold I64; omega),(show I64 20 from by unfold I64; omega),hC.sE [0],hl0⟩ ?_
 have hbK0:=hb
 clear hb hC hl0
 rintro m8 E10 w9 ⟨l,j,o,e0,e1,e2,e6,e7,e8,s,u,hC,hl0⟩ K7 hK7
 obtain ⟨m8',o11,rfl,hb,hl0⟩:=loopN_some hl0
 unfold F.slices_stableCmpFunc_piece_canon_pieces_c1_b0 at hb
 refine Wc.seq fun _ hK12=>?_
 refine Wc.seq fun _ hK13=>rg<|lp _ (pu_move e8)<|lp _ (pu_move e1)<|lp (.bool (decide (j≤g))) (pu_leq (k:=.i64) (a:=j) (b:=g) rfl rfl)<|ln (hK13 _ _ ?_)
 refine Wc.cond (t:=(decide (j≤g))) (rfl) (fun hq14=>?_) (fun hq14=>?_)
 replace hb:=tt hq14 hb
 refine Wc.skip (hK12 _ _ ?_)
 refine Wc.block<|Wc.seq fun _ hK15=>rg<|lp _ (pu_move e0)<|lp _ (pu_move e7)<|lp _ (pu_move e8)<|lp _ (pu_move e2) ?_
 replace hC:Cx I O0 w w9 ([.own 127 (.pr (.sl si) (.pr (.sl si) si)) (.slice c f.length d) o]++([]:List Fact)):=hC.sE [0]
 obtain ⟨y16,h17,hb⟩:=bd hb
 refine lex.cl (⟨_,_,op_call (vs:=[.slice c f.length d,iv l,iv j,.func (.func 106) #[] #[]]) call125 rfl rfl rfl,slices_insertionSortCmpFunc_piece_canon_pieces_c1_ok n hC.lt s u hC.give h17⟩) ?_
 rintro _ w18 ⟨rfl,hK⟩
 replace hC:=hC.back hK
 clear hK
 refine ln (hK15 _ _ ?_)
 refine Wc.seq fun _ hK19=>rg<|lp _ (pu_move e8)<|lp (iv j) (pu_assign rfl)<|ln (hK19 _ _ ?_)
 refine Wc.fresh fun E20 hE=>?_
 have e0:=cg hE 0 e0
 have e1:=cg hE 1 e1
 have e2:=cg hE 2 e2
 have e6:=cg hE 6 e6
 have e7:E20 7=iv j:=cg hE 7 rfl
 have e8:=cg hE 8 e8
 have e13:E20 13=.bool (decide (j≤g)):=cg hE 13 rfl
 clear hE
 refine rg<|lp _ (pu_move e8)<|lp _ (pu_move e6) ?_
 obtain ⟨z21,h22,hb⟩:=bd hb
 refine lp (iv z21) (pu_addc (a:=j) (b:=20) rfl rfl h22)<|lp (iv z21) (pu_assign rfl)<|ln ?_
 obtain rfl:=os hb
 exact hK7 m8' _ _ (Nat.lt_succ_self _) ⟨j,z21,y16,e0,e1,e2,e6,e7,rfl,u,(chk_rng h22),hC.sE [0],lN hl0⟩
 replace hb:=tf hq14 hb
 refine Wc.exit rfl ?_
 obtain rfl:=os hb
 obtain rfl:=(lX hl0).symm
 exact hK6 _ _ ⟨l,j,o,e0,e1,e2,e6,e7,e8,s,u,hC.sE [0],hbK0⟩
 clear hb hC hl0
 rintro E24 w23 ⟨l,j,o,e0,e1,e2,e6,e7,e8,s,u,hC,hb⟩
 subst hf5
 refine hK4 _ _<|Wc.seq fun _ hK25=>rg<|lp _ (pu_move e0)<|lp _ (pu_move e7)<|lp _ (pu_move e1)<|lp _ (pu_move e2) ?_
 replace hC:Cx I O0 w w23 ([.own 127 (.pr (.sl si) (.pr (.sl si) si)) (.slice c f.length d) o]++([]:List Fact)):=hC.sE [0]
 obtain ⟨y26,h27,hb⟩:=bd hb
 refine lex.cl (⟨_,_,op_call (vs:=[.slice c f.length d,iv l,iv g,.func (.func 106) #[] #[]]) call125 rfl rfl rfl,slices_insertionSortCmpFunc_piece_canon_pieces_c1_ok n hC.lt s B hC.give h27⟩) ?_
 rintro _ w28 ⟨rfl,hK⟩
 replace hC:=hC.back hK
 clear hK
 refine ln (hK25 _ _ ?_)
 obtain ⟨o29,hl1,f29,hf29,hb⟩:=bn hb
 refine Wc.cut (fun E wv=> ∃(h:Int) (p:Int) (q:Int),I64 h∧I64 p∧I64 q∧Cx I O0 w wv [.own 127 (.pr (.sl si) (.pr (.sl si) si)) (.slice c f.length d) y26]∧f29 (h,p,q)=some r) (fun _ hK30=>?_) ?_
 refine Wc.block ?_
 refine Wc.loop (fun m E wv=> ∃(h:Int) (p:Int) (q:Int),E 0=.slice c f.length d∧E 1=iv g∧E 2=.func (.func 106) #[] #[]∧E 6=iv h∧E 7=iv p∧E 8=iv q∧I64 h∧I64 p∧I64 q∧Cx I O0 w wv [.own 127 (.pr (.sl si) (.pr (.sl si) si)) (.slice c f.length d) y26]∧loopN m (F.slices_stableCmpFunc_piece_canon_pieces_c1_b1 n g) (h,p,q)=some o29) n ⟨20,l,j,e0,e1,e2,e6,e7,e8,(show I64 20 from by unfold I64; omega),s,u,hC.sE [0],hl1⟩ ?_
 have hbK1:=hb
 clear hb hC hl1
 rintro m32 E34 w33 ⟨h,p,q,e0,e1,e2,e6,e7,e8,y,z,A,hC,hl1⟩ K31 hK31
 obtain ⟨m32',o35,rfl,hb,hl1⟩:=loopN_some hl1
 unfold F.slices_stableCmpFunc_piece_canon_pieces_c1_b1 at hb
 refine Wc.seq fun _ hK36=>?_
 refine Wc.seq fun _ hK37=>rg<|lp _ (pu_move e6)<|lp _ (pu_move e1)<|lp (.bool (decide (h<g))) (pu_lss (k:=.i64) (a:=h) (b:=g) rfl rfl)<|ln (hK37 _ _ ?_)
 refine Wc.cond (t:=(decide (h<g))) (rfl) (fun hq38=>?_) (fun hq38=>?_)
 replace hb:=tt hq38 hb
 refine Wc.skip (hK36 _ _ ?_)
 refine Wc.block<|Wc.seq fun _ hK39=>rg<|lp _ (pu_move e6) ?_
 obtain ⟨z40,h41,hb⟩:=bd hb
 refine lp (iv z40) (pu_mulc (a:=2) (b:=h) rfl rfl h41)<|lp (iv 0) (pu_assign rfl)<|lp (iv z40) (pu_assign rfl)<|ln (hK39 _ _ ?_)
 refine Wc.seq fun _ hK42=>?_
 obtain ⟨o43,hl2,hb⟩:=bd hb
 refine Wc.cut (fun E wv=>E 0=.slice c f.length d∧E 1=iv g∧E 2=.func (.func 106) #[] #[]∧E 6=iv h∧E 7=iv 0∧E 8=iv z40∧E 30=.bool (decide (h<g))∧Cx I O0 w wv [.own 127 (.pr (.sl si) (.pr (.sl si) si)) (.slice c f.length d) y26]∧((chk (0+h)).bind fun z58=>cond (decide (z58<g)) (none) ((chk (h*2)).bind fun z62=>some (.inl (z62,0,z40))):Option ((Int×Int×Int)⊕((Int×Int×Int))))=some o35) (fun _ hK44=>?_) ?_
 refine Wc.block ?_
 refine Wc.loop (fun m E wv=>E 0=.slice c f.length d∧E 1=iv g∧E 2=.func (.func 106) #[] #[]∧E 6=iv h∧E 7=iv 0∧E 8=iv z40∧E 30=.bool (decide (h<g))∧Cx I O0 w wv [.own 127 (.pr (.sl si) (.pr (.sl si) si)) (.slice c f.length d) y26]∧loopN m (F.slices_stableCmpFunc_piece_canon_pieces_c1_b2 n g z40) ()=some o43) n ⟨e0,e1,e2,e6,rfl,rfl,rfl,hC.sE [0],hl2⟩ ?_
 have hbK2:=hb
 clear hb hC hl2
 rintro m46 E48 w47 ⟨e0,e1,e2,e6,e7,e8,e30,hC,hl2⟩ K45 hK45
 obtain ⟨m46',o49,rfl,hb,hl2⟩:=loopN_some hl2
 unfold F.slices_stableCmpFunc_piece_canon_pieces_c1_b2 at hb
 refine Wc.seq fun _ hK50=>?_
 refine Wc.seq fun _ hK51=>rg<|lp _ (pu_move e8)<|lp _ (pu_move e1)<|lp (.bool (decide (z40≤g))) (pu_leq (k:=.i64) (a:=z40) (b:=g) rfl rfl)<|ln (hK51 _ _ ?_)
 refine Wc.cond (t:=(decide (z40≤g))) (rfl) (fun hq52=>?_) (fun hq52=>?_)
 replace hb:=tt hq52 hb
 refine Wc.skip (hK50 _ _ ?_)
 refine Wc.block ?_
 refine Wc.seq fun _ hK53=>?_
 cases hb
 replace hb:=tf hq52 hb
 refine Wc.exit rfl ?_
 obtain rfl:=os hb
 obtain rfl:=(lX hl2).symm
 exact hK44 _ _ ⟨e0,e1,e2,e6,e7,e8,e30,hC.sE [0],hbK2⟩
 clear hb hC hl2
 rintro E55 w54 ⟨e0,e1,e2,e6,e7,e8,e30,hC,hb⟩
 refine hK42 _ _ ?_
 refine Wc.seq fun _ hK56=>?_
 refine Wc.seq fun _ hK57=>rg<|lp _ (pu_move e7)<|lp _ (pu_move e6) ?_
 obtain ⟨z58,h59,hb⟩:=bd hb
 refine lp (iv z58) (pu_addc (a:=0) (b:=h) rfl rfl h59)<|lp (iv z58) (pu_assign rfl)<|ln (hK57 _ _ ?_)
 refine Wc.seq fun _ hK60=>rg<|lp (iv z58) (pu_move rfl)<|lp _ (pu_move e1)<|lp (.bool (decide (z58<g))) (pu_lss (k:=.i64) (a:=z58) (b:=g) rfl rfl)<|ln (hK60 _ _ ?_)
 refine Wc.cond (t:=(decide (z58<g))) (rfl) (fun hq61=>?_) (fun hq61=>?_)
 replace hb:=tt hq61 hb
 cases hb
 replace hb:=tf hq61 hb
 refine Wc.skip (hK56 _ _ ?_)
 refine rg<|lp _ (pu_move e6) ?_
 obtain ⟨z62,h63,hb⟩:=bd hb
 refine lp (iv z62) (pu_mulc (a:=h) (b:=2) rfl rfl h63)<|lp (iv z62) (pu_assign rfl)<|ln ?_
 obtain rfl:=os hb
 exact hK31 m32' _ _ (Nat.lt_succ_self _) ⟨z62,0,z40,e0,e1,e2,rfl,e7,e8,(chk_rng h63),(show I64 0 from by unfold I64; omega),(chk_rng h41),hC.sE [0],lN hl1⟩
 replace hb:=tf hq38 hb
 refine Wc.exit rfl ?_
 obtain rfl:=os hb
 obtain rfl:=(lX hl1).symm
 exact hK30 _ _ ⟨h,p,q,y,z,A,hC.sE [0],hbK1⟩
 clear hb hC hl1
 rintro E65 w64 ⟨h,p,q,y,z,A,hC,hb⟩
 subst hf29
 obtain rfl:=os hb
 subst hI
 refine hKR _ _ ?_
 refine ⟨_,res0 results118,_,rfl,rfl,hC.sE [0]⟩

theorem slices_SortStableFunc_piece_piece_canon_pieces_c1_ok (n:Nat) {w:World} {O0:List Nat} (hO: ∀k∈O0,k<w.heap.size) {a:Option Addr} {d b:Nat} {c:List ((List Int)×((List Int)×Int))} (hio:Tk O0 w [.own 127 (.pr (.sl si) (.pr (.sl si) si)) (.slice a d b) c]) {r:(List ((List Int)×((List Int)×Int)))} (hb:F.slices_SortStableFunc_piece_piece_canon_pieces_c1 n c=some r):
    Calls prog 105 #[.slice a d b,.func (.func 106) #[] #[]] w fun e w'=> ∃v,e=.returned v∧v=.tuple #[]∧Cx (fun k=>k∈blocks [.own 127 (.pr (.sl si) (.pr (.sl si) si)) (.slice a d b) c]) O0 w w' [.own 127 (.pr (.sl si) (.pr (.sl si) si)) (.slice a d b) r]:=by
 unfold F.slices_SortStableFunc_piece_piece_canon_pieces_c1 at hb
 have hC:=Cx.startTk hO hio
 have hsub:=hio.2.2
 clear hO
 obtain ⟨rfl,f,g⟩:=(hC.ow (i:=0) rfl).sl_len
 clear hio hsub
 obtain ⟨I,hI,hC⟩: ∃I:Nat→Prop,I=(fun k=>k∈blocks [.own 127 (.pr (.sl si) (.pr (.sl si) si)) (.slice a c.length b) c])∧Cx I O0 w w ([.own 127 (.pr (.sl si) (.pr (.sl si) si)) (.slice a c.length b) c]):=⟨_,rfl,hC⟩
 refine calls_of_Wc func105 rfl (by rw [ntmps105]; exact nb rfl) fun KR hKR=>?_
 refine rg<|lp (.slice a c.length b) (pu_move rfl)<|lp (.slice a c.length b) (pu_move rfl)<|lp (iv (c.length:Int)) (pu_len (A:=a) (n:=c.length) (m:=b) underlying124 rfl)<|lp (.func (.func 106) #[] #[]) (pu_move rfl) ?_
 replace hC:Cx I O0 w w ([.own 127 (.pr (.sl si) (.pr (.sl si) si)) (.slice a c.length b) c]++([]:List Fact)):=hC.sE [0]
 obtain ⟨y2,h3,hb⟩:=bd hb
 refine lex.cl (⟨_,_,op_call (vs:=[.slice a c.length b,iv (c.length:Int),.func (.func 106) #[] #[]]) call118 rfl rfl rfl,slices_stableCmpFunc_piece_canon_pieces_c1_ok n hC.lt (I64.len f g) hC.give h3⟩) ?_
 rintro _ w4 ⟨rfl,hK⟩
 replace hC:=hC.back hK
 clear hK
 refine ln ?_
 obtain rfl:=os hb
 subst hI
 refine hKR _ _ ?_
 refine ⟨_,res0 results105,_,rfl,rfl,hC.sE [0]⟩

theorem canon_pieces_ok (n:Nat) {w:World} {O0:List Nat} (hO: ∀k∈O0,k<w.heap.size) {C:Option Addr} {X D:Nat} {u:List Int} (Y:Rep O0 w (.sl si) [.slice C X D] u) {G:Option Addr} {Z H:Nat} {x:List Int} (a0:Rep O0 w (.sl si) [.slice G Z H] x) {L:Int} (a1:I64 L) {r:(List ((List Int)×((List Int)×Int)))} (hb:F.canon_pieces n u x L=some r):
    Calls prog 98 #[.agg #[.slice C X D,.slice G Z H,iv L]] w fun e w'=> ∃v,e=.returned v∧∃(A0:Option Addr) (m0 c0:Nat),v=.slice A0 m0 c0∧Cx (fun _=>False) O0 w w' [.own 127 (.pr (.sl si) (.pr (.sl si) si)) (.slice A0 m0 c0) r]:=by
 unfold F.canon_pieces at hb
 have hC:=Cx.start hO
 replace hC:=hC.arg rfl Y
 replace hC:=hC.arg rfl a0
 clear hO
 obtain ⟨rfl,a5,a6⟩:=Y.sl_len
 obtain ⟨rfl,a7,a8⟩:=a0.sl_len
 refine calls_of_Wc func98 rfl (by rw [ntmps98]; exact nb rfl) fun KR hKR=>?_
 refine Wc.seq fun _ hK3=>rg<|lex.op (hC.box (cs:=[.slice C u.length D,.slice G x.length H,iv L]) rfl rfl) ?_
 rintro _ w5 ⟨g4,rfl,hC,hF,-⟩
 refine lp (.slice none 0 0) (pu_assign rfl)<|ln (hK3 _ _ ?_)
 refine Wc.seq fun _ hK7=>rg<|lp (.slice none 0 0) (pu_assign rfl)<|ln (hK7 _ _ ?_)
 refine Wc.seq fun _ hK8=>?_
 refine Wc.seq fun _ hK9=>rg<|lv (.agg #[.slice C u.length D,.slice G x.length H,iv L]) (ld_blk (hC.bx (i:=0) rfl) isAgg32 sizeOf32 rfl) ?_
 obtain ⟨y10,h11,hb⟩:=bd hb
 refine lex.cl (⟨_,_,op_call (vs:=[.agg #[.slice C u.length D,.slice G x.length H,iv L]]) call103 rfl rfl rfl,diagram_Graph_ok n hC.lt (hC.rd (i:=2) rfl) (hC.rd (i:=1) rfl) a1 h11⟩) ?_
 rintro _ w16 ⟨A12,m13,c14,rfl,hK⟩
 replace hC:=hC.merge hK
 clear hK
 obtain ⟨rfl,hl17,hc18⟩:=(hC.rd (i:=0) rfl).sl_len
 refine lp (iv (y10.length:Int)) (pu_len (A:=A12) (n:=y10.length) (m:=c14) underlying93 rfl)<|lp (iv 0) (pu_move rfl)<|ln (hK9 _ _ ?_)
 replace hC:=hC.nil 127 (.pr (.sl si) (.pr (.sl si) si))
 obtain ⟨o20,hl0,f20,hf20,hb⟩:=bn hb
 refine Wc.cut (fun E wv=> ∃(p:List ((List Int)×((List Int)×Int))) (y:Int) (q:Option Addr) (P z:Nat),E 2=.slice none 0 0∧E 3=.slice q P z∧I64 y∧(p=[]→q=none)∧Cx (fun _=>False) O0 w wv [.own 127 (.pr (.sl si) (.pr (.sl si) si)) (.slice q P z) p]∧f20 (p,y)=some r) (fun _ hK21=>?_) ?_
 refine Wc.block ?_
 refine Wc.loop (fun m E wv=> ∃(p:List ((List Int)×((List Int)×Int))) (y:Int) (q:Option Addr) (P z:Nat),E 1=pg g4∧E 2=.slice none 0 0∧E 3=.slice q P z∧E 13=.slice A12 y10.length c14∧E 14=iv (y10.length:Int)∧E 15=iv y∧I64 y∧(p=[]→q=none)∧Cx (fun _=>False) O0 w wv [.box g4 32 [.slice C u.length D,.slice G x.length H,iv L],.ro (.sl si) [.slice C u.length D] u,.ro (.sl si) [.slice G x.length H] x,.own 127 (.pr (.sl si) (.pr (.sl si) si)) (.slice q P z) p,.ro (.sl (.sl si)) [.slice A12 y10.length c14] y10]∧loopN m (F.canon_pieces_b0 n u x L y10) (p,y)=some o20) n ⟨([]:List ((List Int)×((List Int)×Int))),0,none,0,0,rfl,rfl,rfl,rfl,rfl,rfl,(show I64 0 from by unfold I64; omega),(fun _=>rfl),hC.sE [2,4,3,0,1],hl0⟩ ?_
 have hbK0:=hb
 clear hb hC hl0
 rintro m23 E25 w24 ⟨p,y,q,P,z,e1,e2,e3,e13,e14,e15,Q,a2,hC,hl0⟩ K22 hK22
 obtain ⟨m23',o26,rfl,hb,hl0⟩:=loopN_some hl0
 unfold F.canon_pieces_b0 at hb
 obtain ⟨rfl,a3,a4⟩:=(hC.ow (i:=3) rfl).sl_len
 refine Wc.seq fun _ hK27=>rg<|lp _ (pu_lss e15 e14)<|ln (hK27 _ _ ?_)
 refine Wc.seq fun _ hK28=>?_
 refine Wc.cond (t:=(decide (y<(y10.length:Int)))) (rfl) (fun hq29=>?_) (fun hq29=>?_)
 replace hb:=tt hq29 hb
 refine Wc.skip (hK28 _ _ ?_)
 refine Wc.seq fun _ hK30=>?_
 refine Wc.block<|Wc.seq fun _ hK31=>rg ?_
 obtain ⟨x32,h33,hb⟩:=bd hb
 obtain ⟨ad34,cs35,hA,hc36,hr37⟩:=hC.elr (i:=4) rfl (get_some h33).2
 subst hA
 refine lp (.pointer (some (ad34.add (y.toNat*1)))) (pu_index (a:=y) underlying93 sizeOf30 e13 e15 (get_some h33).1) ?_
 have hR:=hr37
 obtain ⟨A38,c39,rfl,hl40,hc41,_⟩:=hr37
 replace hC:=hC.ro hR
 clear hR
 refine lv (.slice A38 x32.length c39) (ld_one isAgg30 rfl (hc36 0 _ rfl))<|lp (.slice A38 x32.length c39) (pu_assign rfl)<|ln (hK31 _ _ ?_)
 refine Wc.seq fun _ hK43=>rg<|lex.op (hC.alloc (cs:=[.slice none 0 0,.slice none 0 0,iv 0]) zeroValue127 rfl) ?_
 rintro _ w45 ⟨g44,rfl,hC,hF,-⟩
 refine ln (hK43 _ _ ?_)
 refine Wc.seq fun _ hK47=>?_
 refine Wc.seq fun _ hK48=>rg<|lp (.slice A38 x32.length c39) (pu_move rfl)<|lp (iv (x32.length:Int)) (pu_len (A:=A38) (n:=x32.length) (m:=c39) underlying30 rfl)<|lp (iv 0) (pu_move rfl)<|ln (hK48 _ _ ?_)
 replace hC:=hC.nil 3 si
 replace hC:=hC.nil 3 si
 obtain ⟨o51,hl1,hb⟩:=bd hb
 refine Wc.cut (fun E wv=> ∃(B:Int) (c:List Int) (d:List Int) (f:Int) (g:Option Addr) (J j:Nat) (l:Option Addr) (K o:Nat),E 1=pg g4∧E 2=.slice none 0 0∧E 3=.slice q p.length z∧E 5=.slice A38 x32.length c39∧E 6=pg g44∧E 13=.slice (some ad34) y10.length c14∧E 14=iv (y10.length:Int)∧E 15=iv y∧E 16=.bool (decide (y<(y10.length:Int)))∧E 19=.slice A38 x32.length c39∧E 20=iv (x32.length:Int)∧E 21=iv B∧I64 B∧I64 f∧(c=[]→g=none)∧Cx (fun _=>False) O0 w wv [.box g4 32 [.slice C u.length D,.slice G x.length H,iv L],.ro (.sl si) [.slice C u.length D] u,.ro (.sl si) [.slice G x.length H] x,.own 127 (.pr (.sl si) (.pr (.sl si) si)) (.slice q p.length z) p,.ro (.sl si) [.slice A38 x32.length c39] x32,.box g44 127 [.slice g J j,.slice l K o,iv f],.own 3 si (.slice g J j) c,.own 3 si (.slice l K o) d,.ro (.sl (.sl si)) [.slice (some ad34) y10.length c14] y10]∧((lim (p.length+([(c,(d,f))]:List ((List Int)×((List Int)×Int))).length)).bind fun u110=>(chk (y+1)).bind fun z117=>some (.inl ((p++([(c,(d,f))]:List ((List Int)×((List Int)×Int)))),z117)):Option (((List ((List Int)×((List Int)×Int)))×Int)⊕(((List ((List Int)×((List Int)×Int)))×Int))))=some o26) (fun _ hK52=>?_) ?_
 refine Wc.block ?_
 refine Wc.loop (fun m E wv=> ∃(B:Int) (c:List Int) (d:List Int) (f:Int) (g:Option Addr) (J j:Nat) (l:Option Addr) (K o:Nat),E 1=pg g4∧E 2=.slice none 0 0∧E 3=.slice q p.length z∧E 5=.slice A38 x32.length c39∧E 6=pg g44∧E 13=.slice (some ad34) y10.length c14∧E 14=iv (y10.length:Int)∧E 15=iv y∧E 16=.bool (decide (y<(y10.length:Int)))∧E 19=.slice A38 x32.length c39∧E 20=iv (x32.length:Int)∧E 21=iv B∧I64 B∧I64 f∧(c=[]→g=none)∧Cx (fun _=>False) O0 w wv [.box g4 32 [.slice C u.length D,.slice G x.length H,iv L],.ro (.sl si) [.slice C u.length D] u,.ro (.sl si) [.slice G x.length H] x,.own 127 (.pr (.sl si) (.pr (.sl si) si)) (.slice q p.length z) p,.ro (.sl si) [.slice A38 x32.length c39] x32,.box g44 127 [.slice g J j,.slice l K o,iv f],.own 3 si (.slice g J j) c,.own 3 si (.slice l K o) d,.ro (.sl (.sl si)) [.slice (some ad34) y10.length c14] y10]∧loopN m (F.canon_pieces_b1 n u x L x32) (B,c,d,f)=some o51) n ⟨0,([]:List Int),([]:List Int),0,none,0,0,none,0,0,e1,e2,e3,rfl,rfl,e13,e14,e15,rfl,rfl,rfl,rfl,(show I64 0 from by unfold I64; omega),(show I64 0 from by unfold I64; omega),(fun _=>rfl),hC.sE [4,5,6,7,3,2,1,0,8],hl1⟩ ?_
 have hbK1:=hb
 clear hb hC hl1
 rintro m54 E56 w55 ⟨B,c,d,f,g,J,j,l,K,o,e1,e2,e3,e5,e6,e13,e14,e15,e16,e19,e20,e21,R,N,M,hC,hl1⟩ K53 hK53
 obtain ⟨m54',o57,rfl,hb,hl1⟩:=loopN_some hl1
 unfold F.canon_pieces_b1 at hb
 obtain ⟨rfl,S,T⟩:=(hC.ow (i:=6) rfl).sl_len
 obtain ⟨rfl,U,V⟩:=(hC.ow (i:=7) rfl).sl_len
 refine Wc.seq fun _ hK58=>rg<|lp _ (pu_lss e21 e20)<|ln (hK58 _ _ ?_)
 refine Wc.seq fun _ hK59=>?_
 refine Wc.cond (t:=(decide (B<(x32.length:Int)))) (rfl) (fun hq60=>?_) (fun hq60=>?_)
 replace hb:=tt hq60 hb
 refine Wc.skip (hK59 _ _ ?_)
 refine Wc.seq fun _ hK61=>?_
 refine Wc.block<|Wc.seq fun _ hK62=>rg ?_
 obtain ⟨x63,h64,hb⟩:=bd hb
 obtain ⟨ad65,cs66,hA,hc67,hr68⟩:=hC.elr (i:=4) rfl (get_some h64).2
 subst hA
 refine lp (.pointer (some (ad65.add (B.toNat*1)))) (pu_index (a:=B) underlying30 sizeOf3 e19 e21 (get_some h64).1) ?_
 obtain ⟨rfl,hr68'⟩:=hr68
 refine lv (iv x63) (ld_one isAgg3 rfl (hc67 0 _ rfl))<|lp (iv x63) (pu_assign rfl)<|ln (hK62 _ _ ?_)
 refine Wc.seq fun _ hK69=>rg<|lv (.agg #[.slice C u.length D,.slice G x.length H,iv L]) (ld_blk (hC.bx (i:=0) rfl) isAgg32 sizeOf32 e1)<|lp (iv x63) (pu_move rfl)<|lp (.pointer (some ((⟨g44,0,none⟩:Addr).add 0))) (pu_field (sz:=1) underlying127 rfl sizeOf30 (by decide) rfl e6)<|lv (.slice g c.length j) (ld_fld (hC.bx (i:=5) rfl) isAgg30 rfl rfl) ?_
 obtain ⟨y70,h71,hb⟩:=bd hb
 refine lex.cl (⟨_,_,op_call (vs:=[.agg #[.slice C u.length D,.slice G x.length H,iv L],iv x63,.slice g c.length j]) call104 rfl rfl rfl,canon_number_ok n (hC.lentLt [.slice g c.length j]) ((hC.rd (i:=1) rfl).lent [.slice g c.length j]) ((hC.rd (i:=2) rfl).lent [.slice g c.length j]) a1 (wrap_I64 hr68') ((hC.ow (i:=6) rfl).lend (vs:=[.slice g c.length j]) (by simp)) M h71⟩) ?_
 rintro _ w82 ⟨A72,m73,c74,A77,m78,c79,rfl,hz76,hr81,hK⟩
 replace hC:=hC.mergeF hK rfl
 clear hK
 obtain ⟨rfl,hl83,hc84⟩:=(hC.ow (i:=0) rfl).sl_len
 obtain ⟨rfl,hl85,hc86⟩:=(hC.ow (i:=1) rfl).sl_len
 refine lp (.tuple #[.slice A72 y70.1.length c74,.slice A77 y70.2.1.length c79,iv y70.2.2]) (pu_move rfl)<|lp (.slice A72 y70.1.length c74) (pu_extract rfl rfl)<|lp (.slice A77 y70.2.1.length c79) (pu_extract rfl rfl)<|lp (iv y70.2.2) (pu_extract rfl rfl)<|lp (.slice A72 y70.1.length c74) (pu_assign rfl)<|lp (.slice A77 y70.2.1.length c79) (pu_assign rfl)<|lp (iv y70.2.2) (pu_assign rfl)<|ln (hK69 _ _ ?_)
 refine Wc.fresh fun E87 hE=>?_
 have e1:=cg hE 1 e1
 have e2:=cg hE 2 e2
 have e3:=cg hE 3 e3
 have e5:=cg hE 5 e5
 have e6:=cg hE 6 e6
 have e8:E87 8=iv x63:=cg hE 8 rfl
 have e9:E87 9=.slice A72 y70.1.length c74:=cg hE 9 rfl
 have e10:E87 10=.slice A77 y70.2.1.length c79:=cg hE 10 rfl
 have e11:E87 11=iv y70.2.2:=cg hE 11 rfl
 have e13:=cg hE 13 e13
 have e14:=cg hE 14 e14
 have e15:=cg hE 15 e15
 have e16:=cg hE 16 e16
 have e19:=cg hE 19 e19
 have e20:=cg hE 20 e20
 have e21:=cg hE 21 e21
 have e22:E87 22=.bool (decide (B<(x32.length:Int))):=cg hE 22 rfl
 clear hE
 refine Wc.block<|Wc.seq fun _ hK88=>rg<|lp _ (pu_move e11)<|lp (.bool (decide (y70.2.2<0))) (pu_lss (k:=.i64) (a:=y70.2.2) (b:=0) rfl rfl)<|lp (.bool (decide (y70.2.2<0))) (pu_assign rfl)<|ln (hK88 _ _ ?_)
 refine Wc.cond (t:=(decide (y70.2.2<0))) (rfl) (fun hq89=>?_) (fun hq89=>?_)
 replace hb:=tt hq89 hb
 refine rg<|lp _ (pu_move e9)<|lp _ (pu_move e10)<|lp (.agg #[.slice A72 y70.1.length c74,.slice A77 y70.2.1.length c79,iv 1]) (pu_builds (places:=[(0,1),(1,1),(2,1)]) (pv:=[(0,.slice A72 y70.1.length c74),(1,.slice A77 y70.2.1.length c79),(2,iv 1)]) type127 underlying127 rfl (mp_cons type30 (mp_cons type30 (mp_cons type3 mp_nil rfl rfl) rfl rfl) rfl rfl) rfl (by simp [Instr.fill,Value.cells]))<|lex.sk (hC.seta (i:=7) (ds:=[.slice A72 y70.1.length c74,.slice A77 y70.2.1.length c79,iv 1]) rfl type127 rfl rfl rfl e6 rfl) ?_
 rintro w90 ⟨hC,hF⟩
 refine ln (hK61 _ _ ?_)
 refine rg ?_
 obtain ⟨z91,h92,hb⟩:=bd hb
 refine lp (iv z91) (pu_addc (a:=B) (b:=1) e21 rfl h92)<|lp (iv z91) (pu_move rfl)<|ln ?_
 obtain rfl:=os hb
 exact hK53 m54' _ _ (Nat.lt_succ_self _) ⟨z91,y70.1,y70.2.1,1,A72,y70.1.length,c74,A77,y70.2.1.length,c79,e1,e2,e3,e5,e6,e13,e14,e15,e16,e19,e20,rfl,(chk_rng h92),(show I64 1 from by unfold I64; omega),hz76,hC.sE [2,3,4,5,6,7,0,1,10],lN hl1⟩
 replace hb:=tf hq89 hb
 refine Wc.seq fun _ hK93=>rg<|lp _ (pu_move e11)<|lp (.bool (decide (y70.2.2=0))) (pu_eql (k:=.i64) (a:=y70.2.2) (b:=0) rfl rfl)<|lp (.bool (decide (y70.2.2=0))) (pu_assign rfl)<|ln (hK93 _ _ ?_)
 refine Wc.cond (t:=(decide (y70.2.2=0))) (rfl) (fun hq94=>?_) (fun hq94=>?_)
 replace hb:=tt hq94 hb
 refine rg<|lp (.pointer (some ((⟨g44,0,none⟩:Addr).add 2))) (pu_field (sz:=1) underlying127 rfl sizeOf3 (by decide) rfl e6)<|lv (iv f) (ld_fld (hC.bx (i:=7) rfl) isAgg3 rfl rfl) ?_
 obtain ⟨z95,h96,hb⟩:=bd hb
 refine lp (iv z95) (pu_addc (a:=f) (b:=1) rfl rfl h96)<|lp (.pointer (some ((⟨g44,0,none⟩:Addr).add 2))) (pu_field (sz:=1) underlying127 rfl sizeOf3 (by decide) rfl e6)<|lex.sk (hC.setf (i:=7) (k:=2) (v:=iv z95) rfl sizeOf3 rfl rfl rfl rfl) ?_
 rintro w97 ⟨hC,hF⟩
 refine ln (hK61 _ _ ?_)
 refine rg ?_
 obtain ⟨z98,h99,hb⟩:=bd hb
 refine lp (iv z98) (pu_addc (a:=B) (b:=1) e21 rfl h99)<|lp (iv z98) (pu_move rfl)<|ln ?_
 obtain rfl:=os hb
 exact hK53 m54' _ _ (Nat.lt_succ_self _) ⟨z98,c,d,z95,g,c.length,j,l,d.length,o,e1,e2,e3,e5,e6,e13,e14,e15,e16,e19,e20,rfl,(chk_rng h99),(chk_rng h96),M,hC.sE [2,3,4,5,6,7,8,9,10],lN hl1⟩
 replace hb:=tf hq94 hb
 refine Wc.skip (hK61 _ _ ?_)
 refine rg ?_
 obtain ⟨z100,h101,hb⟩:=bd hb
 refine lp (iv z100) (pu_addc (a:=B) (b:=1) e21 rfl h101)<|lp (iv z100) (pu_move rfl)<|ln ?_
 obtain rfl:=os hb
 exact hK53 m54' _ _ (Nat.lt_succ_self _) ⟨z100,c,d,f,g,c.length,j,l,d.length,o,e1,e2,e3,e5,e6,e13,e14,e15,e16,e19,e20,rfl,(chk_rng h101),N,M,hC.sE [2,3,4,5,6,7,8,9,10],lN hl1⟩
 replace hb:=tf hq60 hb
 refine Wc.exit rfl ?_
 obtain rfl:=os hb
 obtain rfl:=(lX hl1).symm
 exact hK52 _ _ ⟨B,c,d,f,g,c.length,j,l,d.length,o,e1,e2,e3,e5,e6,e13,e14,e15,e16,e19,e20,e21,R,N,M,hC.sE [0,1,2,3,4,5,6,7,8],hbK1⟩
 clear hb hC hl1
 rintro E103 w102 ⟨B,c,d,f,g,J,j,l,K,o,e1,e2,e3,e5,e6,e13,e14,e15,e16,e19,e20,e21,R,N,M,hC,hb⟩
 obtain ⟨rfl,S,T⟩:=(hC.ow (i:=6) rfl).sl_len
 obtain ⟨rfl,U,V⟩:=(hC.ow (i:=7) rfl).sl_len
 refine hK47 _ _<|rg<|lp _ (pu_move e3)<|lv (.agg #[.slice g c.length j,.slice l d.length o,iv f]) (ld_blk (hC.bx (i:=5) rfl) isAgg127 sizeOf127 e6) ?_
 replace hC:=hC.freeze (i:=6) rfl (hC.own_new (i:=6) rfl)
 replace hC:=hC.freeze (i:=7) rfl (hC.own_new (i:=7) rfl)
 refine lex.op (hC.lit (s:=(.pr (.sl si) (.pr (.sl si) si))) (vs:=[.agg #[.slice g c.length j,.slice l d.length o,iv f]]) (xs:=[(c,(d,f))]) underlying124 type127 rfl rfl (nb rfl) rfl rfl (by simp [Value.cells,Sh.n]) rfl (show Elems _ _ (.pr (.sl si) (.pr (.sl si) si)) ([.slice g c.length j,.slice l d.length o,iv f]++([])) ([(c,(d,f))]:List ((List Int)×((List Int)×Int))) from Elems.cons (⟨[.slice g c.length j],[.slice l d.length o,iv f],rfl,hC.rd (i:=6) rfl,⟨[.slice l d.length o],[iv f],rfl,hC.rd (i:=7) rfl,⟨rfl,I64.wr N⟩⟩⟩) (Elems.nil _ _ _))) ?_
 rintro _ w108 ⟨A104,c105,rfl,hl106,hc107,hC,-,-⟩
 obtain ⟨u110,h111,hb⟩:=bd hb
 refine lex.op (hC.app (i:=4) (s:=(.pr (.sl si) (.pr (.sl si) si))) (xs:=p) (ys:=([(c,(d,f))]:List ((List Int)×((List Int)×Int)))) (m:=((([(c,(d,f))]:List ((List Int)×((List Int)×Int)))).length)) rfl underlying124 underlying124 type127 rfl rfl rfl (hC.srco (i:=0) rfl) rfl rfl (by have:=lim_some h111; simp at this⊢ <;>omega) (by decide)) ?_
 rintro _ w116 ⟨A112,c113,rfl,hl114,hc115,hC,-,-⟩
 refine lp (.slice A112 ((p++([(c,(d,f))]:List ((List Int)×((List Int)×Int)))).length) c113) (pu_assign rfl)<|ln (hK30 _ _ ?_)
 refine rg ?_
 obtain ⟨z117,h118,hb⟩:=bd hb
 refine lp (iv z117) (pu_addc (a:=y) (b:=1) e15 rfl h118)<|lp (iv z117) (pu_move rfl)<|ln ?_
 obtain rfl:=os hb
 exact hK22 m23' _ _ (Nat.lt_succ_self _) ⟨(p++([(c,(d,f))]:List ((List Int)×((List Int)×Int)))),z117,A112,(p++([(c,(d,f))]:List ((List Int)×((List Int)×Int)))).length,c113,e1,e2,rfl,e13,e14,rfl,(chk_rng h118),(fun h=>absurd h (by simp)),hC.sE [1,2,3,4,9],lN hl0⟩
 replace hb:=tf hq29 hb
 refine Wc.exit rfl ?_
 obtain rfl:=os hb
 obtain rfl:=(lX hl0).symm
 exact hK21 _ _ ⟨p,y,q,p.length,z,e2,e3,Q,a2,hC.sE [3],hbK0⟩
 clear hb hC hl0
 rintro E120 w119 ⟨p,y,q,P,z,e2,e3,Q,a2,hC,hb⟩
 subst hf20
 obtain ⟨rfl,a3,a4⟩:=(hC.ow (i:=0) rfl).sl_len
 refine hK8 _ _<|Wc.seq fun _ hK121=>rg<|lp _ (pu_move e3) ?_
 replace hC:Cx (fun _=>False) O0 w w119 ([.own 127 (.pr (.sl si) (.pr (.sl si) si)) (.slice q p.length z) p]++([]:List Fact)):=hC.sE [0]
 obtain ⟨y122,h123,hb⟩:=bd hb
 refine lex.cl (⟨_,_,op_call (vs:=[.slice q p.length z,.func (.func 106) #[] #[]]) call105 rfl rfl rfl,slices_SortStableFunc_piece_piece_canon_pieces_c1_ok n hC.lt hC.give h123⟩) ?_
 rintro _ w124 ⟨rfl,hK⟩
 replace hC:=hC.back hK
 clear hK
 refine ln (hK121 _ _ ?_)
 refine Wc.seq fun _ hK125=>rg<|lp _ (pu_move e3)<|lp (.slice q p.length z) (pu_assign rfl)<|ln (hK125 _ _ ?_)
 obtain rfl:=os hb
 refine Wc.ret (hKR _ _ ?_)
 refine ⟨_,res1 results98 (tV (.slice q p.length z) rfl),_,rfl,q,p.length,z,rfl,hC.sE [0]⟩
end Go.Proofs.Yteajmbanlohncaa
