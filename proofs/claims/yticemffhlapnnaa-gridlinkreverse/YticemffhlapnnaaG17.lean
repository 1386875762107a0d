import Derived.Test.YticemffhlapnnaaS
import Derived.Test.YticemffhlapnnaaG0
set_option linter.unusedVariables false
set_option linter.unusedSimpArgs false
namespace Go.Proofs.Yticemffhlapnnaa
open Ev Try
set_option maxRecDepth 100000
set_option maxHeartbeats 4000000
theorem slices_Clone_Lint_int_ok (n:Nat) {w:World} {O0:List Nat} (hO: ∀k∈O0,k<w.heap.size) {a:Option Addr} {d c:Nat} {b:List Int} (f:Rep O0 w (.sl si) [.slice a d c] b) {r:(List Int)} (hb:F.slices_Clone_Lint_int n b=some r):
    Calls prog 48 #[.slice a d c] w fun e w'=> ∃v,e=.returned v∧∃(A0:Option Addr) (m0 c0:Nat),v=.slice A0 m0 c0∧Cx (fun _=>False) O0 w w' [.own 3 si (.slice A0 m0 c0) r]:=by
 unfold F.slices_Clone_Lint_int at hb
 have hC:=Cx.start hO
 replace hC:=hC.arg rfl f
 clear hO
 obtain ⟨rfl,g,h⟩:=f.sl_len
 refine calls_of_Wc func48 rfl (by rw [ntmps48]; exact nb rfl) fun KR hKR=>?_
 refine Wc.seq fun _ hK2=>rg<|lp (.slice none 0 0) (pu_assign rfl)<|ln (hK2 _ _ ?_)
 refine Wc.seq fun _ hK3=>?_
 refine Wc.seq fun _ hK4=>rg<|lp (.slice a b.length c) (pu_move rfl)<|lp (.bool a.isNone) (pu_eqlnil underlying22 rfl rfl)<|ln (hK4 _ _ ?_)
 refine Wc.cond (t:=a.isNone) (rfl) (fun hq5=>?_) (fun hq5=>?_)
 have hz:a=none:=by simpa using hq5
 have hx:=(hC.rd (i:=0) rfl).none_nil' hz
 replace hb:some ([])=some r:=by have hb2:=hb; rw [hx] at hb2; first | exact hb2 | simpa [lim] using hb2
 refine Wc.seq fun _ hK7=>rg<|lp (.slice none 0 0) (pu_assign rfl)<|ln (hK7 _ _ ?_)
 replace hC:=hC.nil 3 si
 obtain rfl:=os hb
 refine Wc.ret (hKR _ _ ?_)
 refine ⟨_,res1 results48 (tV (.slice none 0 0) rfl),_,rfl,none,0,0,rfl,hC.sE [0]⟩
 refine Wc.skip (hK3 _ _ ?_)
 refine Wc.seq fun _ hK9=>rg<|lex.op (hC.lit (s:=si) (vs:=[]) (xs:=[]) underlying22 type3 rfl rfl (nb rfl) rfl rfl (by simp [Value.cells,Sh.n]) rfl (show Elems _ _ si ([]) ([]:List Int) from Elems.nil _ _ _)) ?_
 rintro _ w14 ⟨A10,c11,rfl,hl12,hc13,hC,-,-⟩
 refine lp (.slice a b.length c) (pu_move rfl) ?_
 obtain ⟨u16,h17,hb⟩:=bd hb
 refine lex.op (hC.app (i:=0) (s:=si) (xs:=([]:List Int)) (ys:=b) (m:=b.length) rfl underlying22 underlying22 type3 rfl rfl rfl (hC.srcr (i:=1) rfl) rfl rfl (by have:=lim_some h17; simp at this⊢ <;>omega) (by decide)) ?_
 rintro _ w22 ⟨A18,c19,rfl,hl20,hc21,hC,-,-⟩
 refine lp (.slice A18 ((([]:List Int)++b).length) c19) (pu_assign rfl)<|ln (hK9 _ _ ?_)
 obtain rfl:=os hb
 refine Wc.ret (hKR _ _ ?_)
 refine ⟨_,res1 results48 (tV (.slice A18 ((([]:List Int)++b).length) c19) rfl),_,rfl,A18,(([]:List Int)++b).length,c19,rfl,hC.sE [0]⟩

theorem gridlink_Reverse_ok (n:Nat) {w:World} {O0:List Nat} (hO: ∀k∈O0,k<w.heap.size) {a:Option Addr} {h b:Nat} {f:List Int} (j:Rep O0 w (.sl si) [.slice a h b] f) {c:Option Addr} {l d:Nat} {g:List Int} (m:Rep O0 w (.sl si) [.slice c l d] g) {r:(List Int)×(List Int)×Int} (hb:F.gridlink_Reverse n f g=some r):
    Calls prog 23 #[.agg #[.slice a h b,.slice c l d]] w fun e w'=> ∃v,e=.returned v∧∃(A0:Option Addr) (m0 c0:Nat) (A1:Option Addr) (m1 c1:Nat),v=.tuple #[.agg #[.slice A0 m0 c0,.slice A1 m1 c1],iv r.2.2]∧I64 r.2.2∧Cx (fun _=>False) O0 w w' [.own 3 si (.slice A0 m0 c0) r.1,.own 3 si (.slice A1 m1 c1) r.2.1]:=by
 unfold F.gridlink_Reverse at hb
 have hC:=Cx.start hO
 replace hC:=hC.arg rfl j
 replace hC:=hC.arg rfl m
 clear hO
 obtain ⟨rfl,o,p⟩:=j.sl_len
 obtain ⟨rfl,s,u⟩:=m.sl_len
 refine calls_of_Wc func23 rfl (by rw [ntmps23]; exact nb rfl) fun KR hKR=>?_
 refine Wc.seq fun _ hK3=>rg<|lex.op (hC.box (cs:=[.slice a f.length b,.slice c g.length d]) rfl rfl) ?_
 rintro _ w5 ⟨g4,rfl,hC,hF,-⟩
 refine lex.op (hC.alloc (cs:=[.slice none 0 0,.slice none 0 0]) zeroValue24 rfl) ?_
 rintro _ w8 ⟨g7,rfl,hC,hF,-⟩
 refine lp (iv 0) (pu_assign rfl)<|ln (hK3 _ _ ?_)
 refine Wc.seq fun _ hK10=>?_
 refine Wc.seq fun _ hK11=>rg<|lv (.agg #[.slice a f.length b,.slice c g.length d]) (ld_blk (hC.bx (i:=1) rfl) isAgg24 sizeOf24 rfl) ?_
 obtain ⟨y12,h13,hb⟩:=bd hb
 refine lex.cl (⟨_,_,op_call (vs:=[.agg #[.slice a f.length b,.slice c g.length d]]) call26 rfl rfl rfl,grid_Valid_ok n hC.lt (hC.rd (i:=3) rfl) (hC.rd (i:=2) rfl) h13⟩) ?_
 rintro _ w14 ⟨rfl,hK⟩
 replace hC:=hC.merge hK
 clear hK
 refine lp (.bool (!y12)) (pu_not (q:=y12) rfl)<|ln (hK11 _ _ ?_)
 refine Wc.cond (t:=(!y12)) (rfl) (fun hq15=>?_) (fun hq15=>?_)
 replace hb:=tt hq15 hb
 refine Wc.seq fun _ hK16=>rg<|lp (.agg #[.slice none 0 0,.slice none 0 0]) (pu_builds (places:=[(0,1),(1,1)]) (pv:=[]) type24 underlying24 rfl (mp_cons type22 (mp_cons type22 mp_nil rfl rfl) rfl rfl) rfl (by simp [Instr.fill,Value.cells]))<|lex.sk (hC.seta (i:=0) (ds:=[.slice none 0 0,.slice none 0 0]) rfl type24 rfl rfl rfl rfl rfl) ?_
 rintro w17 ⟨hC,hF⟩
 refine lp (iv 1) (pu_assign rfl)<|ln (hK16 _ _ ?_)
 replace hC:=hC.nil 3 si
 replace hC:=hC.nil 3 si
 obtain rfl:=os hb
 refine Wc.ret (hKR _ _ ?_)
 refine ⟨_,res2 results23 ⟨_,rfl,loadVar_blk (hC.bx (i:=2) rfl) isAgg24 sizeOf24⟩ (tV (iv 1) rfl),_,rfl,none,0,0,none,0,0,rfl,(show I64 1 from by unfold I64; omega),hC.sE [1,0]⟩
 replace hb:=tf hq15 hb
 refine Wc.skip (hK10 _ _ ?_)
 refine Wc.seq fun _ hK20=>?_
 refine Wc.regionMix [9,12] (frm [9,12] ([]:List Fact) [.box g7 24 [.slice none 0 0,.slice none 0 0]]) (fun _=>rfl) mixed (by decide+kernel) (by decide+kernel) fun w22 hw21=>?_
 replace hC:=hC.step (Fr.of_drew hw21)
 have hM:=Fr.refl (fun k=>k∈blocks ([]:List Fact)) w22
 clear hw21
 have hS:=hC
 have hD:Fr (fun k=>k∈blocks (([]:List Fact)++[.box g7 24 [.slice none 0 0,.slice none 0 0]])) w22 w22:=hM.wide
 have hUf9:g7<w22.heap.size→g7∈blocks (([]:List Fact)++[.box g7 24 [.slice none 0 0,.slice none 0 0]]):=fun _=>box_in (i:=0) rfl
 refine mp (.pointer (some ((⟨g4,0,none⟩:Addr).add 1))) (pu_field (sz:=1) underlying24 rfl sizeOf22 (by decide) rfl rfl)<|mixE.steady hD (v:=.slice c g.length d) (fun _ hF=>ld_fld (hS.bx2 (i:=1) rfl [0] (by decide) hF) isAgg22 rfl rfl) ?_
 obtain ⟨y23,h24,hb⟩:=bd hb
 refine mixE.cl hM (⟨_,_,op_call (vs:=[.slice c g.length d]) call48 rfl rfl rfl,slices_Clone_Lint_int_ok n hC.lt (hC.rd (i:=2) rfl) h24⟩) ?_
 rintro _ w29 ⟨A25,m26,c27,rfl,hK⟩
 have hBf28:=Beside.cl (i:=0) hM hK rfl
 have hUf28:=hBf28.wide (H:=[.box g7 24 [.slice none 0 0,.slice none 0 0]])
 replace hM:=hM.none hK.fr
 replace hD:=hM.wide (H:=[.box g7 24 [.slice none 0 0,.slice none 0 0]])
 refine ⟨hM,?_⟩
 replace hC:=hC.merge hK
 clear hK
 obtain ⟨rfl,hl30,hc31⟩:=(hC.ow (i:=0) rfl).sl_len
 refine mp (.pointer (some ((⟨g4,0,none⟩:Addr).add 0))) (pu_field (sz:=1) underlying24 rfl sizeOf22 (by decide) rfl rfl)<|mixE.steady hD (v:=.slice a f.length b) (fun _ hF=>ld_fld (hS.bx2 (i:=1) rfl [0] (by decide) hF) isAgg22 rfl rfl) ?_
 obtain ⟨y32,h33,hb⟩:=bd hb
 refine mixE.cl hM (⟨_,_,op_call (vs:=[.slice a f.length b]) call48 rfl rfl rfl,slices_Clone_Lint_int_ok n hC.lt (hC.rd (i:=4) rfl) h33⟩) ?_
 rintro _ w38 ⟨A34,m35,c36,rfl,hK⟩
 have hBf37:=Beside.cl (i:=0) hM hK rfl
 have hUf37:=hBf37.wide (H:=[.box g7 24 [.slice none 0 0,.slice none 0 0]])
 replace hM:=hM.none hK.fr
 replace hD:=hM.wide (H:=[.box g7 24 [.slice none 0 0,.slice none 0 0]])
 refine ⟨hM,?_⟩
 replace hC:=hC.merge hK
 clear hK
 obtain ⟨rfl,hl39,hc40⟩:=(hC.ow (i:=0) rfl).sl_len
 refine mp (.agg #[.slice A25 y23.length c27,.slice A34 y32.length c36]) (pu_builds (places:=[(0,1),(1,1)]) (pv:=[(0,.slice A25 y23.length c27),(1,.slice A34 y32.length c36)]) type24 underlying24 rfl (mp_cons type22 (mp_cons type22 mp_nil rfl rfl) rfl rfl) rfl (by simp [Instr.fill,Value.cells]))<|mixE.sk hD (hC.seta (i:=2) (ds:=[.slice A25 y23.length c27,.slice A34 y32.length c36]) rfl type24 rfl rfl rfl rfl rfl) ?_
 rintro w41 ⟨hC,hF⟩
 replace hD:=hD.besideG hUf9 hF
 clear hF
 refine ⟨hD,?_⟩
 refine mp (iv 0) (pu_assign rfl)<|mixE.nil ?_
 clear hS hM
 clear hD
 refine hK20 _ _ ?_
 obtain rfl:=os hb
 refine Wc.ret (hKR _ _ ?_)
 refine ⟨_,res2 results23 ⟨_,rfl,loadVar_blk (hC.bx (i:=2) rfl) isAgg24 sizeOf24⟩ (tV (iv 0) rfl),_,rfl,A25,y23.length,c27,A34,y32.length,c36,rfl,(show I64 0 from by unfold I64; omega),hC.sE [1,0]⟩

theorem slices_Reverse_Lint_int_ok (n:Nat) {w:World} {O0:List Nat} (hO: ∀k∈O0,k<w.heap.size) {g:Option Addr} {l f:Nat} {h:List Int} (hio:Tk O0 w [.own 3 si (.slice g l f) h]) {r:(List Int)} (hb:F.slices_Reverse_Lint_int n h=some r):
    Calls prog 49 #[.slice g l f] w fun e w'=> ∃v,e=.returned v∧v=.tuple #[]∧Cx (fun k=>k∈blocks [.own 3 si (.slice g l f) h]) O0 w w' [.own 3 si (.slice g l f) r]:=by
 unfold F.slices_Reverse_Lint_int at hb
 have hC:=Cx.startTk hO hio
 have hsub:=hio.2.2
 clear hO
 obtain ⟨rfl,q,s⟩:=(hC.ow (i:=0) rfl).sl_len
 clear hio hsub
 obtain ⟨I,hI,hC⟩: ∃I:Nat→Prop,I=(fun k=>k∈blocks [.own 3 si (.slice g h.length f) h])∧Cx I O0 w w ([.own 3 si (.slice g h.length f) h]):=⟨_,rfl,hC⟩
 refine calls_of_Wc func49 rfl (by rw [ntmps49]; exact nb rfl) fun KR hKR=>?_
 refine Wc.seq fun _ hK2=>rg<|lp (.slice g h.length f) (pu_move rfl)<|lp (iv (h.length:Int)) (pu_len (A:=g) (n:=h.length) (m:=f) underlying22 rfl) ?_
 obtain ⟨z3,h4,hb⟩:=bd hb
 refine lp (iv z3) (pu_subc (a:=(h.length:Int)) (b:=1) rfl rfl h4)<|lp (iv 0) (pu_assign rfl)<|lp (iv z3) (pu_assign rfl)<|ln (hK2 _ _ ?_)
 obtain ⟨o5,hl0,hb⟩:=bd hb
 refine Wc.cut (fun E wv=> ∃(c:Int) (d:Int) (j:List Int),I64 c∧I64 d∧Cx I O0 w wv [.own 3 si (.slice g h.length f) j]∧(some j:Option ((List Int)))=some r) (fun _ hK6=>?_) ?_
 refine Wc.block ?_
 refine Wc.loop (fun m E wv=> ∃(c:Int) (d:Int) (j:List Int),E 0=.slice g h.length f∧E 2=iv c∧E 3=iv d∧I64 c∧I64 d∧Cx I O0 w wv [.own 3 si (.slice g h.length f) j]∧loopN m (F.slices_Reverse_Lint_int_b0 n) (c,d,j)=some o5) n ⟨0,z3,h,rfl,rfl,rfl,(show I64 0 from by unfold I64; omega),(chk_rng h4),hC.sE [0],hl0⟩ ?_
 have hbK0:=hb
 clear hb hC hl0
 rintro m8 E10 w9 ⟨c,d,j,e0,e2,e3,o,p,hC,hl0⟩ K7 hK7
 obtain ⟨m8',o11,rfl,hb,hl0⟩:=loopN_some hl0
 unfold F.slices_Reverse_Lint_int_b0 at hb
 refine Wc.seq fun _ hK12=>?_
 refine Wc.seq fun _ hK13=>rg<|lp _ (pu_move e2)<|lp _ (pu_move e3)<|lp (.bool (decide (c<d))) (pu_lss (k:=.i64) (a:=c) (b:=d) rfl rfl)<|ln (hK13 _ _ ?_)
 refine Wc.cond (t:=(decide (c<d))) (rfl) (fun hq14=>?_) (fun hq14=>?_)
 replace hb:=tt hq14 hb
 refine Wc.skip (hK12 _ _ ?_)
 refine Wc.seq fun _ hK15=>?_
 refine Wc.block ?_
 refine Wc.regionMix [] (frm [] ([]:List Fact) [.own 3 si (.slice g h.length f) j]) (fun _=>rfl) mixed (by decide+kernel) (by decide+kernel) fun w17 hw16=>?_
 replace hC:=hC.step (Fr.of_drew hw16)
 have hM:=Fr.refl (fun k=>k∈blocks ([]:List Fact)) w17
 clear hw16
 have hS:=hC
 have hD:Fr (fun k=>k∈blocks (([]:List Fact)++[.own 3 si (.slice g h.length f) j])) w17 w17:=hM.wide
 have hUf1:Beside (([]:List Fact)++[.own 3 si (.slice g h.length f) j]) w17 (.slice g h.length f):=Beside.of (i:=0) rfl
 refine mp (.slice g h.length f) (pu_move e0)<|mp (iv c) (pu_move e2)<|mp (.slice g h.length f) (pu_move e0)<|mp (iv d) (pu_move e3)<|mp (.slice g h.length f) (pu_move e0)<|mp (iv d) (pu_move e3) ?_
 obtain ⟨x18,h19,hb⟩:=bd hb
 obtain ⟨ad20,cs21,hA,ho24,hc22,hr23⟩:=hS.elo2 (i:=0) rfl (get_some h19).2 [] (by decide)
 subst hA
 refine mp (.pointer (some (ad20.add (d.toNat*1)))) (pu_index (a:=d) underlying22 sizeOf3 rfl rfl (by rw [(hC.ow (i:=0) rfl).sl_len.1]; exact (get_some h19).1)) ?_
 obtain ⟨rfl,hr23'⟩:=hr23
 refine mixE.load hM (v:=iv x18) (fun _ hF=>ld_one isAgg3 rfl (hF.cell (hc22 0 _ rfl) (off1 ho24)))<|mp (.slice (some ad20) h.length f) (pu_move e0)<|mp (iv c) (pu_move e2) ?_
 obtain ⟨x25,h26,hb⟩:=bd hb
 obtain ⟨ad27,cs28,hA,ho31,hc29,hr30⟩:=hS.elo2 (i:=0) rfl (get_some h26).2 [] (by decide)
 obtain rfl:=Option.some.inj hA
 refine mp (.pointer (some (ad20.add (c.toNat*1)))) (pu_index (a:=c) underlying22 sizeOf3 rfl rfl (by rw [(hC.ow (i:=0) rfl).sl_len.1]; exact (get_some h26).1)) ?_
 obtain ⟨rfl,hr30'⟩:=hr30
 refine mixE.load hM (v:=iv x25) (fun _ hF=>ld_one isAgg3 rfl (hF.cell (hc29 0 _ rfl) (off1 ho31))) ?_
 obtain ⟨x32,h33,hb⟩:=bd hb
 obtain ⟨ad34,cs35,hA,ho38,hc36,hr37⟩:=hS.elo2 (i:=0) rfl (get_some h33).2 [] (by decide)
 obtain rfl:=Option.some.inj hA
 refine mp (.pointer (some (ad20.add (c.toNat*1)))) (pu_index (a:=c) underlying22 sizeOf3 rfl rfl (by rw [(hC.ow (i:=0) rfl).sl_len.1]; exact (get_some h33).1))<|mixE.sk hD (hC.put (i:=0) rfl rfl sizeOf3 (k:=c.toNat) (a:=x18) (by have:=(get_some h33).1; simp at this⊢; omega) (⟨rfl,I64.wr (wrap_I64 hr23')⟩) rfl rfl rfl) ?_
 rintro w39 ⟨hC,hF⟩
 replace hD:=hD.beside hUf1 hF
 clear hF
 refine ⟨hD,?_⟩
 obtain ⟨x40,h41,hb⟩:=bd hb
 obtain ⟨ad42,cs43,hA,hc44,hr45⟩:=hC.elo (i:=0) rfl (get_some h41).2
 obtain rfl:=Option.some.inj hA
 refine mp (.pointer (some (ad20.add (d.toNat*1)))) (pu_index (a:=d) underlying22 sizeOf3 rfl rfl (by rw [(hC.ow (i:=0) rfl).sl_len.1]; exact (get_some h41).1))<|mixE.sk hD (hC.put (i:=0) rfl rfl sizeOf3 (k:=d.toNat) (a:=x25) (by have:=(get_some h41).1; simp at this⊢; omega) (⟨rfl,I64.wr (wrap_I64 hr30')⟩) rfl rfl rfl) ?_
 rintro w46 ⟨hC,hF⟩
 replace hD:=hD.beside hUf1 hF
 clear hF
 refine ⟨hD,?_⟩
 refine mixE.nil ?_
 clear hS hM
 clear hD
 refine hK15 _ _<|Wc.fresh fun E47 hE=>?_
 have e0:=cg hE 0 e0
 have e2:=cg hE 2 e2
 have e3:=cg hE 3 e3
 have e9:E47 9=.bool (decide (c<d)):=cg hE 9 rfl
 clear hE
 refine rg<|lp _ (pu_move e2) ?_
 obtain ⟨z48,h49,hb⟩:=bd hb
 refine lp (iv z48) (pu_addc (a:=c) (b:=1) rfl rfl h49)<|lp _ (pu_move e3) ?_
 obtain ⟨z50,h51,hb⟩:=bd hb
 refine lp (iv z50) (pu_subc (a:=d) (b:=1) rfl rfl h51)<|lp (iv z48) (pu_assign rfl)<|lp (iv z50) (pu_assign rfl)<|ln ?_
 obtain rfl:=os hb
 exact hK7 m8' _ _ (Nat.lt_succ_self _) ⟨z48,z50,((j.set c.toNat x18).set d.toNat x25),e0,rfl,rfl,(chk_rng h49),(chk_rng h51),hC.sE [0],lN hl0⟩
 replace hb:=tf hq14 hb
 refine Wc.exit rfl ?_
 obtain rfl:=os hb
 obtain rfl:=(lX hl0).symm
 exact hK6 _ _ ⟨c,d,j,o,p,hC.sE [0],hbK0⟩
 clear hb hC hl0
 rintro E53 w52 ⟨c,d,j,o,p,hC,hb⟩
 obtain rfl:=os hb
 subst hI
 refine hKR _ _ ?_
 refine ⟨_,res0 results49,_,rfl,rfl,hC.sE [0]⟩

theorem gridlink_Reflect_ok (n:Nat) {w:World} {O0:List Nat} (hO: ∀k∈O0,k<w.heap.size) {f:Option Addr} {j g:Nat} {b:List Int} (l:Rep O0 w (.sl si) [.slice f j g] b) {c:Option Addr} {m d:Nat} {a:List Int} (o:Rep O0 w (.sl si) [.slice c m d] a) {r:(List Int)×(List Int)×Int} (hb:F.gridlink_Reflect n b a=some r):
    Calls prog 24 #[.agg #[.slice f j g,.slice c m d]] w fun e w'=> ∃v,e=.returned v∧∃(A0:Option Addr) (m0 c0:Nat) (A1:Option Addr) (m1 c1:Nat),v=.tuple #[.agg #[.slice A0 m0 c0,.slice A1 m1 c1],iv r.2.2]∧I64 r.2.2∧Cx (fun _=>False) O0 w w' [.own 3 si (.slice A0 m0 c0) r.1,.own 3 si (.slice A1 m1 c1) r.2.1]:=by
 unfold F.gridlink_Reflect at hb
 have hC:=Cx.start hO
 replace hC:=hC.arg rfl l
 replace hC:=hC.arg rfl o
 clear hO
 obtain ⟨rfl,p,s⟩:=l.sl_len
 obtain ⟨rfl,u,x⟩:=o.sl_len
 refine calls_of_Wc func24 rfl (by rw [ntmps24]; exact nb rfl) fun KR hKR=>?_
 refine Wc.seq fun _ hK3=>rg<|lex.op (hC.box (cs:=[.slice f b.length g,.slice c a.length d]) rfl rfl) ?_
 rintro _ w5 ⟨g4,rfl,hC,hF,-⟩
 refine lex.op (hC.alloc (cs:=[.slice none 0 0,.slice none 0 0]) zeroValue24 rfl) ?_
 rintro _ w8 ⟨g7,rfl,hC,hF,-⟩
 refine lp (iv 0) (pu_assign rfl)<|ln (hK3 _ _ ?_)
 refine Wc.seq fun _ hK10=>?_
 refine Wc.seq fun _ hK11=>rg<|lv (.agg #[.slice f b.length g,.slice c a.length d]) (ld_blk (hC.bx (i:=1) rfl) isAgg24 sizeOf24 rfl) ?_
 obtain ⟨y12,h13,hb⟩:=bd hb
 refine lex.cl (⟨_,_,op_call (vs:=[.agg #[.slice f b.length g,.slice c a.length d]]) call26 rfl rfl rfl,grid_Valid_ok n hC.lt (hC.rd (i:=3) rfl) (hC.rd (i:=2) rfl) h13⟩) ?_
 rintro _ w14 ⟨rfl,hK⟩
 replace hC:=hC.merge hK
 clear hK
 refine lp (.bool (!y12)) (pu_not (q:=y12) rfl)<|ln (hK11 _ _ ?_)
 refine Wc.cond (t:=(!y12)) (rfl) (fun hq15=>?_) (fun hq15=>?_)
 replace hb:=tt hq15 hb
 refine Wc.seq fun _ hK16=>rg<|lp (.agg #[.slice none 0 0,.slice none 0 0]) (pu_builds (places:=[(0,1),(1,1)]) (pv:=[]) type24 underlying24 rfl (mp_cons type22 (mp_cons type22 mp_nil rfl rfl) rfl rfl) rfl (by simp [Instr.fill,Value.cells]))<|lex.sk (hC.seta (i:=0) (ds:=[.slice none 0 0,.slice none 0 0]) rfl type24 rfl rfl rfl rfl rfl) ?_
 rintro w17 ⟨hC,hF⟩
 refine lp (iv 1) (pu_assign rfl)<|ln (hK16 _ _ ?_)
 replace hC:=hC.nil 3 si
 replace hC:=hC.nil 3 si
 obtain rfl:=os hb
 refine Wc.ret (hKR _ _ ?_)
 refine ⟨_,res2 results24 ⟨_,rfl,loadVar_blk (hC.bx (i:=2) rfl) isAgg24 sizeOf24⟩ (tV (iv 1) rfl),_,rfl,none,0,0,none,0,0,rfl,(show I64 1 from by unfold I64; omega),hC.sE [1,0]⟩
 replace hb:=tf hq15 hb
 refine Wc.skip (hK10 _ _ ?_)
 refine Wc.seq fun _ hK20=>?_
 refine Wc.regionPlan [10,13] (frm [10,13] ([]:List Fact) ([]:List Fact)) (chainP [0,1,3,4] (.alt (chainP [2] (.alt (chainP [5] (chainP [6,7,8] .done)) (chainP [7] (chainP [5,6,8] .done)))) (chainP [7] (chainP [2,5,6,8] .done)))) (fun _=>rfl) mixed (by decide+kernel) (by decide+kernel) fun w22 hw21=>?_
 replace hC:=hC.step (Fr.of_drew hw21)
 have hM:=Fr.refl (fun k=>k∈blocks ([]:List Fact)) w22
 clear hw21
 have hS:=hC
 have hD:Fr (fun k=>k∈blocks (([]:List Fact)++([]:List Fact))) w22 w22:=hM.wide
 refine mixPE_chain ?_
 refine mp (.pointer (some ((⟨g4,0,none⟩:Addr).add 0))) (pu_field (sz:=1) underlying24 rfl sizeOf22 (by decide) rfl rfl)<|mixE.steady hD (v:=.slice f b.length g) (fun _ hF=>ld_fld (hS.bx2 (i:=1) rfl [] (by decide) hF) isAgg22 rfl rfl)<|mp (.pointer (some ((⟨g4,0,none⟩:Addr).add 1))) (pu_field (sz:=1) underlying24 rfl sizeOf22 (by decide) rfl rfl)<|mixE.steady hD (v:=.slice c a.length d) (fun _ hF=>ld_fld (hS.bx2 (i:=1) rfl [] (by decide) hF) isAgg22 rfl rfl)<|mixE.nil ?_
 refine mixPE_alt ?_ ?_
 refine mixPE_chain ?_
 obtain ⟨y23,h24,hb⟩:=bd hb
 refine mixE.cl hM (⟨_,_,op_call (vs:=[.slice f b.length g]) call48 rfl rfl rfl,slices_Clone_Lint_int_ok n hC.lt (hC.rd (i:=3) rfl) h24⟩) ?_
 rintro _ w29 ⟨A25,m26,c27,rfl,hK⟩
 have hBf28:=Beside.cl (i:=0) hM hK rfl
 have hUf28:=hBf28.wide (H:=([]:List Fact))
 replace hM:=hM.none hK.fr
 replace hD:=hM.wide (H:=([]:List Fact))
 refine ⟨hM,?_⟩
 replace hC:=hC.merge hK
 clear hK
 obtain ⟨rfl,hl30,hc31⟩:=(hC.ow (i:=0) rfl).sl_len
 refine mixE.nil ?_
 refine mixPE_alt ?_ ?_
 refine mixPE_chain ?_
 obtain ⟨y32,h33,hb⟩:=bd hb
 refine mixE.cl hM (⟨_,_,op_call (vs:=[.slice c a.length d]) call48 rfl rfl rfl,slices_Clone_Lint_int_ok n hC.lt (hC.rd (i:=3) rfl) h33⟩) ?_
 rintro _ w38 ⟨A34,m35,c36,rfl,hK⟩
 have hBf37:=Beside.cl (i:=0) hM hK rfl
 have hUf37:=hBf37.wide (H:=([]:List Fact))
 replace hM:=hM.none hK.fr
 replace hD:=hM.wide (H:=([]:List Fact))
 refine ⟨hM,?_⟩
 replace hC:=hC.merge hK
 clear hK
 obtain ⟨rfl,hl39,hc40⟩:=(hC.ow (i:=0) rfl).sl_len
 refine mixE.nil ?_
 refine mixPE_chain ?_
 refine mp (.agg #[.slice A25 y23.length c27,.slice A34 y32.length c36]) (pu_builds (places:=[(0,1),(1,1)]) (pv:=[(0,.slice A25 y23.length c27),(1,.slice A34 y32.length c36)]) type24 underlying24 rfl (mp_cons type22 (mp_cons type22 mp_nil rfl rfl) rfl rfl) rfl (by simp [Instr.fill,Value.cells]))<|mixE.op hM (hC.alloc (cs:=[.slice none 0 0,.slice none 0 0]) zeroValue24 rfl) ?_
 rintro _ w42 ⟨g41,rfl,hC,hF,hG⟩
 have hUf43:g41<w22.heap.size→g41∈blocks (([]:List Fact)++([]:List Fact)):=fun h=>absurd (Nat.lt_of_lt_of_le h (Nat.le_trans hM.size hG)) (Nat.lt_irrefl _)
 clear hG
 replace hM:=hM.none hF
 replace hD:=hM.wide (H:=([]:List Fact))
 refine ⟨hM,?_⟩
 refine mixE.sk hD (hC.seta (i:=0) (ds:=[.slice A25 y23.length c27,.slice A34 y32.length c36]) rfl type24 rfl rfl rfl rfl rfl) ?_
 rintro w44 ⟨hC,hF⟩
 replace hD:=hD.besideG hUf43 hF
 clear hF
 refine ⟨hD,?_⟩
 refine mixE.nil ?_
 clear hS hM
 clear hD
 refine hK20 _ _<|Wc.fresh fun E45 hE=>?_
 have e2:E45 2=pg g7:=cg hE 2 rfl
 have e3:E45 3=iv 0:=cg hE 3 rfl
 have e4:E45 4=pg g41:=cg hE 4 rfl
 clear hE
 refine Wc.seq fun _ hK46=>rg<|lp (.pointer (some ((⟨g41,0,none⟩:Addr).add 0))) (pu_field (sz:=1) underlying24 rfl sizeOf22 (by decide) rfl e4)<|lv (.slice A25 y23.length c27) (ld_fld (hC.bx (i:=0) rfl) isAgg22 rfl rfl) ?_
 replace hC:Cx (fun _=>False) O0 w w44 ([.own 3 si (.slice A25 y23.length c27) y23]++[.box g41 24 [.slice A25 y23.length c27,.slice A34 y32.length c36],.own 3 si (.slice A34 y32.length c36) y32,.box g7 24 [.slice none 0 0,.slice none 0 0],.box g4 24 [.slice f b.length g,.slice c a.length d],.ro (.sl si) [.slice c a.length d] a,.ro (.sl si) [.slice f b.length g] b]):=hC.sE [2,0,1,3,4,5,6]
 obtain ⟨y47,h48,hb⟩:=bd hb
 refine lex.cl (⟨_,_,op_call (vs:=[.slice A25 y23.length c27]) call49 rfl rfl rfl,slices_Reverse_Lint_int_ok n hC.lt hC.give h48⟩) ?_
 rintro _ w49 ⟨rfl,hK⟩
 replace hC:=hC.back hK
 clear hK
 refine ln (hK46 _ _ ?_)
 refine Wc.seq fun _ hK50=>rg<|lp (.pointer (some ((⟨g41,0,none⟩:Addr).add 1))) (pu_field (sz:=1) underlying24 rfl sizeOf22 (by decide) rfl e4)<|lv (.slice A34 y32.length c36) (ld_fld (hC.bx (i:=1) rfl) isAgg22 rfl rfl) ?_
 replace hC:Cx (fun _=>False) O0 w w49 ([.own 3 si (.slice A34 y32.length c36) y32]++[.own 3 si (.slice A25 y23.length c27) y47,.box g41 24 [.slice A25 y23.length c27,.slice A34 y32.length c36],.box g7 24 [.slice none 0 0,.slice none 0 0],.box g4 24 [.slice f b.length g,.slice c a.length d],.ro (.sl si) [.slice c a.length d] a,.ro (.sl si) [.slice f b.length g] b]):=hC.sE [2,0,1,3,4,5,6]
 obtain ⟨y51,h52,hb⟩:=bd hb
 refine lex.cl (⟨_,_,op_call (vs:=[.slice A34 y32.length c36]) call49 rfl rfl rfl,slices_Reverse_Lint_int_ok n hC.lt hC.give h52⟩) ?_
 rintro _ w53 ⟨rfl,hK⟩
 replace hC:=hC.back hK
 clear hK
 refine ln (hK50 _ _ ?_)
 refine Wc.seq fun _ hK54=>rg<|lv (.agg #[.slice A25 y23.length c27,.slice A34 y32.length c36]) (ld_blk (hC.bx (i:=2) rfl) isAgg24 sizeOf24 e4)<|lex.sk (hC.seta (i:=3) (ds:=[.slice A25 y23.length c27,.slice A34 y32.length c36]) rfl type24 rfl rfl rfl e2 rfl) ?_
 rintro w55 ⟨hC,hF⟩
 refine lp (iv 0) (pu_assign rfl)<|ln (hK54 _ _ ?_)
 obtain rfl:=os hb
 refine Wc.ret (hKR _ _ ?_)
 refine ⟨_,res2 results24 ⟨_,e2,loadVar_blk (hC.bx (i:=3) rfl) isAgg24 sizeOf24⟩ (tV (iv 0) rfl),_,rfl,A25,y23.length,c27,A34,y32.length,c36,rfl,(show I64 0 from by unfold I64; omega),hC.sE [1,0]⟩
 refine mixPE_chain ?_
 refine mixE.op hM (hC.alloc (cs:=[.slice none 0 0,.slice none 0 0]) zeroValue24 rfl) ?_
 rintro _ w57 ⟨g56,rfl,hC,hF,hG⟩
 have hUf58:g56<w22.heap.size→g56∈blocks (([]:List Fact)++([]:List Fact)):=fun h=>absurd (Nat.lt_of_lt_of_le h (Nat.le_trans hM.size hG)) (Nat.lt_irrefl _)
 clear hG
 replace hM:=hM.none hF
 replace hD:=hM.wide (H:=([]:List Fact))
 refine ⟨hM,?_⟩
 refine mixE.nil ?_
 refine mixPE_chain ?_
 obtain ⟨y32,h60,hb⟩:=bd hb
 refine mixE.cl hM (⟨_,_,op_call (vs:=[.slice c a.length d]) call48 rfl rfl rfl,slices_Clone_Lint_int_ok n hC.lt (hC.rd (i:=4) rfl) h60⟩) ?_
 rintro _ w65 ⟨A61,m62,c63,rfl,hK⟩
 have hBf64:=Beside.cl (i:=0) hM hK rfl
 have hUf64:=hBf64.wide (H:=([]:List Fact))
 replace hM:=hM.none hK.fr
 replace hD:=hM.wide (H:=([]:List Fact))
 refine ⟨hM,?_⟩
 replace hC:=hC.merge hK
 clear hK
 obtain ⟨rfl,hl66,hc67⟩:=(hC.ow (i:=0) rfl).sl_len
 refine mp (.agg #[.slice A25 y23.length c27,.slice A61 y32.length c63]) (pu_builds (places:=[(0,1),(1,1)]) (pv:=[(0,.slice A25 y23.length c27),(1,.slice A61 y32.length c63)]) type24 underlying24 rfl (mp_cons type22 (mp_cons type22 mp_nil rfl rfl) rfl rfl) rfl (by simp [Instr.fill,Value.cells]))<|mixE.sk hD (hC.seta (i:=1) (ds:=[.slice A25 y23.length c27,.slice A61 y32.length c63]) rfl type24 rfl rfl rfl rfl rfl) ?_
 rintro w68 ⟨hC,hF⟩
 replace hD:=hD.besideG hUf58 hF
 clear hF
 refine ⟨hD,?_⟩
 refine mixE.nil ?_
 clear hS hM
 clear hD
 refine hK20 _ _<|Wc.fresh fun E69 hE=>?_
 have e2:E69 2=pg g7:=cg hE 2 rfl
 have e3:E69 3=iv 0:=cg hE 3 rfl
 have e4:E69 4=pg g56:=cg hE 4 rfl
 clear hE
 refine Wc.seq fun _ hK70=>rg<|lp (.pointer (some ((⟨g56,0,none⟩:Addr).add 0))) (pu_field (sz:=1) underlying24 rfl sizeOf22 (by decide) rfl e4)<|lv (.slice A25 y23.length c27) (ld_fld (hC.bx (i:=1) rfl) isAgg22 rfl rfl) ?_
 replace hC:Cx (fun _=>False) O0 w w68 ([.own 3 si (.slice A25 y23.length c27) y23]++[.own 3 si (.slice A61 y32.length c63) y32,.box g56 24 [.slice A25 y23.length c27,.slice A61 y32.length c63],.box g7 24 [.slice none 0 0,.slice none 0 0],.box g4 24 [.slice f b.length g,.slice c a.length d],.ro (.sl si) [.slice c a.length d] a,.ro (.sl si) [.slice f b.length g] b]):=hC.sE [2,0,1,3,4,5,6]
 obtain ⟨y47,h72,hb⟩:=bd hb
 refine lex.cl (⟨_,_,op_call (vs:=[.slice A25 y23.length c27]) call49 rfl rfl rfl,slices_Reverse_Lint_int_ok n hC.lt hC.give h72⟩) ?_
 rintro _ w73 ⟨rfl,hK⟩
 replace hC:=hC.back hK
 clear hK
 refine ln (hK70 _ _ ?_)
 refine Wc.seq fun _ hK74=>rg<|lp (.pointer (some ((⟨g56,0,none⟩:Addr).add 1))) (pu_field (sz:=1) underlying24 rfl sizeOf22 (by decide) rfl e4)<|lv (.slice A61 y32.length c63) (ld_fld (hC.bx (i:=2) rfl) isAgg22 rfl rfl) ?_
 replace hC:Cx (fun _=>False) O0 w w73 ([.own 3 si (.slice A61 y32.length c63) y32]++[.own 3 si (.slice A25 y23.length c27) y47,.box g56 24 [.slice A25 y23.length c27,.slice A61 y32.length c63],.box g7 24 [.slice none 0 0,.slice none 0 0],.box g4 24 [.slice f b.length g,.slice c a.length d],.ro (.sl si) [.slice c a.length d] a,.ro (.sl si) [.slice f b.length g] b]):=hC.sE [1,0,2,3,4,5,6]
 obtain ⟨y51,h76,hb⟩:=bd hb
 refine lex.cl (⟨_,_,op_call (vs:=[.slice A61 y32.length c63]) call49 rfl rfl rfl,slices_Reverse_Lint_int_ok n hC.lt hC.give h76⟩) ?_
 rintro _ w77 ⟨rfl,hK⟩
 replace hC:=hC.back hK
 clear hK
 refine ln (hK74 _ _ ?_)
 refine Wc.seq fun _ hK78=>rg<|lv (.agg #[.slice A25 y23.length c27,.slice A61 y32.length c63]) (ld_blk (hC.bx (i:=2) rfl) isAgg24 sizeOf24 e4)<|lex.sk (hC.seta (i:=3) (ds:=[.slice A25 y23.length c27,.slice A61 y32.length c63]) rfl type24 rfl rfl rfl e2 rfl) ?_
 rintro w79 ⟨hC,hF⟩
 refine lp (iv 0) (pu_assign rfl)<|ln (hK78 _ _ ?_)
 obtain rfl:=os hb
 refine Wc.ret (hKR _ _ ?_)
 refine ⟨_,res2 results24 ⟨_,e2,loadVar_blk (hC.bx (i:=3) rfl) isAgg24 sizeOf24⟩ (tV (iv 0) rfl),_,rfl,A25,y23.length,c27,A61,y32.length,c63,rfl,(show I64 0 from by unfold I64; omega),hC.sE [1,0]⟩
 refine mixPE_chain ?_
 refine mixE.op hM (hC.alloc (cs:=[.slice none 0 0,.slice none 0 0]) zeroValue24 rfl) ?_
 rintro _ w81 ⟨g80,rfl,hC,hF,hG⟩
 have hUf82:g80<w22.heap.size→g80∈blocks (([]:List Fact)++([]:List Fact)):=fun h=>absurd (Nat.lt_of_lt_of_le h (Nat.le_trans hM.size hG)) (Nat.lt_irrefl _)
 clear hG
 replace hM:=hM.none hF
 replace hD:=hM.wide (H:=([]:List Fact))
 refine ⟨hM,?_⟩
 refine mixE.nil ?_
 refine mixPE_chain ?_
 obtain ⟨y23,h84,hb⟩:=bd hb
 refine mixE.cl hM (⟨_,_,op_call (vs:=[.slice f b.length g]) call48 rfl rfl rfl,slices_Clone_Lint_int_ok n hC.lt (hC.rd (i:=4) rfl) h84⟩) ?_
 rintro _ w89 ⟨A85,m86,c87,rfl,hK⟩
 have hBf88:=Beside.cl (i:=0) hM hK rfl
 have hUf88:=hBf88.wide (H:=([]:List Fact))
 replace hM:=hM.none hK.fr
 replace hD:=hM.wide (H:=([]:List Fact))
 refine ⟨hM,?_⟩
 replace hC:=hC.merge hK
 clear hK
 obtain ⟨rfl,hl90,hc91⟩:=(hC.ow (i:=0) rfl).sl_len
 obtain ⟨y32,h93,hb⟩:=bd hb
 refine mixE.cl hM (⟨_,_,op_call (vs:=[.slice c a.length d]) call48 rfl rfl rfl,slices_Clone_Lint_int_ok n hC.lt (hC.rd (i:=4) rfl) h93⟩) ?_
 rintro _ w98 ⟨A94,m95,c96,rfl,hK⟩
 have hBf97:=Beside.cl (i:=0) hM hK rfl
 have hUf97:=hBf97.wide (H:=([]:List Fact))
 replace hM:=hM.none hK.fr
 replace hD:=hM.wide (H:=([]:List Fact))
 refine ⟨hM,?_⟩
 replace hC:=hC.merge hK
 clear hK
 obtain ⟨rfl,hl99,hc100⟩:=(hC.ow (i:=0) rfl).sl_len
 refine mp (.agg #[.slice A85 y23.length c87,.slice A94 y32.length c96]) (pu_builds (places:=[(0,1),(1,1)]) (pv:=[(0,.slice A85 y23.length c87),(1,.slice A94 y32.length c96)]) type24 underlying24 rfl (mp_cons type22 (mp_cons type22 mp_nil rfl rfl) rfl rfl) rfl (by simp [Instr.fill,Value.cells]))<|mixE.sk hD (hC.seta (i:=2) (ds:=[.slice A85 y23.length c87,.slice A94 y32.length c96]) rfl type24 rfl rfl rfl rfl rfl) ?_
 rintro w101 ⟨hC,hF⟩
 replace hD:=hD.besideG hUf82 hF
 clear hF
 refine ⟨hD,?_⟩
 refine mixE.nil ?_
 clear hS hM
 clear hD
 refine hK20 _ _<|Wc.fresh fun E102 hE=>?_
 have e2:E102 2=pg g7:=cg hE 2 rfl
 have e3:E102 3=iv 0:=cg hE 3 rfl
 have e4:E102 4=pg g80:=cg hE 4 rfl
 clear hE
 refine Wc.seq fun _ hK103=>rg<|lp (.pointer (some ((⟨g80,0,none⟩:Addr).add 0))) (pu_field (sz:=1) underlying24 rfl sizeOf22 (by decide) rfl e4)<|lv (.slice A85 y23.length c87) (ld_fld (hC.bx (i:=2) rfl) isAgg22 rfl rfl) ?_
 replace hC:Cx (fun _=>False) O0 w w101 ([.own 3 si (.slice A85 y23.length c87) y23]++[.own 3 si (.slice A94 y32.length c96) y32,.box g80 24 [.slice A85 y23.length c87,.slice A94 y32.length c96],.box g7 24 [.slice none 0 0,.slice none 0 0],.box g4 24 [.slice f b.length g,.slice c a.length d],.ro (.sl si) [.slice c a.length d] a,.ro (.sl si) [.slice f b.length g] b]):=hC.sE [1,0,2,3,4,5,6]
 obtain ⟨y47,h105,hb⟩:=bd hb
 refine lex.cl (⟨_,_,op_call (vs:=[.slice A85 y23.length c87]) call49 rfl rfl rfl,slices_Reverse_Lint_int_ok n hC.lt hC.give h105⟩) ?_
 rintro _ w106 ⟨rfl,hK⟩
 replace hC:=hC.back hK
 clear hK
 refine ln (hK103 _ _ ?_)
 refine Wc.seq fun _ hK107=>rg<|lp (.pointer (some ((⟨g80,0,none⟩:Addr).add 1))) (pu_field (sz:=1) underlying24 rfl sizeOf22 (by decide) rfl e4)<|lv (.slice A94 y32.length c96) (ld_fld (hC.bx (i:=2) rfl) isAgg22 rfl rfl) ?_
 replace hC:Cx (fun _=>False) O0 w w106 ([.own 3 si (.slice A94 y32.length c96) y32]++[.own 3 si (.slice A85 y23.length c87) y47,.box g80 24 [.slice A85 y23.length c87,.slice A94 y32.length c96],.box g7 24 [.slice none 0 0,.slice none 0 0],.box g4 24 [.slice f b.length g,.slice c a.length d],.ro (.sl si) [.slice c a.length d] a,.ro (.sl si) [.slice f b.length g] b]):=hC.sE [1,0,2,3,4,5,6]
 obtain ⟨y51,h109,hb⟩:=bd hb
 refine lex.cl (⟨_,_,op_call (vs:=[.slice A94 y32.length c96]) call49 rfl rfl rfl,slices_Reverse_Lint_int_ok n hC.lt hC.give h109⟩) ?_
 rintro _ w110 ⟨rfl,hK⟩
 replace hC:=hC.back hK
 clear hK
 refine ln (hK107 _ _ ?_)
 refine Wc.seq fun _ hK111=>rg<|lv (.agg #[.slice A85 y23.length c87,.slice A94 y32.length c96]) (ld_blk (hC.bx (i:=2) rfl) isAgg24 sizeOf24 e4)<|lex.sk (hC.seta (i:=3) (ds:=[.slice A85 y23.length c87,.slice A94 y32.length c96]) rfl type24 rfl rfl rfl e2 rfl) ?_
 rintro w112 ⟨hC,hF⟩
 refine lp (iv 0) (pu_assign rfl)<|ln (hK111 _ _ ?_)
 obtain rfl:=os hb
 refine Wc.ret (hKR _ _ ?_)
 refine ⟨_,res2 results24 ⟨_,e2,loadVar_blk (hC.bx (i:=3) rfl) isAgg24 sizeOf24⟩ (tV (iv 0) rfl),_,rfl,A85,y23.length,c87,A94,y32.length,c96,rfl,(show I64 0 from by unfold I64; omega),hC.sE [1,0]⟩
end Go.Proofs.Yticemffhlapnnaa
