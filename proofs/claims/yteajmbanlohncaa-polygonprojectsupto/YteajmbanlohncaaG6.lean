import Derived.Test.YteajmbanlohncaaS
import Derived.Test.YteajmbanlohncaaG0
import Derived.Test.YteajmbanlohncaaG2
import Derived.Test.YteajmbanlohncaaG3
import Derived.Test.YteajmbanlohncaaG4
import Derived.Test.YteajmbanlohncaaG5
set_option linter.unusedVariables false
set_option linter.unusedSimpArgs false
namespace Go.Proofs.Yteajmbanlohncaa
open Ev Try
set_option maxRecDepth 100000
set_option maxHeartbeats 4000000
theorem slices_Clone_Lint_int_ok (n:Nat) {w:World} {O0:List Nat} (hO: ∀k∈O0,k<w.heap.size) {a:Option Addr} {d c:Nat} {b:List Int} (f:Rep O0 w (.sl si) [.slice a d c] b) {r:(List Int)} (hb:F.slices_Clone_Lint_int n b=some r):
    Calls prog 86 #[.slice a d c] w fun e w'=> ∃v,e=.returned v∧∃(A0:Option Addr) (m0 c0:Nat),v=.slice A0 m0 c0∧Cx (fun _=>False) O0 w w' [.own 3 si (.slice A0 m0 c0) r]:=by
 unfold F.slices_Clone_Lint_int at hb
 have hC:=Cx.start hO
 replace hC:=hC.arg rfl f
 clear hO
 obtain ⟨rfl,g,h⟩:=f.sl_len
 refine calls_of_Wc func86 rfl (by rw [ntmps86]; exact nb rfl) fun KR hKR=>?_
 refine Wc.seq fun _ hK2=>rg<|lp (.slice none 0 0) (pu_assign rfl)<|ln (hK2 _ _ ?_)
 refine Wc.seq fun _ hK3=>?_
 refine Wc.seq fun _ hK4=>rg<|lp (.slice a b.length c) (pu_move rfl)<|lp (.bool a.isNone) (pu_eqlnil underlying30 rfl rfl)<|ln (hK4 _ _ ?_)
 refine Wc.cond (t:=a.isNone) (rfl) (fun hq5=>?_) (fun hq5=>?_)
 have hz:a=none:=by simpa using hq5
 have hx:=(hC.rd (i:=0) rfl).none_nil' hz
 replace hb:some ([])=some r:=by have hb2:=hb; rw [hx] at hb2; first | exact hb2 | simpa [lim] using hb2
 refine Wc.seq fun _ hK7=>rg<|lp (.slice none 0 0) (pu_assign rfl)<|ln (hK7 _ _ ?_)
 replace hC:=hC.nil 3 si
 obtain rfl:=os hb
 refine Wc.ret (hKR _ _ ?_)
 refine ⟨_,res1 results86 (tV (.slice none 0 0) rfl),_,rfl,none,0,0,rfl,hC.sE [0]⟩
 refine Wc.skip (hK3 _ _ ?_)
 refine Wc.seq fun _ hK9=>rg<|lex.op (hC.lit (s:=si) (vs:=[]) (xs:=[]) underlying30 type3 rfl rfl (nb rfl) rfl rfl (by simp [Value.cells,Sh.n]) rfl (show Elems _ _ si ([]) ([]:List Int) from Elems.nil _ _ _)) ?_
 rintro _ w14 ⟨A10,c11,rfl,hl12,hc13,hC,-,-⟩
 refine lp (.slice a b.length c) (pu_move rfl) ?_
 obtain ⟨u16,h17,hb⟩:=bd hb
 refine lex.op (hC.app (i:=0) (s:=si) (xs:=([]:List Int)) (ys:=b) (m:=b.length) rfl underlying30 underlying30 type3 rfl rfl rfl (hC.srcr (i:=1) rfl) rfl rfl (by have:=lim_some h17; simp at this⊢ <;>omega) (by decide)) ?_
 rintro _ w22 ⟨A18,c19,rfl,hl20,hc21,hC,-,-⟩
 refine lp (.slice A18 ((([]:List Int)++b).length) c19) (pu_assign rfl)<|ln (hK9 _ _ ?_)
 obtain rfl:=os hb
 refine Wc.ret (hKR _ _ ?_)
 refine ⟨_,res1 results86 (tV (.slice A18 ((([]:List Int)++b).length) c19) rfl),_,rfl,A18,(([]:List Int)++b).length,c19,rfl,hC.sE [0]⟩

theorem gauss_Diagram_ok (n:Nat) {w:World} {O0:List Nat} (hO: ∀k∈O0,k<w.heap.size) {h:Option Addr} {o j:Nat} {l:List (List (Int×Bool))} (p:Rep O0 w (.sl (.sl (.pr si .bool))) [.slice h o j] l) {d:Option Addr} {s f:Nat} {g:List Int} (u:Rep O0 w (.sl si) [.slice d s f] g) {c:Int} (m:I64 c) {r:(List Int)×(List Int)×Int×Int} (hb:F.gauss_Diagram n l g c=some r):
    Calls prog 54 #[.agg #[.slice h o j,.slice d s f,iv c]] w fun e w'=> ∃v,e=.returned v∧∃(A0:Option Addr) (m0 c0:Nat) (A1:Option Addr) (m1 c1:Nat),v=.tuple #[.agg #[.slice A0 m0 c0,.slice A1 m1 c1,iv r.2.2.1],iv r.2.2.2]∧I64 r.2.2.1∧I64 r.2.2.2∧Cx (fun _=>False) O0 w w' [.own 3 si (.slice A0 m0 c0) r.1,.own 3 si (.slice A1 m1 c1) r.2.1]:=by
 unfold F.gauss_Diagram at hb
 have hC:=Cx.start hO
 replace hC:=hC.arg rfl p
 replace hC:=hC.arg rfl u
 clear hO
 obtain ⟨rfl,x,y⟩:=p.sl_len
 obtain ⟨rfl,z,A⟩:=u.sl_len
 refine calls_of_Wc func54 rfl (by rw [ntmps54]; exact nb rfl) fun KR hKR=>?_
 refine Wc.seq fun _ hK3=>rg<|lex.op (hC.box (cs:=[.slice h l.length j,.slice d g.length f,iv c]) rfl rfl) ?_
 rintro _ w5 ⟨g4,rfl,hC,hF,-⟩
 refine lex.op (hC.alloc (cs:=[.slice none 0 0,.slice none 0 0,iv 0]) zeroValue32 rfl) ?_
 rintro _ w8 ⟨g7,rfl,hC,hF,-⟩
 refine lp (iv 0) (pu_assign rfl)<|ln (hK3 _ _ ?_)
 refine Wc.seq fun _ hK10=>?_
 refine Wc.seq fun _ hK11=>rg<|lv (.agg #[.slice h l.length j,.slice d g.length f,iv c]) (ld_blk (hC.bx (i:=1) rfl) isAgg77 sizeOf77 rfl) ?_
 obtain ⟨y12,h13,hb⟩:=bd hb
 refine lex.cl (⟨_,_,op_call (vs:=[.agg #[.slice h l.length j,.slice d g.length f,iv c]]) call83 rfl rfl rfl,gauss_Valid_ok n hC.lt (hC.rd (i:=3) rfl) (hC.rd (i:=2) rfl) m h13⟩) ?_
 rintro _ w14 ⟨rfl,hK⟩
 replace hC:=hC.merge hK
 clear hK
 refine lp (.bool (!y12)) (pu_not (q:=y12) rfl)<|ln (hK11 _ _ ?_)
 refine Wc.cond (t:=(!y12)) (rfl) (fun hq15=>?_) (fun hq15=>?_)
 replace hb:=tt hq15 hb
 refine Wc.seq fun _ hK16=>rg<|lp (.agg #[.slice none 0 0,.slice none 0 0,iv 0]) (pu_builds (places:=[(0,1),(1,1),(2,1)]) (pv:=[]) type32 underlying32 rfl (mp_cons type30 (mp_cons type30 (mp_cons type3 mp_nil rfl rfl) rfl rfl) rfl rfl) rfl (by simp [Instr.fill,Value.cells]))<|lex.sk (hC.seta (i:=0) (ds:=[.slice none 0 0,.slice none 0 0,iv 0]) rfl type32 rfl rfl rfl rfl rfl) ?_
 rintro w17 ⟨hC,hF⟩
 refine lp (iv 1) (pu_assign rfl)<|ln (hK16 _ _ ?_)
 replace hC:=hC.nil 3 si
 replace hC:=hC.nil 3 si
 obtain rfl:=os hb
 refine Wc.ret (hKR _ _ ?_)
 refine ⟨_,res2 results54 ⟨_,rfl,loadVar_blk (hC.bx (i:=2) rfl) isAgg32 sizeOf32⟩ (tV (iv 1) rfl),_,rfl,none,0,0,none,0,0,rfl,(show I64 0 from by unfold I64; omega),(show I64 1 from by unfold I64; omega),hC.sE [1,0]⟩
 replace hb:=tf hq15 hb
 refine Wc.skip (hK10 _ _ ?_)
 refine Wc.seq fun _ hK20=>rg<|lv (.agg #[.slice h l.length j,.slice d g.length f,iv c]) (ld_blk (hC.bx (i:=1) rfl) isAgg77 sizeOf77 rfl) ?_
 obtain ⟨y21,h22,hb⟩:=bd hb
 refine lex.cl (⟨_,_,op_call (vs:=[.agg #[.slice h l.length j,.slice d g.length f,iv c]]) call84 rfl rfl rfl,gauss_mates_ok n hC.lt (hC.rd (i:=3) rfl) (hC.rd (i:=2) rfl) m h22⟩) ?_
 rintro _ w27 ⟨A23,m24,c25,rfl,hK⟩
 replace hC:=hC.merge hK
 clear hK
 obtain ⟨rfl,hl28,hc29⟩:=(hC.ow (i:=0) rfl).sl_len
 refine lp (.slice A23 y21.length c25) (pu_assign rfl)<|ln (hK20 _ _ ?_)
 refine Wc.seq fun _ hK30=>?_
 refine Wc.seq fun _ hK31=>rg<|lp (.slice A23 y21.length c25) (pu_move rfl) ?_
 obtain ⟨y32,h33,hb⟩:=bd hb
 refine lex.cl (⟨_,_,op_call (vs:=[.slice A23 y21.length c25]) call85 rfl rfl rfl,gauss_genus_ok n (hC.lentLt [.slice A23 y21.length c25]) ((hC.ow (i:=0) rfl).lend (vs:=[.slice A23 y21.length c25]) (by simp)) h33⟩) ?_
 rintro _ w35 ⟨rfl,hr34,hK⟩
 replace hC:=hC.mergeF hK rfl
 clear hK
 refine lp (.bool (!(decide (y32=0)))) (pu_neq (k:=.i64) (a:=y32) (b:=0) rfl rfl)<|ln (hK31 _ _ ?_)
 refine Wc.fresh fun E36 hE=>?_
 have e1:E36 1=pg g4:=cg hE 1 rfl
 have e2:E36 2=pg g7:=cg hE 2 rfl
 have e3:E36 3=iv 0:=cg hE 3 rfl
 have e4:E36 4=.slice A23 y21.length c25:=cg hE 4 rfl
 have e13:E36 13=.bool (!(decide (y32=0))):=cg hE 13 rfl
 clear hE
 refine Wc.cond (t:=(!(decide (y32=0)))) (e13) (fun hq37=>?_) (fun hq37=>?_)
 replace hb:=tt hq37 hb
 refine Wc.seq fun _ hK38=>rg<|lp (.agg #[.slice none 0 0,.slice none 0 0,iv 0]) (pu_builds (places:=[(0,1),(1,1),(2,1)]) (pv:=[]) type32 underlying32 rfl (mp_cons type30 (mp_cons type30 (mp_cons type3 mp_nil rfl rfl) rfl rfl) rfl rfl) rfl (by simp [Instr.fill,Value.cells]))<|lex.sk (hC.seta (i:=1) (ds:=[.slice none 0 0,.slice none 0 0,iv 0]) rfl type32 rfl rfl rfl e2 rfl) ?_
 rintro w39 ⟨hC,hF⟩
 refine lp (iv 7) (pu_assign rfl)<|ln (hK38 _ _ ?_)
 replace hC:=hC.nil 3 si
 replace hC:=hC.nil 3 si
 obtain rfl:=os hb
 refine Wc.ret (hKR _ _ ?_)
 refine ⟨_,res2 results54 ⟨_,e2,loadVar_blk (hC.bx (i:=3) rfl) isAgg32 sizeOf32⟩ (tV (iv 7) rfl),_,rfl,none,0,0,none,0,0,rfl,(show I64 0 from by unfold I64; omega),(show I64 7 from by unfold I64; omega),hC.sE [1,0]⟩
 replace hb:=tf hq37 hb
 refine Wc.skip (hK30 _ _ ?_)
 refine Wc.seq fun _ hK42=>?_
 refine Wc.regionMix [16,20] (frm [16,20] ([]:List Fact) [.box g7 32 [.slice none 0 0,.slice none 0 0,iv 0]]) (fun _=>rfl) mixed (by decide+kernel) (by decide+kernel) fun w44 hw43=>?_
 replace hC:=hC.step (Fr.of_drew hw43)
 have hM:=Fr.refl (fun k=>k∈blocks ([]:List Fact)) w44
 clear hw43
 have hS:=hC
 have hD:Fr (fun k=>k∈blocks (([]:List Fact)++[.box g7 32 [.slice none 0 0,.slice none 0 0,iv 0]])) w44 w44:=hM.wide
 have hUf9:g7<w44.heap.size→g7∈blocks (([]:List Fact)++[.box g7 32 [.slice none 0 0,.slice none 0 0,iv 0]]):=fun _=>box_in (i:=0) rfl
 refine mp (.pointer (some ((⟨g4,0,none⟩:Addr).add 1))) (pu_field (sz:=1) underlying77 rfl sizeOf30 (by decide) rfl e1)<|mixE.steady hD (v:=.slice d g.length f) (fun _ hF=>ld_fld (hS.bx2 (i:=2) rfl [1] (by decide) hF) isAgg30 rfl rfl) ?_
 obtain ⟨y45,h46,hb⟩:=bd hb
 refine mixE.cl hM (⟨_,_,op_call (vs:=[.slice d g.length f]) call86 rfl rfl rfl,slices_Clone_Lint_int_ok n hC.lt (hC.rd (i:=3) rfl) h46⟩) ?_
 rintro _ w51 ⟨A47,m48,c49,rfl,hK⟩
 have hBf50:=Beside.cl (i:=0) hM hK rfl
 have hUf50:=hBf50.wide (H:=[.box g7 32 [.slice none 0 0,.slice none 0 0,iv 0]])
 replace hM:=hM.none hK.fr
 replace hD:=hM.wide (H:=[.box g7 32 [.slice none 0 0,.slice none 0 0,iv 0]])
 refine ⟨hM,?_⟩
 replace hC:=hC.merge hK
 clear hK
 obtain ⟨rfl,hl52,hc53⟩:=(hC.ow (i:=0) rfl).sl_len
 refine mp (.slice A23 y21.length c25) (pu_move e4)<|mp (.pointer (some ((⟨g4,0,none⟩:Addr).add 2))) (pu_field (sz:=1) underlying77 rfl sizeOf3 (by decide) rfl e1)<|mixE.steady hD (v:=iv c) (fun _ hF=>ld_fld (hS.bx2 (i:=2) rfl [1] (by decide) hF) isAgg3 rfl rfl)<|mp (.agg #[.slice A47 y45.length c49,.slice A23 y21.length c25,iv c]) (pu_builds (places:=[(0,1),(1,1),(2,1)]) (pv:=[(0,.slice A47 y45.length c49),(1,.slice A23 y21.length c25),(2,iv c)]) type32 underlying32 rfl (mp_cons type30 (mp_cons type30 (mp_cons type3 mp_nil rfl rfl) rfl rfl) rfl rfl) rfl (by simp [Instr.fill,Value.cells]))<|mixE.sk hD (hC.seta (i:=2) (ds:=[.slice A47 y45.length c49,.slice A23 y21.length c25,iv c]) rfl type32 rfl rfl rfl e2 rfl) ?_
 rintro w54 ⟨hC,hF⟩
 replace hD:=hD.besideG hUf9 hF
 clear hF
 refine ⟨hD,?_⟩
 refine mp (iv 0) (pu_assign rfl)<|mixE.nil ?_
 clear hS hM
 clear hD
 refine hK42 _ _ ?_
 obtain rfl:=os hb
 refine Wc.ret (hKR _ _ ?_)
 refine ⟨_,res2 results54 ⟨_,e2,loadVar_blk (hC.bx (i:=2) rfl) isAgg32 sizeOf32⟩ (tV (iv 0) rfl),_,rfl,A47,y45.length,c49,A23,y21.length,c25,rfl,m,(show I64 0 from by unfold I64; omega),hC.sE [0,1]⟩

theorem polygon_Project_ok (n:Nat) {w:World} {O0:List Nat} (hO: ∀k∈O0,k<w.heap.size) {f:Option Addr} {o g:Nat} {h:List (List (Int×(Int×Int)))} (p:Rep O0 w (.sl (.sl (.pr si (.pr si si)))) [.slice f o g] h) {r:(List Int)×(List Int)×Int×Int} (hb:F.polygon_Project n h=some r):
    Calls prog 15 #[.slice f o g] w fun e w'=> ∃v,e=.returned v∧∃(A0:Option Addr) (m0 c0:Nat) (A1:Option Addr) (m1 c1:Nat),v=.tuple #[.agg #[.slice A0 m0 c0,.slice A1 m1 c1,iv r.2.2.1],iv r.2.2.2]∧I64 r.2.2.1∧I64 r.2.2.2∧Cx (fun _=>False) O0 w w' [.own 3 si (.slice A0 m0 c0) r.1,.own 3 si (.slice A1 m1 c1) r.2.1]:=by
 unfold F.polygon_Project at hb
 have hC:=Cx.start hO
 replace hC:=hC.arg rfl p
 clear hO
 obtain ⟨rfl,s,u⟩:=p.sl_len
 refine calls_of_Wc func15 rfl (by rw [ntmps15]; exact nb rfl) fun KR hKR=>?_
 refine Wc.seq fun _ hK2=>rg<|lex.op (hC.alloc (cs:=[.slice none 0 0,.slice none 0 0,iv 0]) zeroValue32 rfl) ?_
 rintro _ w4 ⟨g3,rfl,hC,hF,-⟩
 refine lp (iv 0) (pu_assign rfl)<|ln (hK2 _ _ ?_)
 refine Wc.seq fun _ hK6=>?_
 refine Wc.seq fun _ hK7=>rg<|lp (.slice f h.length g) (pu_move rfl) ?_
 obtain ⟨y8,h9,hb⟩:=bd hb
 refine lex.cl (⟨_,_,op_call (vs:=[.slice f h.length g]) call51 rfl rfl rfl,polygon_valid_ok n hC.lt (hC.rd (i:=1) rfl) h9⟩) ?_
 rintro _ w10 ⟨rfl,hK⟩
 replace hC:=hC.merge hK
 clear hK
 refine lp (.bool (!y8)) (pu_not (q:=y8) rfl)<|ln (hK7 _ _ ?_)
 refine Wc.cond (t:=(!y8)) (rfl) (fun hq11=>?_) (fun hq11=>?_)
 replace hb:=tt hq11 hb
 refine Wc.seq fun _ hK12=>rg<|lp (.agg #[.slice none 0 0,.slice none 0 0,iv 0]) (pu_builds (places:=[(0,1),(1,1),(2,1)]) (pv:=[]) type32 underlying32 rfl (mp_cons type30 (mp_cons type30 (mp_cons type3 mp_nil rfl rfl) rfl rfl) rfl rfl) rfl (by simp [Instr.fill,Value.cells]))<|lex.sk (hC.seta (i:=0) (ds:=[.slice none 0 0,.slice none 0 0,iv 0]) rfl type32 rfl rfl rfl rfl rfl) ?_
 rintro w13 ⟨hC,hF⟩
 refine lp (iv 1) (pu_assign rfl)<|ln (hK12 _ _ ?_)
 replace hC:=hC.nil 3 si
 replace hC:=hC.nil 3 si
 obtain rfl:=os hb
 refine Wc.ret (hKR _ _ ?_)
 refine ⟨_,res2 results15 ⟨_,rfl,loadVar_blk (hC.bx (i:=2) rfl) isAgg32 sizeOf32⟩ (tV (iv 1) rfl),_,rfl,none,0,0,none,0,0,rfl,(show I64 0 from by unfold I64; omega),(show I64 1 from by unfold I64; omega),hC.sE [1,0]⟩
 replace hb:=tf hq11 hb
 refine Wc.skip (hK6 _ _ ?_)
 refine Wc.seq fun _ hK16=>rg<|lp (.slice f h.length g) (pu_move rfl) ?_
 obtain ⟨y17,h18,hb⟩:=bd hb
 refine lex.cl (⟨_,_,op_call (vs:=[.slice f h.length g]) call52 rfl rfl rfl,polygon_edges_ok n hC.lt (hC.rd (i:=1) rfl) h18⟩) ?_
 rintro _ w23 ⟨A19,m20,c21,rfl,hK⟩
 replace hC:=hC.merge hK
 clear hK
 obtain ⟨rfl,hl24,hc25⟩:=(hC.ow (i:=0) rfl).sl_len
 refine lp (.slice A19 y17.length c21) (pu_assign rfl)<|ln (hK16 _ _ ?_)
 refine Wc.seq fun _ hK26=>rg<|lp (.slice A19 y17.length c21) (pu_move rfl) ?_
 replace hC:=hC.freeze (i:=0) rfl (hC.own_new (i:=0) rfl)
 obtain ⟨y27,h28,hb⟩:=bd hb
 refine lex.cl (⟨_,_,op_call (vs:=[.slice A19 y17.length c21]) call53 rfl rfl rfl,polygon_cross_ok n hC.lt (hC.rd (i:=0) rfl) h28⟩) ?_
 rintro _ w33 ⟨A29,m30,c31,rfl,hK⟩
 replace hC:=hC.merge hK
 clear hK
 obtain ⟨rfl,hl34,hc35⟩:=(hC.rd (i:=0) rfl).sl_len
 refine lp (.tuple #[.slice A29 y27.1.length c31,.bool y27.2]) (pu_move rfl)<|lp (.slice A29 y27.1.length c31) (pu_extract rfl rfl)<|lp (.bool y27.2) (pu_extract rfl rfl)<|lp (.slice A29 y27.1.length c31) (pu_assign rfl)<|lp (.bool y27.2) (pu_assign rfl)<|ln (hK26 _ _ ?_)
 refine Wc.fresh fun E36 hE=>?_
 have e0:E36 0=.slice f h.length g:=cg hE 0 rfl
 have e2:E36 2=pg g3:=cg hE 2 rfl
 have e3:E36 3=iv 0:=cg hE 3 rfl
 have e4:E36 4=.slice A19 y17.length c21:=cg hE 4 rfl
 have e5:E36 5=.slice A29 y27.1.length c31:=cg hE 5 rfl
 have e6:E36 6=.bool y27.2:=cg hE 6 rfl
 clear hE
 refine Wc.seq fun _ hK37=>?_
 refine Wc.seq fun _ hK38=>rg<|lp _ (pu_move e6)<|lp (.bool (!y27.2)) (pu_not (q:=y27.2) rfl)<|ln (hK38 _ _ ?_)
 refine Wc.cond (t:=(!y27.2)) (rfl) (fun hq39=>?_) (fun hq39=>?_)
 replace hb:=tt hq39 hb
 refine Wc.seq fun _ hK40=>rg<|lp (.agg #[.slice none 0 0,.slice none 0 0,iv 0]) (pu_builds (places:=[(0,1),(1,1),(2,1)]) (pv:=[]) type32 underlying32 rfl (mp_cons type30 (mp_cons type30 (mp_cons type3 mp_nil rfl rfl) rfl rfl) rfl rfl) rfl (by simp [Instr.fill,Value.cells]))<|lex.sk (hC.seta (i:=2) (ds:=[.slice none 0 0,.slice none 0 0,iv 0]) rfl type32 rfl rfl rfl e2 rfl) ?_
 rintro w41 ⟨hC,hF⟩
 refine lp (iv 15) (pu_assign rfl)<|ln (hK40 _ _ ?_)
 replace hC:=hC.nil 3 si
 replace hC:=hC.nil 3 si
 obtain rfl:=os hb
 refine Wc.ret (hKR _ _ ?_)
 refine ⟨_,res2 results15 ⟨_,e2,loadVar_blk (hC.bx (i:=4) rfl) isAgg32 sizeOf32⟩ (tV (iv 15) rfl),_,rfl,none,0,0,none,0,0,rfl,(show I64 0 from by unfold I64; omega),(show I64 15 from by unfold I64; omega),hC.sE [1,0]⟩
 replace hb:=tf hq39 hb
 refine Wc.skip (hK37 _ _ ?_)
 refine Wc.seq fun _ hK44=>rg<|lp (iv 0) (pu_assign rfl)<|ln (hK44 _ _ ?_)
 refine Wc.seq fun _ hK45=>?_
 refine Wc.seq fun _ hK46=>rg<|lp _ (pu_move e5)<|lp (iv (y27.1.length:Int)) (pu_len (A:=A29) (n:=y27.1.length) (m:=c31) underlying70 rfl)<|lp (iv 0) (pu_move rfl)<|ln (hK46 _ _ ?_)
 obtain ⟨o47,hl0,f47,hf47,hb⟩:=bn hb
 refine Wc.cut (fun E wv=> ∃(d:Int) (c:Int),E 0=.slice f h.length g∧E 2=pg g3∧E 3=iv 0∧E 4=.slice A19 y17.length c21∧E 5=.slice A29 y27.1.length c31∧E 7=iv d∧I64 d∧I64 c∧Cx (fun _=>False) O0 w wv [.ro (.sl (.sl (.pr si (.pr si si)))) [.slice f h.length g] h,.box g3 32 [.slice none 0 0,.slice none 0 0,iv 0],.ro (.sl (.pr (.pr si (.pr si si)) (.pr (.pr si (.pr si si)) (.pr si si)))) [.slice A19 y17.length c21] y17,.ro (.sl (.sl (.pr si .bool))) [.slice A29 y27.1.length c31] y27.1]∧f47 (d,c)=some r) (fun _ hK48=>?_) ?_
 refine Wc.block ?_
 refine Wc.loop (fun m E wv=> ∃(d:Int) (c:Int),E 0=.slice f h.length g∧E 2=pg g3∧E 3=iv 0∧E 4=.slice A19 y17.length c21∧E 5=.slice A29 y27.1.length c31∧E 7=iv d∧E 24=.slice A29 y27.1.length c31∧E 25=iv (y27.1.length:Int)∧E 26=iv c∧I64 d∧I64 c∧Cx (fun _=>False) O0 w wv [.ro (.sl (.sl (.pr si (.pr si si)))) [.slice f h.length g] h,.box g3 32 [.slice none 0 0,.slice none 0 0,iv 0],.ro (.sl (.pr (.pr si (.pr si si)) (.pr (.pr si (.pr si si)) (.pr si si)))) [.slice A19 y17.length c21] y17,.ro (.sl (.sl (.pr si .bool))) [.slice A29 y27.1.length c31] y27.1]∧loopN m (F.polygon_Project_b0 n y27) (d,c)=some o47) n ⟨0,0,e0,e2,e3,e4,e5,rfl,rfl,rfl,rfl,(show I64 0 from by unfold I64; omega),(show I64 0 from by unfold I64; omega),hC.sE [3,2,1,0],hl0⟩ ?_
 have hbK0:=hb
 clear hb hC hl0
 rintro m50 E52 w51 ⟨d,c,e0,e2,e3,e4,e5,e7,e24,e25,e26,l,j,hC,hl0⟩ K49 hK49
 obtain ⟨m50',o53,rfl,hb,hl0⟩:=loopN_some hl0
 unfold F.polygon_Project_b0 at hb
 refine Wc.seq fun _ hK54=>rg<|lp _ (pu_lss e26 e25)<|ln (hK54 _ _ ?_)
 refine Wc.seq fun _ hK55=>?_
 refine Wc.cond (t:=(decide (c<(y27.1.length:Int)))) (rfl) (fun hq56=>?_) (fun hq56=>?_)
 replace hb:=tt hq56 hb
 refine Wc.skip (hK55 _ _ ?_)
 refine Wc.seq fun _ hK57=>?_
 refine Wc.block<|Wc.seq fun _ hK58=>rg ?_
 obtain ⟨x59,h60,hb⟩:=bd hb
 obtain ⟨ad61,cs62,hA,hc63,hr64⟩:=hC.elr (i:=3) rfl (get_some h60).2
 subst hA
 refine lp (.pointer (some (ad61.add (c.toNat*1)))) (pu_index (a:=c) underlying70 sizeOf73 e24 e26 (get_some h60).1) ?_
 have hR:=hr64
 obtain ⟨A65,c66,rfl,hl67,hc68,_⟩:=hr64
 replace hC:=hC.ro hR
 clear hR
 refine lv (.slice A65 x59.length c66) (ld_one isAgg73 rfl (hc63 0 _ rfl))<|lp (.slice A65 x59.length c66) (pu_assign rfl)<|ln (hK58 _ _ ?_)
 refine rg<|lp _ (pu_move e7)<|lp (.slice A65 x59.length c66) (pu_move rfl)<|lp (iv (x59.length:Int)) (pu_len (A:=A65) (n:=x59.length) (m:=c66) underlying73 rfl) ?_
 obtain ⟨z70,h71,hb⟩:=bd hb
 refine lp (iv z70) (pu_addc (a:=d) (b:=(x59.length:Int)) rfl rfl h71)<|lp (iv z70) (pu_assign rfl)<|ln (hK57 _ _ ?_)
 refine rg ?_
 obtain ⟨z72,h73,hb⟩:=bd hb
 refine lp (iv z72) (pu_addc (a:=c) (b:=1) e26 rfl h73)<|lp (iv z72) (pu_move rfl)<|ln ?_
 obtain rfl:=os hb
 exact hK49 m50' _ _ (Nat.lt_succ_self _) ⟨z70,z72,e0,e2,e3,e4,e5,rfl,e24,e25,rfl,(chk_rng h71),(chk_rng h73),hC.sE [1,2,3,4],lN hl0⟩
 replace hb:=tf hq56 hb
 refine Wc.exit rfl ?_
 obtain rfl:=os hb
 obtain rfl:=(lX hl0).symm
 exact hK48 _ _ ⟨d,c,e0,e2,e3,e4,e5,e7,l,j,hC.sE [0,1,2,3],hbK0⟩
 clear hb hC hl0
 rintro E75 w74 ⟨d,c,e0,e2,e3,e4,e5,e7,l,j,hC,hb⟩
 subst hf47
 refine hK45 _ _ ?_
 refine Wc.seq fun _ hK76=>?_
 refine Wc.seq fun _ hK77=>rg<|lp _ (pu_move e7)<|lp (.bool (decide (128<d))) (pu_gtr (k:=.i64) (a:=d) (b:=128) rfl rfl)<|ln (hK77 _ _ ?_)
 refine Wc.cond (t:=(decide (128<d))) (rfl) (fun hq78=>?_) (fun hq78=>?_)
 replace hb:=tt hq78 hb
 refine Wc.seq fun _ hK79=>rg<|lp (.agg #[.slice none 0 0,.slice none 0 0,iv 0]) (pu_builds (places:=[(0,1),(1,1),(2,1)]) (pv:=[]) type32 underlying32 rfl (mp_cons type30 (mp_cons type30 (mp_cons type3 mp_nil rfl rfl) rfl rfl) rfl rfl) rfl (by simp [Instr.fill,Value.cells]))<|lex.sk (hC.seta (i:=1) (ds:=[.slice none 0 0,.slice none 0 0,iv 0]) rfl type32 rfl rfl rfl e2 rfl) ?_
 rintro w80 ⟨hC,hF⟩
 refine lp (iv 5) (pu_assign rfl)<|ln (hK79 _ _ ?_)
 replace hC:=hC.nil 3 si
 replace hC:=hC.nil 3 si
 obtain rfl:=os hb
 refine Wc.ret (hKR _ _ ?_)
 refine ⟨_,res2 results15 ⟨_,e2,loadVar_blk (hC.bx (i:=3) rfl) isAgg32 sizeOf32⟩ (tV (iv 5) rfl),_,rfl,none,0,0,none,0,0,rfl,(show I64 0 from by unfold I64; omega),(show I64 5 from by unfold I64; omega),hC.sE [1,0]⟩
 replace hb:=tf hq78 hb
 refine Wc.skip (hK76 _ _ ?_)
 refine Wc.seq fun _ hK83=>rg<|lp _ (pu_move e0)<|lp _ (pu_move e4)<|lp _ (pu_move e5) ?_
 obtain ⟨y84,h85,hb⟩:=bd hb
 refine lex.cl (⟨_,_,op_call (vs:=[.slice f h.length g,.slice A19 y17.length c21,.slice A29 y27.1.length c31]) call55 rfl rfl rfl,polygon_code_ok n hC.lt (hC.rd (i:=0) rfl) (hC.rd (i:=2) rfl) (hC.rd (i:=3) rfl) h85⟩) ?_
 rintro _ w95 ⟨A86,m87,c88,A90,m91,c92,rfl,hr94,hK⟩
 replace hC:=hC.merge hK
 clear hK
 obtain ⟨rfl,hl96,hc97⟩:=(hC.ow (i:=0) rfl).sl_len
 obtain ⟨rfl,hl98,hc99⟩:=(hC.ow (i:=1) rfl).sl_len
 obtain ⟨y100,h101,hb⟩:=bd hb
 refine lex.cl (⟨_,_,op_call (vs:=[.agg #[.slice A86 y84.1.length c88,.slice A90 y84.2.1.length c92,iv y84.2.2]]) call54 rfl rfl rfl,gauss_Diagram_ok n (hC.lentLt [.slice A86 y84.1.length c88,.slice A90 y84.2.1.length c92]) ((hC.ow (i:=0) rfl).lend (vs:=[.slice A86 y84.1.length c88,.slice A90 y84.2.1.length c92]) (by simp)) ((hC.ow (i:=1) rfl).lend (vs:=[.slice A86 y84.1.length c88,.slice A90 y84.2.1.length c92]) (by simp)) hr94 h101⟩) ?_
 rintro _ w112 ⟨A102,m103,c104,A106,m107,c108,rfl,hr110,hr111,hK⟩
 replace hC:=hC.mergeF hK rfl
 clear hK
 obtain ⟨rfl,hl113,hc114⟩:=(hC.ow (i:=0) rfl).sl_len
 obtain ⟨rfl,hl115,hc116⟩:=(hC.ow (i:=1) rfl).sl_len
 refine lp (.agg #[.slice A102 y100.1.length c104,.slice A106 y100.2.1.length c108,iv y100.2.2.1]) (pu_extract rfl rfl)<|lp (iv y100.2.2.2) (pu_extract rfl rfl)<|lex.sk (hC.seta (i:=5) (ds:=[.slice A102 y100.1.length c104,.slice A106 y100.2.1.length c108,iv y100.2.2.1]) rfl type32 rfl rfl rfl e2 rfl) ?_
 rintro w117 ⟨hC,hF⟩
 refine lp (iv y100.2.2.2) (pu_assign rfl)<|ln (hK83 _ _ ?_)
 obtain rfl:=os hb
 refine Wc.ret (hKR _ _ ?_)
 refine ⟨_,res2 results15 ⟨_,e2,loadVar_blk (hC.bx (i:=5) rfl) isAgg32 sizeOf32⟩ (tV (iv y100.2.2.2) rfl),_,rfl,A102,y100.1.length,c104,A106,y100.2.1.length,c108,rfl,hr110,hr111,hC.sE [0,1]⟩

theorem polygon_Generic_ok (n:Nat) {w:World} {O0:List Nat} (hO: ∀k∈O0,k<w.heap.size) {a:Option Addr} {d b:Nat} {c:List (List (Int×(Int×Int)))} (f:Rep O0 w (.sl (.sl (.pr si (.pr si si)))) [.slice a d b] c) {r:Bool} (hb:F.polygon_Generic n c=some r):
    Calls prog 18 #[.slice a d b] w fun e w'=> ∃v,e=.returned v∧v=.bool r∧Cx (fun _=>False) O0 w w' []:=by
 unfold F.polygon_Generic at hb
 have hC:=Cx.start hO
 replace hC:=hC.arg rfl f
 clear hO
 obtain ⟨rfl,g,h⟩:=f.sl_len
 refine calls_of_Wc func18 rfl (by rw [ntmps18]; exact nb rfl) fun KR hKR=>?_
 refine Wc.seq fun _ hK2=>rg<|lp (.bool false) (pu_assign rfl)<|ln (hK2 _ _ ?_)
 refine Wc.seq fun _ hK3=>?_
 refine Wc.seq fun _ hK4=>rg<|lp (.slice a c.length b) (pu_move rfl) ?_
 obtain ⟨y5,h6,hb⟩:=bd hb
 refine lex.cl (⟨_,_,op_call (vs:=[.slice a c.length b]) call51 rfl rfl rfl,polygon_valid_ok n hC.lt (hC.rd (i:=0) rfl) h6⟩) ?_
 rintro _ w7 ⟨rfl,hK⟩
 replace hC:=hC.merge hK
 clear hK
 refine lp (.bool (!y5)) (pu_not (q:=y5) rfl)<|ln (hK4 _ _ ?_)
 refine Wc.cond (t:=(!y5)) (rfl) (fun hq8=>?_) (fun hq8=>?_)
 replace hb:=tt hq8 hb
 refine Wc.seq fun _ hK9=>rg<|lp (.bool false) (pu_assign rfl)<|ln (hK9 _ _ ?_)
 obtain rfl:=os hb
 refine Wc.ret (hKR _ _ ?_)
 refine ⟨_,res1 results18 (tV (.bool false) rfl),_,rfl,rfl,hC.sE []⟩
 replace hb:=tf hq8 hb
 refine Wc.skip (hK3 _ _ ?_)
 refine Wc.seq fun _ hK10=>rg<|lp (.slice a c.length b) (pu_move rfl) ?_
 obtain ⟨y11,h12,hb⟩:=bd hb
 refine lex.cl (⟨_,_,op_call (vs:=[.slice a c.length b]) call52 rfl rfl rfl,polygon_edges_ok n hC.lt (hC.rd (i:=0) rfl) h12⟩) ?_
 rintro _ w17 ⟨A13,m14,c15,rfl,hK⟩
 replace hC:=hC.merge hK
 clear hK
 obtain ⟨rfl,hl18,hc19⟩:=(hC.ow (i:=0) rfl).sl_len
 replace hC:=hC.freeze (i:=0) rfl (hC.own_new (i:=0) rfl)
 obtain ⟨y20,h21,hb⟩:=bd hb
 refine lex.cl (⟨_,_,op_call (vs:=[.slice A13 y11.length c15]) call53 rfl rfl rfl,polygon_cross_ok n hC.lt (hC.rd (i:=0) rfl) h21⟩) ?_
 rintro _ w26 ⟨A22,m23,c24,rfl,hK⟩
 replace hC:=hC.merge hK
 clear hK
 obtain ⟨rfl,hl27,hc28⟩:=(hC.rd (i:=0) rfl).sl_len
 refine lp (.tuple #[.slice A22 y20.1.length c24,.bool y20.2]) (pu_move rfl)<|lp (.slice A22 y20.1.length c24) (pu_extract rfl rfl)<|lp (.bool y20.2) (pu_extract rfl rfl)<|lp (.slice A22 y20.1.length c24) (pu_assign rfl)<|lp (.bool y20.2) (pu_assign rfl)<|ln (hK10 _ _ ?_)
 refine Wc.seq fun _ hK29=>rg<|lp (.bool y20.2) (pu_move rfl)<|lp (.bool y20.2) (pu_assign rfl)<|ln (hK29 _ _ ?_)
 obtain rfl:=os hb
 refine Wc.ret (hKR _ _ ?_)
 refine ⟨_,res1 results18 (tV (.bool y20.2) rfl),_,rfl,rfl,hC.sE []⟩

theorem law46_awake_ok (n:Nat) {w:World} {O0:List Nat} (hO: ∀k∈O0,k<w.heap.size) {r:Bool} (hb:F.law46_awake n=some r):
    Calls prog 11 #[] w fun e w'=> ∃v,e=.returned v∧v=.bool r∧Cx (fun _=>False) O0 w w' []:=by
 unfold F.law46_awake at hb
 have hC:=Cx.start hO
 clear hO
 refine calls_of_Wc func11 rfl (by rw [ntmps11]; exact nb rfl) fun KR hKR=>?_
 refine Wc.seq fun _ hK1=>rg<|lp (.bool false) (pu_assign rfl)<|ln (hK1 _ _ ?_)
 refine Wc.seq fun _ hK2=>rg<|lp (.agg #[iv 0,iv 0,iv 0]) (pu_builds (places:=[(0,1),(1,1),(2,1)]) (pv:=[(0,iv 0),(1,iv 0),(2,iv 0)]) type23 underlying23 rfl (mp_cons type3 (mp_cons type3 (mp_cons type3 mp_nil rfl rfl) rfl rfl) rfl rfl) rfl (by simp [Instr.fill,Value.cells]))<|lp (.agg #[iv 10,iv 10,iv 0]) (pu_builds (places:=[(0,1),(1,1),(2,1)]) (pv:=[(0,iv 10),(1,iv 10),(2,iv 0)]) type23 underlying23 rfl (mp_cons type3 (mp_cons type3 (mp_cons type3 mp_nil rfl rfl) rfl rfl) rfl rfl) rfl (by simp [Instr.fill,Value.cells]))<|lp (.agg #[iv 10,iv 0,iv 5]) (pu_builds (places:=[(0,1),(1,1),(2,1)]) (pv:=[(0,iv 10),(1,iv 0),(2,iv 5)]) type23 underlying23 rfl (mp_cons type3 (mp_cons type3 (mp_cons type3 mp_nil rfl rfl) rfl rfl) rfl rfl) rfl (by simp [Instr.fill,Value.cells]))<|lp (.agg #[iv 0,iv 10,iv 5]) (pu_builds (places:=[(0,1),(1,1),(2,1)]) (pv:=[(0,iv 0),(1,iv 10),(2,iv 5)]) type23 underlying23 rfl (mp_cons type3 (mp_cons type3 (mp_cons type3 mp_nil rfl rfl) rfl rfl) rfl rfl) rfl (by simp [Instr.fill,Value.cells]))<|lex.op (hC.lit (s:=(.pr si (.pr si si))) (vs:=[.agg #[iv 0,iv 0,iv 0],.agg #[iv 10,iv 10,iv 0],.agg #[iv 10,iv 0,iv 5],.agg #[iv 0,iv 10,iv 5]]) (xs:=[(0,(0,0)),(10,(10,0)),(10,(0,5)),(0,(10,5))]) underlying43 type23 rfl rfl (nb rfl) rfl rfl (by simp [Value.cells,Sh.n]) rfl (show Elems _ _ (.pr si (.pr si si)) ([iv 0,iv 0,iv 0]++([iv 10,iv 10,iv 0]++([iv 10,iv 0,iv 5]++([iv 0,iv 10,iv 5]++([]))))) ([(0,(0,0)),(10,(10,0)),(10,(0,5)),(0,(10,5))]:List (Int×(Int×Int))) from Elems.cons (⟨[iv 0],[iv 0,iv 0],rfl,⟨rfl,I64.wr (show I64 0 from by unfold I64; omega)⟩,⟨[iv 0],[iv 0],rfl,⟨rfl,I64.wr (show I64 0 from by unfold I64; omega)⟩,⟨rfl,I64.wr (show I64 0 from by unfold I64; omega)⟩⟩⟩) (Elems.cons (⟨[iv 10],[iv 10,iv 0],rfl,⟨rfl,I64.wr (show I64 10 from by unfold I64; omega)⟩,⟨[iv 10],[iv 0],rfl,⟨rfl,I64.wr (show I64 10 from by unfold I64; omega)⟩,⟨rfl,I64.wr (show I64 0 from by unfold I64; omega)⟩⟩⟩) (Elems.cons (⟨[iv 10],[iv 0,iv 5],rfl,⟨rfl,I64.wr (show I64 10 from by unfold I64; omega)⟩,⟨[iv 0],[iv 5],rfl,⟨rfl,I64.wr (show I64 0 from by unfold I64; omega)⟩,⟨rfl,I64.wr (show I64 5 from by unfold I64; omega)⟩⟩⟩) (Elems.cons (⟨[iv 0],[iv 10,iv 5],rfl,⟨rfl,I64.wr (show I64 0 from by unfold I64; omega)⟩,⟨[iv 10],[iv 5],rfl,⟨rfl,I64.wr (show I64 10 from by unfold I64; omega)⟩,⟨rfl,I64.wr (show I64 5 from by unfold I64; omega)⟩⟩⟩) (Elems.nil _ _ _)))))) ?_
 rintro _ w7 ⟨A3,c4,rfl,hl5,hc6,hC,-,-⟩
 replace hC:=hC.freeze (i:=0) rfl (hC.own_new (i:=0) rfl)
 refine lex.op (hC.lit (s:=(.sl (.pr si (.pr si si)))) (vs:=[.slice A3 ((([(0,(0,0)),(10,(10,0)),(10,(0,5)),(0,(10,5))]:List (Int×(Int×Int)))).length) c4]) (xs:=[([(0,(0,0)),(10,(10,0)),(10,(0,5)),(0,(10,5))]:List (Int×(Int×Int)))]) underlying28 type43 rfl rfl (nb rfl) rfl rfl (by simp [Value.cells,Sh.n]) rfl (show Elems _ _ (.sl (.pr si (.pr si si))) ([.slice A3 ((([(0,(0,0)),(10,(10,0)),(10,(0,5)),(0,(10,5))]:List (Int×(Int×Int)))).length) c4]++([])) ([([(0,(0,0)),(10,(10,0)),(10,(0,5)),(0,(10,5))]:List (Int×(Int×Int)))]:List (List (Int×(Int×Int)))) from Elems.cons (hC.rd (i:=0) rfl) (Elems.nil _ _ _))) ?_
 rintro _ w13 ⟨A9,c10,rfl,hl11,hc12,hC,-,-⟩
 refine lp (.slice A9 ((([([(0,(0,0)),(10,(10,0)),(10,(0,5)),(0,(10,5))]:List (Int×(Int×Int)))]:List (List (Int×(Int×Int))))).length) c10) (pu_assign rfl)<|ln (hK2 _ _ ?_)
 refine Wc.seq fun _ hK15=>rg<|lp (.slice A9 ((([([(0,(0,0)),(10,(10,0)),(10,(0,5)),(0,(10,5))]:List (Int×(Int×Int)))]:List (List (Int×(Int×Int))))).length) c10) (pu_move rfl) ?_
 obtain ⟨y16,h17,hb⟩:=bd hb
 refine lex.cl (⟨_,_,op_call (vs:=[.slice A9 ((([([(0,(0,0)),(10,(10,0)),(10,(0,5)),(0,(10,5))]:List (Int×(Int×Int)))]:List (List (Int×(Int×Int))))).length) c10]) call15 rfl rfl rfl,polygon_Project_ok n (hC.lentLt [.slice A9 ((([([(0,(0,0)),(10,(10,0)),(10,(0,5)),(0,(10,5))]:List (Int×(Int×Int)))]:List (List (Int×(Int×Int))))).length) c10]) ((hC.ow (i:=0) rfl).lend (vs:=[.slice A9 ((([([(0,(0,0)),(10,(10,0)),(10,(0,5)),(0,(10,5))]:List (Int×(Int×Int)))]:List (List (Int×(Int×Int))))).length) c10]) (by simp)) h17⟩) ?_
 rintro _ w28 ⟨A18,m19,c20,A22,m23,c24,rfl,hr26,hr27,hK⟩
 replace hC:=hC.mergeF hK rfl
 clear hK
 obtain ⟨rfl,hl29,hc30⟩:=(hC.ow (i:=0) rfl).sl_len
 obtain ⟨rfl,hl31,hc32⟩:=(hC.ow (i:=1) rfl).sl_len
 refine lp (.tuple #[.agg #[.slice A18 y16.1.length c20,.slice A22 y16.2.1.length c24,iv y16.2.2.1],iv y16.2.2.2]) (pu_move rfl)<|lp (.agg #[.slice A18 y16.1.length c20,.slice A22 y16.2.1.length c24,iv y16.2.2.1]) (pu_extract rfl rfl)<|lp (iv y16.2.2.2) (pu_extract rfl rfl)<|lex.op (hC.alloc (cs:=[.slice none 0 0,.slice none 0 0,iv 0]) zeroValue32 rfl) ?_
 rintro _ w34 ⟨g33,rfl,hC,hF,-⟩
 refine lex.sk (hC.seta (i:=0) (ds:=[.slice A18 y16.1.length c20,.slice A22 y16.2.1.length c24,iv y16.2.2.1]) rfl type32 rfl rfl rfl rfl rfl) ?_
 rintro w36 ⟨hC,hF⟩
 refine lp (iv y16.2.2.2) (pu_assign rfl)<|ln (hK15 _ _ ?_)
 refine Wc.fresh fun E37 hE=>?_
 have e0:E37 0=.bool false:=cg hE 0 rfl
 have e1:E37 1=.slice A9 ((([([(0,(0,0)),(10,(10,0)),(10,(0,5)),(0,(10,5))]:List (Int×(Int×Int)))]:List (List (Int×(Int×Int))))).length) c10:=cg hE 1 rfl
 have e2:E37 2=pg g33:=cg hE 2 rfl
 have e3:E37 3=iv y16.2.2.2:=cg hE 3 rfl
 clear hE
 refine Wc.seq fun _ hK38=>rg<|lp _ (pu_move e3)<|lp (.bool (decide (y16.2.2.2=0))) (pu_eql (k:=.i64) (a:=y16.2.2.2) (b:=0) rfl rfl)<|lp (.bool (decide (y16.2.2.2=0))) (pu_move rfl) ?_
 rcases bS (decide (y16.2.2.2=0)) with hq39 | hq39
 replace hb:=tt hq39 hb
 refine gp rfl rfl (decide (y16.2.2.2=0)) rfl hq39 (.pointer (some ((⟨g33,0,none⟩:Addr).add 0))) (pu_field (sz:=1) underlying32 rfl sizeOf30 (by decide) rfl e2)<|gv rfl rfl (decide (y16.2.2.2=0)) rfl hq39 (.slice A18 y16.1.length c20) (ld_fld (hC.bx (i:=0) rfl) isAgg30 rfl rfl)<|gp rfl rfl (decide (y16.2.2.2=0)) rfl hq39 (iv (y16.1.length:Int)) (pu_len (A:=A18) (n:=y16.1.length) (m:=c20) underlying30 rfl)<|gp rfl rfl (decide (y16.2.2.2=0)) rfl hq39 (.bool (decide ((y16.1.length:Int)=1))) (pu_eql (k:=.i64) (a:=(y16.1.length:Int)) (b:=1) rfl rfl)<|lp (.bool (decide ((y16.1.length:Int)=1))) (pu_pickT (q:=(decide (y16.2.2.2=0))) rfl hq39 rfl)<|lp (.bool (decide ((y16.1.length:Int)=1))) (pu_move rfl) ?_
 rcases bS (decide ((y16.1.length:Int)=1)) with hq40 | hq40
 replace hb:=tt hq40 hb
 refine gp rfl rfl (decide ((y16.1.length:Int)=1)) rfl hq40 (.pointer (some ((⟨g33,0,none⟩:Addr).add 0))) (pu_field (sz:=1) underlying32 rfl sizeOf30 (by decide) rfl e2)<|gv rfl rfl (decide ((y16.1.length:Int)=1)) rfl hq40 (.slice A18 y16.1.length c20) (ld_fld (hC.bx (i:=0) rfl) isAgg30 rfl rfl) ?_
 obtain ⟨x41,h42,hb⟩:=bd hb
 obtain ⟨ad43,cs44,hA,hc45,hr46⟩:=hC.elo (i:=1) rfl (get_some h42).2
 subst hA
 refine gp rfl rfl (decide ((y16.1.length:Int)=1)) rfl hq40 (.pointer (some (ad43.add ((0:Int).toNat*1)))) (pu_index (a:=0) underlying30 sizeOf3 rfl rfl (get_some h42).1) ?_
 obtain ⟨rfl,hr46'⟩:=hr46
 refine gv rfl rfl (decide ((y16.1.length:Int)=1)) rfl hq40 (iv x41) (ld_one isAgg3 rfl (hc45 0 _ rfl))<|gp rfl rfl (decide ((y16.1.length:Int)=1)) rfl hq40 (.bool (decide (x41=(-1)))) (pu_eql (k:=.i64) (a:=x41) (b:=(-1)) rfl rfl)<|lp (.bool (decide (x41=(-1)))) (pu_pickT (q:=(decide ((y16.1.length:Int)=1))) rfl hq40 rfl)<|lp (.bool (decide (x41=(-1)))) (pu_move rfl) ?_
 rcases bS (decide (x41=(-1))) with hq47 | hq47
 replace hb:=tt hq47 hb
 refine gp rfl rfl (decide (x41=(-1))) rfl hq47 (.pointer (some ((⟨g33,0,none⟩:Addr).add 2))) (pu_field (sz:=1) underlying32 rfl sizeOf3 (by decide) rfl e2)<|gv rfl rfl (decide (x41=(-1))) rfl hq47 (iv y16.2.2.1) (ld_fld (hC.bx (i:=0) rfl) isAgg3 rfl rfl)<|gp rfl rfl (decide (x41=(-1))) rfl hq47 (.bool (decide (y16.2.2.1=0))) (pu_eql (k:=.i64) (a:=y16.2.2.1) (b:=0) rfl rfl)<|lp (.bool (decide (y16.2.2.1=0))) (pu_pickT (q:=(decide (x41=(-1)))) rfl hq47 rfl)<|lp (.bool (decide (y16.2.2.1=0))) (pu_move rfl) ?_
 rcases bS (decide (y16.2.2.1=0)) with hq48 | hq48
 replace hb:=tt hq48 hb
 refine gp rfl rfl (decide (y16.2.2.1=0)) rfl hq48 (.slice A9 ((([([(0,(0,0)),(10,(10,0)),(10,(0,5)),(0,(10,5))]:List (Int×(Int×Int)))]:List (List (Int×(Int×Int))))).length) c10) (pu_move e1) ?_
 obtain ⟨y49,h50,hb⟩:=bd hb
 refine lex.gcl (want_t rfl rfl (show _=Value.bool (decide (y16.2.2.1=0)) from rfl) hq48) (⟨_,_,op_call (vs:=[.slice A9 ((([([(0,(0,0)),(10,(10,0)),(10,(0,5)),(0,(10,5))]:List (Int×(Int×Int)))]:List (List (Int×(Int×Int))))).length) c10]) call18 rfl rfl rfl,polygon_Generic_ok n (hC.lentLt [.slice A9 ((([([(0,(0,0)),(10,(10,0)),(10,(0,5)),(0,(10,5))]:List (Int×(Int×Int)))]:List (List (Int×(Int×Int))))).length) c10]) ((hC.ow (i:=3) rfl).lend (vs:=[.slice A9 ((([([(0,(0,0)),(10,(10,0)),(10,(0,5)),(0,(10,5))]:List (Int×(Int×Int)))]:List (List (Int×(Int×Int))))).length) c10]) (by simp)) h50⟩) ?_
 rintro _ w51 ⟨rfl,hK⟩
 replace hC:=hC.mergeF hK rfl
 clear hK
 refine lp (.bool y49) (pu_pickT (q:=(decide (y16.2.2.1=0))) rfl hq48 rfl)<|lp (.bool y49) (pu_assign rfl)<|ln (hK38 _ _ ?_)
 obtain rfl:=os hb
 refine Wc.ret (hKR _ _ ?_)
 refine ⟨_,res1 results11 (tV (.bool y49) rfl),_,rfl,rfl,hC.sE []⟩
 replace hb:=tf hq48 hb
 refine gs rfl rfl (decide (y16.2.2.1=0)) rfl hq48<|gs rfl rfl (decide (y16.2.2.1=0)) rfl hq48<|lp (.bool false) (pu_pickF (q:=(decide (y16.2.2.1=0))) rfl hq48 rfl)<|lp (.bool false) (pu_assign rfl)<|ln (hK38 _ _ ?_)
 obtain rfl:=os hb
 refine Wc.ret (hKR _ _ ?_)
 refine ⟨_,res1 results11 (tV (.bool false) rfl),_,rfl,rfl,hC.sE []⟩
 replace hb:=tf hq47 hb
 refine gs rfl rfl (decide (x41=(-1))) rfl hq47<|gs rfl rfl (decide (x41=(-1))) rfl hq47<|gs rfl rfl (decide (x41=(-1))) rfl hq47<|lp (.bool false) (pu_pickF (q:=(decide (x41=(-1)))) rfl hq47 rfl)<|lp (.bool false) (pu_move rfl)<|gs rfl rfl false rfl rfl<|gs rfl rfl false rfl rfl<|lp (.bool false) (pu_pickF (q:=false) rfl rfl rfl)<|lp (.bool false) (pu_assign rfl)<|ln (hK38 _ _ ?_)
 obtain rfl:=os hb
 refine Wc.ret (hKR _ _ ?_)
 refine ⟨_,res1 results11 (tV (.bool false) rfl),_,rfl,rfl,hC.sE []⟩
 replace hb:=tf hq40 hb
 refine gs rfl rfl (decide ((y16.1.length:Int)=1)) rfl hq40<|gs rfl rfl (decide ((y16.1.length:Int)=1)) rfl hq40<|gs rfl rfl (decide ((y16.1.length:Int)=1)) rfl hq40<|gs rfl rfl (decide ((y16.1.length:Int)=1)) rfl hq40<|gs rfl rfl (decide ((y16.1.length:Int)=1)) rfl hq40<|lp (.bool false) (pu_pickF (q:=(decide ((y16.1.length:Int)=1))) rfl hq40 rfl)<|lp (.bool false) (pu_move rfl)<|gs rfl rfl false rfl rfl<|gs rfl rfl false rfl rfl<|gs rfl rfl false rfl rfl<|lp (.bool false) (pu_pickF (q:=false) rfl rfl rfl)<|lp (.bool false) (pu_move rfl)<|gs rfl rfl false rfl rfl<|gs rfl rfl false rfl rfl<|lp (.bool false) (pu_pickF (q:=false) rfl rfl rfl)<|lp (.bool false) (pu_assign rfl)<|ln (hK38 _ _ ?_)
 obtain rfl:=os hb
 refine Wc.ret (hKR _ _ ?_)
 refine ⟨_,res1 results11 (tV (.bool false) rfl),_,rfl,rfl,hC.sE []⟩
 replace hb:=tf hq39 hb
 refine gs rfl rfl (decide (y16.2.2.2=0)) rfl hq39<|gs rfl rfl (decide (y16.2.2.2=0)) rfl hq39<|gs rfl rfl (decide (y16.2.2.2=0)) rfl hq39<|gs rfl rfl (decide (y16.2.2.2=0)) rfl hq39<|lp (.bool false) (pu_pickF (q:=(decide (y16.2.2.2=0))) rfl hq39 rfl)<|lp (.bool false) (pu_move rfl)<|gs rfl rfl false rfl rfl<|gs rfl rfl false rfl rfl<|gs rfl rfl false rfl rfl<|gs rfl rfl false rfl rfl<|gs rfl rfl false rfl rfl<|lp (.bool false) (pu_pickF (q:=false) rfl rfl rfl)<|lp (.bool false) (pu_move rfl)<|gs rfl rfl false rfl rfl<|gs rfl rfl false rfl rfl<|gs rfl rfl false rfl rfl<|lp (.bool false) (pu_pickF (q:=false) rfl rfl rfl)<|lp (.bool false) (pu_move rfl)<|gs rfl rfl false rfl rfl<|gs rfl rfl false rfl rfl<|lp (.bool false) (pu_pickF (q:=false) rfl rfl rfl)<|lp (.bool false) (pu_assign rfl)<|ln (hK38 _ _ ?_)
 obtain rfl:=os hb
 refine Wc.ret (hKR _ _ ?_)
 refine ⟨_,res1 results11 (tV (.bool false) rfl),_,rfl,rfl,hC.sE []⟩
end Go.Proofs.Yteajmbanlohncaa
