import Derived.Test.YteajmbanlohncaaS
import Derived.Test.YteajmbanlohncaaG5
set_option linter.unusedVariables false
set_option linter.unusedSimpArgs false
namespace Go.Proofs.Yteajmbanlohncaa
open Ev Try
set_option maxRecDepth 100000
set_option maxHeartbeats 4000000
theorem slices_Grow_Point_Point_nil_ok (n:Nat) {w:World} {O0:List Nat} (hO: ∀k∈O0,k<w.heap.size) {c:Int} (d:I64 c) {r:(List (Int×(Int×Int)))} (hb:F.slices_Grow_Point_Point_nil n c=some r):
    Calls prog 76 #[.slice none 0 0,iv c] w fun e w'=> ∃v,e=.returned v∧∃(A0:Option Addr) (m0 c0:Nat),v=.slice A0 m0 c0∧Cx (fun _=>False) O0 w w' [.own 23 (.pr si (.pr si si)) (.slice A0 m0 c0) r]:=by
 unfold F.slices_Grow_Point_Point_nil at hb
 have hC:=Cx.start hO
 clear hO
 refine calls_of_Wc func76 rfl (by rw [ntmps76]; exact nb rfl) fun KR hKR=>?_
 refine Wc.seq fun _ hK1=>rg<|lp (.slice none 0 0) (pu_assign rfl)<|ln (hK1 _ _ ?_)
 refine Wc.seq fun _ hK2=>?_
 refine Wc.seq fun _ hK3=>rg<|lp (iv c) (pu_move rfl)<|lp (.bool (decide (c<0))) (pu_lss (k:=.i64) (a:=c) (b:=0) rfl rfl)<|ln (hK3 _ _ ?_)
 refine Wc.cond (t:=(decide (c<0))) (rfl) (fun hq4=>?_) (fun hq4=>?_)
 replace hb:=tt hq4 hb
 cases hb
 replace hb:=tf hq4 hb
 refine Wc.skip (hK2 _ _ ?_)
 refine Wc.seq fun _ hK5=>?_
 refine Wc.seq fun _ hK6=>rg<|lp (iv c) (pu_move rfl)<|lp (.slice none 0 0) (pu_move rfl)<|lp (iv 0) (pu_cap (A:=none) (n:=0) (m:=0) underlying43 rfl)<|lp (.slice none 0 0) (pu_move rfl)<|lp (iv 0) (pu_len (A:=none) (n:=0) (m:=0) underlying43 rfl) ?_
 obtain ⟨z7,h8,hb⟩:=bd hb
 refine lp (iv z7) (pu_subc (a:=0) (b:=0) rfl rfl h8) ?_
 obtain ⟨z9,h10,hb⟩:=bd hb
 refine lp (iv z9) (pu_subc (a:=c) (b:=z7) rfl rfl h10)<|lp (iv z9) (pu_assign rfl)<|ln (hK6 _ _ ?_)
 refine Wc.fresh fun E11 hE=>?_
 have e0:E11 0=.slice none 0 0:=cg hE 0 rfl
 have e1:E11 1=iv z9:=cg hE 1 rfl
 have e4:E11 4=.slice none 0 0:=cg hE 4 rfl
 clear hE
 refine Wc.seq fun _ hK12=>rg<|lp _ (pu_move e1)<|lp (.bool (decide (0<z9))) (pu_gtr (k:=.i64) (a:=z9) (b:=0) rfl rfl)<|ln (hK12 _ _ ?_)
 refine Wc.cond (t:=(decide (0<z9))) (rfl) (fun hq13=>?_) (fun hq13=>?_)
 replace hb:=tt hq13 hb
 refine rg<|lp _ (pu_move e0)<|lp _ (pu_move e0)<|lp (iv 0) (pu_cap (A:=none) (n:=0) (m:=0) underlying43 rfl)<|lp (.slice none 0 0) (pu_nilcut underlying43 sizeOf23 rfl rfl)<|lp _ (pu_move e1) ?_
 obtain ⟨u14,h15,hb⟩:=bd hb
 refine lex.op (hC.appz (s:=(.pr si (.pr si si))) (n:=z9) underlying43 underlying3 type23 rfl rfl rfl rfl rfl (posz_some h15).1 (posz_some h15).2 (by decide)) ?_
 rintro _ w20 ⟨A16,c17,rfl,hl18,hc19,hC,-,-⟩
 refine lp _ (pu_move e0)<|lp (iv 0) (pu_len (A:=none) (n:=0) (m:=0) underlying43 rfl) ?_
 obtain ⟨u22,h23,hb⟩:=bd hb
 refine lp (.slice A16 (((List.replicate z9.toNat ((0:Int),((0:Int),(0:Int)))).take (0:Int).toNat).length) c17) (pu_cuth (b:=0) underlying43 sizeOf23 rfl rfl (hC.ow (i:=0) rfl).sl_len (cut_some h23)) ?_
 replace hC:=hC.cuth (i:=0) rfl (k:=(0:Int).toNat) (by have:=cut_some h23; omega)
 obtain ⟨-,hl24,hc25⟩:=(hC.ow (i:=0) rfl).sl_len
 refine lp (.slice A16 (((List.replicate z9.toNat ((0:Int),((0:Int),(0:Int)))).take (0:Int).toNat).length) c17) (pu_assign rfl)<|ln (hK5 _ _ ?_)
 refine Wc.seq fun _ hK26=>rg<|lp (.slice A16 (((List.replicate z9.toNat ((0:Int),((0:Int),(0:Int)))).take (0:Int).toNat).length) c17) (pu_move rfl)<|lp (.slice A16 (((List.replicate z9.toNat ((0:Int),((0:Int),(0:Int)))).take (0:Int).toNat).length) c17) (pu_assign rfl)<|ln (hK26 _ _ ?_)
 obtain rfl:=os hb
 refine Wc.ret (hKR _ _ ?_)
 refine ⟨_,res1 results76 (tV (.slice A16 (((List.replicate z9.toNat ((0:Int),((0:Int),(0:Int)))).take (0:Int).toNat).length) c17) rfl),_,rfl,A16,((List.replicate z9.toNat ((0:Int),((0:Int),(0:Int)))).take (0:Int).toNat).length,c17,rfl,hC.sE [0]⟩
 replace hb:=tf hq13 hb
 refine Wc.skip (hK5 _ _ ?_)
 refine Wc.seq fun _ hK27=>rg<|lp _ (pu_move e0)<|lp (.slice none 0 0) (pu_assign rfl)<|ln (hK27 _ _ ?_)
 replace hC:=hC.nil 23 (.pr si (.pr si si))
 obtain rfl:=os hb
 refine Wc.ret (hKR _ _ ?_)
 refine ⟨_,res1 results76 (tV (.slice none 0 0) rfl),_,rfl,none,0,0,rfl,hC.sE [0]⟩

theorem slices_Concat_Point_Point_ok (n:Nat) {w:World} {O0:List Nat} (hO: ∀k∈O0,k<w.heap.size) {d:Option Addr} {u f:Nat} {c:List (List (Int×(Int×Int)))} (x:Rep O0 w (.sl (.sl (.pr si (.pr si si)))) [.slice d u f] c) {r:(List (Int×(Int×Int)))} (hb:F.slices_Concat_Point_Point n c=some r):
    Calls prog 39 #[.slice d u f] w fun e w'=> ∃v,e=.returned v∧∃(A0:Option Addr) (m0 c0:Nat),v=.slice A0 m0 c0∧Cx (fun _=>False) O0 w w' [.own 23 (.pr si (.pr si si)) (.slice A0 m0 c0) r]:=by
 unfold F.slices_Concat_Point_Point at hb
 have hC:=Cx.start hO
 replace hC:=hC.arg rfl x
 clear hO
 obtain ⟨rfl,G,H⟩:=x.sl_len
 refine calls_of_Wc func39 rfl (by rw [ntmps39]; exact nb rfl) fun KR hKR=>?_
 refine Wc.seq fun _ hK2=>rg<|lp (.slice none 0 0) (pu_assign rfl)<|ln (hK2 _ _ ?_)
 refine Wc.seq fun _ hK3=>rg<|lp (iv 0) (pu_assign rfl)<|ln (hK3 _ _ ?_)
 refine Wc.seq fun _ hK4=>?_
 refine Wc.seq fun _ hK5=>rg<|lp (.slice d c.length f) (pu_move rfl)<|lp (iv (c.length:Int)) (pu_len (A:=d) (n:=c.length) (m:=f) underlying28 rfl)<|lp (iv 0) (pu_move rfl)<|ln (hK5 _ _ ?_)
 obtain ⟨o6,hl0,hb⟩:=bd hb
 refine Wc.cut (fun E wv=> ∃(p:Int) (j:Int),E 0=.slice d c.length f∧E 2=.slice none 0 0∧E 3=iv p∧I64 p∧I64 j∧Cx (fun _=>False) O0 w wv [.ro (.sl (.sl (.pr si (.pr si si)))) [.slice d c.length f] c]∧((F.slices_Grow_Point_Point_nil n p).bind fun y40=>((loopN n (F.slices_Concat_Point_Point_b1 n c) (y40,0)).bind fun o51=>match o51 with | (g,h)=>some g):Option ((List (Int×(Int×Int)))))=some r) (fun _ hK7=>?_) ?_
 refine Wc.block ?_
 refine Wc.loop (fun m E wv=> ∃(p:Int) (j:Int),E 0=.slice d c.length f∧E 2=.slice none 0 0∧E 3=iv p∧E 9=.slice d c.length f∧E 10=iv (c.length:Int)∧E 11=iv j∧I64 p∧I64 j∧Cx (fun _=>False) O0 w wv [.ro (.sl (.sl (.pr si (.pr si si)))) [.slice d c.length f] c]∧loopN m (F.slices_Concat_Point_Point_b0 n c) (p,j)=some o6) n ⟨0,0,rfl,rfl,rfl,rfl,rfl,rfl,(show I64 0 from by unfold I64; omega),(show I64 0 from by unfold I64; omega),hC.sE [0],hl0⟩ ?_
 have hbK0:=hb
 clear hb hC hl0
 rintro m9 E11 w10 ⟨p,j,e0,e2,e3,e9,e10,e11,y,z,hC,hl0⟩ K8 hK8
 obtain ⟨m9',o12,rfl,hb,hl0⟩:=loopN_some hl0
 unfold F.slices_Concat_Point_Point_b0 at hb
 refine Wc.seq fun _ hK13=>rg<|lp _ (pu_lss e11 e10)<|ln (hK13 _ _ ?_)
 refine Wc.seq fun _ hK14=>?_
 refine Wc.cond (t:=(decide (j<(c.length:Int)))) (rfl) (fun hq15=>?_) (fun hq15=>?_)
 replace hb:=tt hq15 hb
 refine Wc.skip (hK14 _ _ ?_)
 refine Wc.seq fun _ hK16=>?_
 refine Wc.block<|Wc.seq fun _ hK17=>rg ?_
 obtain ⟨x18,h19,hb⟩:=bd hb
 obtain ⟨ad20,cs21,hA,hc22,hr23⟩:=hC.elr (i:=0) rfl (get_some h19).2
 subst hA
 refine lp (.pointer (some (ad20.add (j.toNat*1)))) (pu_index (a:=j) underlying28 sizeOf43 e9 e11 (get_some h19).1) ?_
 have hR:=hr23
 obtain ⟨A24,c25,rfl,hl26,hc27,_⟩:=hr23
 replace hC:=hC.ro hR
 clear hR
 refine lv (.slice A24 x18.length c25) (ld_one isAgg43 rfl (hc22 0 _ rfl))<|lp (.slice A24 x18.length c25) (pu_assign rfl)<|ln (hK17 _ _ ?_)
 refine Wc.seq fun _ hK29=>rg<|lp _ (pu_move e3)<|lp (.slice A24 x18.length c25) (pu_move rfl)<|lp (iv (x18.length:Int)) (pu_len (A:=A24) (n:=x18.length) (m:=c25) underlying43 rfl) ?_
 obtain ⟨z30,h31,hb⟩:=bd hb
 refine lp (iv z30) (pu_addc (a:=p) (b:=(x18.length:Int)) rfl rfl h31)<|lp (iv z30) (pu_assign rfl)<|ln (hK29 _ _ ?_)
 refine Wc.seq fun _ hK32=>rg<|lp (iv z30) (pu_move rfl)<|lp (.bool (decide (z30<0))) (pu_lss (k:=.i64) (a:=z30) (b:=0) rfl rfl)<|ln (hK32 _ _ ?_)
 refine Wc.fresh fun E33 hE=>?_
 have e0:=cg hE 0 e0
 have e2:=cg hE 2 e2
 have e3:E33 3=iv z30:=cg hE 3 rfl
 have e5:E33 5=.slice A24 x18.length c25:=cg hE 5 rfl
 have e9:=cg hE 9 e9
 have e10:=cg hE 10 e10
 have e11:=cg hE 11 e11
 have e12:E33 12=.bool (decide (j<(c.length:Int))):=cg hE 12 rfl
 have e20:E33 20=.bool (decide (z30<0)):=cg hE 20 rfl
 clear hE
 refine Wc.cond (t:=(decide (z30<0))) (e20) (fun hq34=>?_) (fun hq34=>?_)
 replace hb:=tt hq34 hb
 cases hb
 replace hb:=tf hq34 hb
 refine Wc.skip (hK16 _ _ ?_)
 refine rg ?_
 obtain ⟨z35,h36,hb⟩:=bd hb
 refine lp (iv z35) (pu_addc (a:=j) (b:=1) e11 rfl h36)<|lp (iv z35) (pu_move rfl)<|ln ?_
 obtain rfl:=os hb
 exact hK8 m9' _ _ (Nat.lt_succ_self _) ⟨z30,z35,e0,e2,e3,e9,e10,rfl,(chk_rng h31),(chk_rng h36),hC.sE [1],lN hl0⟩
 replace hb:=tf hq15 hb
 refine Wc.exit rfl ?_
 obtain rfl:=os hb
 obtain rfl:=(lX hl0).symm
 exact hK7 _ _ ⟨p,j,e0,e2,e3,y,z,hC.sE [0],hbK0⟩
 clear hb hC hl0
 rintro E38 w37 ⟨p,j,e0,e2,e3,y,z,hC,hb⟩
 refine hK4 _ _<|Wc.seq fun _ hK39=>rg<|lp _ (pu_move e3) ?_
 obtain ⟨y40,h41,hb⟩:=bd hb
 refine lex.cl (⟨_,_,op_call (vs:=[.slice none 0 0,iv p]) call76 rfl rfl rfl,slices_Grow_Point_Point_nil_ok n hC.lt y h41⟩) ?_
 rintro _ w46 ⟨A42,m43,c44,rfl,hK⟩
 replace hC:=hC.merge hK
 clear hK
 obtain ⟨rfl,hl47,hc48⟩:=(hC.ow (i:=0) rfl).sl_len
 refine lp (.slice A42 y40.length c44) (pu_assign rfl)<|ln (hK39 _ _ ?_)
 refine Wc.seq fun _ hK49=>?_
 refine Wc.seq fun _ hK50=>rg<|lp _ (pu_move e0)<|lp (iv (c.length:Int)) (pu_len (A:=d) (n:=c.length) (m:=f) underlying28 rfl)<|lp (iv 0) (pu_move rfl)<|ln (hK50 _ _ ?_)
 obtain ⟨o51,hl1,f51,hf51,hb⟩:=bn hb
 refine Wc.cut (fun E wv=> ∃(g:List (Int×(Int×Int))) (h:Int) (l:Option Addr) (q o:Nat),E 2=.slice none 0 0∧E 6=.slice l q o∧I64 h∧Cx (fun _=>False) O0 w wv [.own 23 (.pr si (.pr si si)) (.slice l q o) g]∧f51 (g,h)=some r) (fun _ hK52=>?_) ?_
 refine Wc.block ?_
 refine Wc.loop (fun m E wv=> ∃(g:List (Int×(Int×Int))) (h:Int) (l:Option Addr) (q o:Nat),E 2=.slice none 0 0∧E 6=.slice l q o∧E 25=.slice d c.length f∧E 26=iv (c.length:Int)∧E 27=iv h∧I64 h∧Cx (fun _=>False) O0 w wv [.own 23 (.pr si (.pr si si)) (.slice l q o) g,.ro (.sl (.sl (.pr si (.pr si si)))) [.slice d c.length f] c]∧loopN m (F.slices_Concat_Point_Point_b1 n c) (g,h)=some o51) n ⟨y40,0,A42,y40.length,c44,e2,rfl,rfl,rfl,rfl,(show I64 0 from by unfold I64; omega),hC.sE [0,1],hl1⟩ ?_
 have hbK1:=hb
 clear hb hC hl1
 rintro m54 E56 w55 ⟨g,h,l,q,o,e2,e6,e25,e26,e27,B,hC,hl1⟩ K53 hK53
 obtain ⟨m54',o57,rfl,hb,hl1⟩:=loopN_some hl1
 unfold F.slices_Concat_Point_Point_b1 at hb
 obtain ⟨rfl,C,D⟩:=(hC.ow (i:=0) rfl).sl_len
 refine Wc.seq fun _ hK58=>rg<|lp _ (pu_lss e27 e26)<|ln (hK58 _ _ ?_)
 refine Wc.seq fun _ hK59=>?_
 refine Wc.cond (t:=(decide (h<(c.length:Int)))) (rfl) (fun hq60=>?_) (fun hq60=>?_)
 replace hb:=tt hq60 hb
 refine Wc.skip (hK59 _ _ ?_)
 refine Wc.seq fun _ hK61=>?_
 refine Wc.block<|Wc.seq fun _ hK62=>rg ?_
 obtain ⟨x63,h64,hb⟩:=bd hb
 obtain ⟨ad65,cs66,hA,hc67,hr68⟩:=hC.elr (i:=1) rfl (get_some h64).2
 subst hA
 refine lp (.pointer (some (ad65.add (h.toNat*1)))) (pu_index (a:=h) underlying28 sizeOf43 e25 e27 (get_some h64).1) ?_
 have hR:=hr68
 obtain ⟨A69,c70,rfl,hl71,hc72,_⟩:=hr68
 replace hC:=hC.ro hR
 clear hR
 refine lv (.slice A69 x63.length c70) (ld_one isAgg43 rfl (hc67 0 _ rfl))<|lp (.slice A69 x63.length c70) (pu_assign rfl)<|ln (hK62 _ _ ?_)
 refine rg<|lp _ (pu_move e6)<|lp (.slice A69 x63.length c70) (pu_move rfl) ?_
 obtain ⟨u74,h75,hb⟩:=bd hb
 refine lex.op (hC.app (i:=1) (s:=(.pr si (.pr si si))) (xs:=g) (ys:=x63) (m:=x63.length) rfl underlying43 underlying43 type23 rfl rfl rfl (hC.srcr (i:=0) rfl) rfl rfl (by have:=lim_some h75; simp at this⊢ <;>omega) (by decide)) ?_
 rintro _ w80 ⟨A76,c77,rfl,hl78,hc79,hC,-,-⟩
 refine lp (.slice A76 ((g++x63).length) c77) (pu_assign rfl)<|ln (hK61 _ _ ?_)
 refine rg ?_
 obtain ⟨z81,h82,hb⟩:=bd hb
 refine lp (iv z81) (pu_addc (a:=h) (b:=1) e27 rfl h82)<|lp (iv z81) (pu_move rfl)<|ln ?_
 obtain rfl:=os hb
 exact hK53 m54' _ _ (Nat.lt_succ_self _) ⟨(g++x63),z81,A76,(g++x63).length,c77,e2,rfl,e25,e26,rfl,(chk_rng h82),hC.sE [1,2],lN hl1⟩
 replace hb:=tf hq60 hb
 refine Wc.exit rfl ?_
 obtain rfl:=os hb
 obtain rfl:=(lX hl1).symm
 exact hK52 _ _ ⟨g,h,l,g.length,o,e2,e6,B,hC.sE [0],hbK1⟩
 clear hb hC hl1
 rintro E84 w83 ⟨g,h,l,q,o,e2,e6,B,hC,hb⟩
 subst hf51
 obtain ⟨rfl,C,D⟩:=(hC.ow (i:=0) rfl).sl_len
 refine hK49 _ _<|Wc.seq fun _ hK85=>rg<|lp _ (pu_move e6)<|lp (.slice l g.length o) (pu_assign rfl)<|ln (hK85 _ _ ?_)
 obtain rfl:=os hb
 refine Wc.ret (hKR _ _ ?_)
 refine ⟨_,res1 results39 (tV (.slice l g.length o) rfl),_,rfl,l,g.length,o,rfl,hC.sE [0]⟩

theorem slices_Clone_Point_Point_ok (n:Nat) {w:World} {O0:List Nat} (hO: ∀k∈O0,k<w.heap.size) {a:Option Addr} {d c:Nat} {b:List (Int×(Int×Int))} (f:Rep O0 w (.sl (.pr si (.pr si si))) [.slice a d c] b) {r:(List (Int×(Int×Int)))} (hb:F.slices_Clone_Point_Point n b=some r):
    Calls prog 36 #[.slice a d c] w fun e w'=> ∃v,e=.returned v∧∃(A0:Option Addr) (m0 c0:Nat),v=.slice A0 m0 c0∧Cx (fun _=>False) O0 w w' [.own 23 (.pr si (.pr si si)) (.slice A0 m0 c0) r]:=by
 unfold F.slices_Clone_Point_Point at hb
 have hC:=Cx.start hO
 replace hC:=hC.arg rfl f
 clear hO
 obtain ⟨rfl,g,h⟩:=f.sl_len
 refine calls_of_Wc func36 rfl (by rw [ntmps36]; exact nb rfl) fun KR hKR=>?_
 refine Wc.seq fun _ hK2=>rg<|lp (.slice none 0 0) (pu_assign rfl)<|ln (hK2 _ _ ?_)
 refine Wc.seq fun _ hK3=>?_
 refine Wc.seq fun _ hK4=>rg<|lp (.slice a b.length c) (pu_move rfl)<|lp (.bool a.isNone) (pu_eqlnil underlying43 rfl rfl)<|ln (hK4 _ _ ?_)
 refine Wc.cond (t:=a.isNone) (rfl) (fun hq5=>?_) (fun hq5=>?_)
 have hz:a=none:=by simpa using hq5
 have hx:=(hC.rd (i:=0) rfl).none_nil' hz
 replace hb:some ([])=some r:=by have hb2:=hb; rw [hx] at hb2; first | exact hb2 | simpa [lim] using hb2
 refine Wc.seq fun _ hK7=>rg<|lp (.slice none 0 0) (pu_assign rfl)<|ln (hK7 _ _ ?_)
 replace hC:=hC.nil 23 (.pr si (.pr si si))
 obtain rfl:=os hb
 refine Wc.ret (hKR _ _ ?_)
 refine ⟨_,res1 results36 (tV (.slice none 0 0) rfl),_,rfl,none,0,0,rfl,hC.sE [0]⟩
 refine Wc.skip (hK3 _ _ ?_)
 refine Wc.seq fun _ hK9=>rg<|lex.op (hC.lit (s:=(.pr si (.pr si si))) (vs:=[]) (xs:=[]) underlying43 type23 rfl rfl (nb rfl) rfl rfl (by simp [Value.cells,Sh.n]) rfl (show Elems _ _ (.pr si (.pr si si)) ([]) ([]:List (Int×(Int×Int))) from Elems.nil _ _ _)) ?_
 rintro _ w14 ⟨A10,c11,rfl,hl12,hc13,hC,-,-⟩
 refine lp (.slice a b.length c) (pu_move rfl) ?_
 obtain ⟨u16,h17,hb⟩:=bd hb
 refine lex.op (hC.app (i:=0) (s:=(.pr si (.pr si si))) (xs:=([]:List (Int×(Int×Int)))) (ys:=b) (m:=b.length) rfl underlying43 underlying43 type23 rfl rfl rfl (hC.srcr (i:=1) rfl) rfl rfl (by have:=lim_some h17; simp at this⊢ <;>omega) (by decide)) ?_
 rintro _ w22 ⟨A18,c19,rfl,hl20,hc21,hC,-,-⟩
 refine lp (.slice A18 ((([]:List (Int×(Int×Int)))++b).length) c19) (pu_assign rfl)<|ln (hK9 _ _ ?_)
 obtain rfl:=os hb
 refine Wc.ret (hKR _ _ ?_)
 refine ⟨_,res1 results36 (tV (.slice A18 ((([]:List (Int×(Int×Int)))++b).length) c19) rfl),_,rfl,A18,(([]:List (Int×(Int×Int)))++b).length,c19,rfl,hC.sE [0]⟩

theorem slices_Reverse_Point_Point_ok (n:Nat) {w:World} {O0:List Nat} (hO: ∀k∈O0,k<w.heap.size) {g:Option Addr} {o f:Nat} {h:List (Int×(Int×Int))} (hio:Tk O0 w [.own 23 (.pr si (.pr si si)) (.slice g o f) h]) {r:(List (Int×(Int×Int)))} (hb:F.slices_Reverse_Point_Point n h=some r):
    Calls prog 40 #[.slice g o f] w fun e w'=> ∃v,e=.returned v∧v=.tuple #[]∧Cx (fun k=>k∈blocks [.own 23 (.pr si (.pr si si)) (.slice g o f) h]) O0 w w' [.own 23 (.pr si (.pr si si)) (.slice g o f) r]:=by
 unfold F.slices_Reverse_Point_Point at hb
 have hC:=Cx.startTk hO hio
 have hsub:=hio.2.2
 clear hO
 obtain ⟨rfl,s,x⟩:=(hC.ow (i:=0) rfl).sl_len
 clear hio hsub
 obtain ⟨I,hI,hC⟩: ∃I:Nat→Prop,I=(fun k=>k∈blocks [.own 23 (.pr si (.pr si si)) (.slice g h.length f) h])∧Cx I O0 w w ([.own 23 (.pr si (.pr si si)) (.slice g h.length f) h]):=⟨_,rfl,hC⟩
 refine calls_of_Wc func40 rfl (by rw [ntmps40]; exact nb rfl) fun KR hKR=>?_
 refine Wc.seq fun _ hK2=>rg<|lp (.slice g h.length f) (pu_move rfl)<|lp (iv (h.length:Int)) (pu_len (A:=g) (n:=h.length) (m:=f) underlying43 rfl) ?_
 obtain ⟨z3,h4,hb⟩:=bd hb
 refine lp (iv z3) (pu_subc (a:=(h.length:Int)) (b:=1) rfl rfl h4)<|lp (iv 0) (pu_assign rfl)<|lp (iv z3) (pu_assign rfl)<|ln (hK2 _ _ ?_)
 obtain ⟨o5,hl0,f5,hf5,hb⟩:=bn hb
 refine Wc.cut (fun E wv=> ∃(c:Int) (d:Int) (l:List (Int×(Int×Int))),I64 c∧I64 d∧Cx I O0 w wv [.own 23 (.pr si (.pr si si)) (.slice g h.length f) l]∧f5 (c,d,l)=some r) (fun _ hK6=>?_) ?_
 refine Wc.block ?_
 refine Wc.loop (fun m E wv=> ∃(c:Int) (d:Int) (l:List (Int×(Int×Int))),E 0=.slice g h.length f∧E 2=iv c∧E 3=iv d∧I64 c∧I64 d∧Cx I O0 w wv [.own 23 (.pr si (.pr si si)) (.slice g h.length f) l]∧loopN m (F.slices_Reverse_Point_Point_b0 n) (c,d,l)=some o5) n ⟨0,z3,h,rfl,rfl,rfl,(show I64 0 from by unfold I64; omega),(chk_rng h4),hC.sE [0],hl0⟩ ?_
 have hbK0:=hb
 clear hb hC hl0
 rintro m8 E10 w9 ⟨c,d,l,e0,e2,e3,p,q,hC,hl0⟩ K7 hK7
 obtain ⟨m8',o11,rfl,hb,hl0⟩:=loopN_some hl0
 unfold F.slices_Reverse_Point_Point_b0 at hb
 refine Wc.seq fun _ hK12=>?_
 refine Wc.seq fun _ hK13=>rg<|lp _ (pu_move e2)<|lp _ (pu_move e3)<|lp (.bool (decide (c<d))) (pu_lss (k:=.i64) (a:=c) (b:=d) rfl rfl)<|ln (hK13 _ _ ?_)
 refine Wc.cond (t:=(decide (c<d))) (rfl) (fun hq14=>?_) (fun hq14=>?_)
 replace hb:=tt hq14 hb
 refine Wc.skip (hK12 _ _ ?_)
 refine Wc.seq fun _ hK15=>?_
 refine Wc.block ?_
 refine Wc.regionMix [] (frm [] ([]:List Fact) [.own 23 (.pr si (.pr si si)) (.slice g h.length f) l]) (fun _=>rfl) mixed (by decide+kernel) (by decide+kernel) fun w17 hw16=>?_
 replace hC:=hC.step (Fr.of_drew hw16)
 have hM:=Fr.refl (fun k=>k∈blocks ([]:List Fact)) w17
 clear hw16
 have hS:=hC
 have hD:Fr (fun k=>k∈blocks (([]:List Fact)++[.own 23 (.pr si (.pr si si)) (.slice g h.length f) l])) w17 w17:=hM.wide
 have hUf1:Beside (([]:List Fact)++[.own 23 (.pr si (.pr si si)) (.slice g h.length f) l]) w17 (.slice g h.length f):=Beside.of (i:=0) rfl
 refine mp (.slice g h.length f) (pu_move e0)<|mp (iv c) (pu_move e2)<|mp (.slice g h.length f) (pu_move e0)<|mp (iv d) (pu_move e3)<|mp (.slice g h.length f) (pu_move e0)<|mp (iv d) (pu_move e3) ?_
 obtain ⟨x18,h19,hb⟩:=bd hb
 obtain ⟨ad20,cs21,hA,ho24,hc22,hr23⟩:=hS.elo2 (i:=0) rfl (get_some h19).2 [] (by decide)
 subst hA
 refine mp (.pointer (some (ad20.add (d.toNat*3)))) (pu_index (a:=d) underlying43 sizeOf23 rfl rfl (by rw [(hC.ow (i:=0) rfl).sl_len.1]; exact (get_some h19).1)) ?_
 obtain ⟨k25,k26,rfl,hr27,hr28⟩:=hr23
 obtain ⟨rfl,hr27⟩:=hr27
 obtain ⟨k29,k30,rfl,hr31,hr32⟩:=hr28
 obtain ⟨rfl,hr31⟩:=hr31
 obtain ⟨rfl,hr32⟩:=hr32
 refine mixE.load hM (v:=.agg #[iv x18.1,iv x18.2.1,iv x18.2.2]) (fun _ hF=>ld_agg isAgg23 sizeOf23 rfl rfl (fun j u hu=>hF.cell (hc22 j u hu) (off2 ho24)))<|mp (.slice (some ad20) h.length f) (pu_move e0)<|mp (iv c) (pu_move e2) ?_
 obtain ⟨x33,h34,hb⟩:=bd hb
 obtain ⟨ad35,cs36,hA,ho39,hc37,hr38⟩:=hS.elo2 (i:=0) rfl (get_some h34).2 [] (by decide)
 obtain rfl:=Option.some.inj hA
 refine mp (.pointer (some (ad20.add (c.toNat*3)))) (pu_index (a:=c) underlying43 sizeOf23 rfl rfl (by rw [(hC.ow (i:=0) rfl).sl_len.1]; exact (get_some h34).1)) ?_
 obtain ⟨k40,k41,rfl,hr42,hr43⟩:=hr38
 obtain ⟨rfl,hr42⟩:=hr42
 obtain ⟨k44,k45,rfl,hr46,hr47⟩:=hr43
 obtain ⟨rfl,hr46⟩:=hr46
 obtain ⟨rfl,hr47⟩:=hr47
 refine mixE.load hM (v:=.agg #[iv x33.1,iv x33.2.1,iv x33.2.2]) (fun _ hF=>ld_agg isAgg23 sizeOf23 rfl rfl (fun j u hu=>hF.cell (hc37 j u hu) (off2 ho39))) ?_
 obtain ⟨x48,h49,hb⟩:=bd hb
 obtain ⟨ad50,cs51,hA,ho54,hc52,hr53⟩:=hS.elo2 (i:=0) rfl (get_some h49).2 [] (by decide)
 obtain rfl:=Option.some.inj hA
 refine mp (.pointer (some (ad20.add (c.toNat*3)))) (pu_index (a:=c) underlying43 sizeOf23 rfl rfl (by rw [(hC.ow (i:=0) rfl).sl_len.1]; exact (get_some h49).1))<|mixE.sk hD (hC.putS (P:=prog) (i:=0) (e:=23) (ds:=[iv x18.1,iv x18.2.1,iv x18.2.2]) rfl type23 rfl (k:=c.toNat) (a:=(x18.1,(x18.2.1,x18.2.2))) (by have:=(get_some h49).1; simp at this⊢; omega) rfl rfl (⟨[iv x18.1],[iv x18.2.1,iv x18.2.2],rfl,⟨rfl,I64.wr (wrap_I64 hr27)⟩,⟨[iv x18.2.1],[iv x18.2.2],rfl,⟨rfl,I64.wr (wrap_I64 hr31)⟩,⟨rfl,I64.wr (wrap_I64 hr32)⟩⟩⟩) rfl rfl) ?_
 rintro w55 ⟨hC,hF⟩
 replace hD:=hD.beside hUf1 hF
 clear hF
 refine ⟨hD,?_⟩
 obtain ⟨x56,h57,hb⟩:=bd hb
 obtain ⟨ad58,cs59,hA,hc60,hr61⟩:=hC.elo (i:=0) rfl (get_some h57).2
 obtain rfl:=Option.some.inj hA
 refine mp (.pointer (some (ad20.add (d.toNat*3)))) (pu_index (a:=d) underlying43 sizeOf23 rfl rfl (by rw [(hC.ow (i:=0) rfl).sl_len.1]; exact (get_some h57).1))<|mixE.sk hD (hC.putS (P:=prog) (i:=0) (e:=23) (ds:=[iv x33.1,iv x33.2.1,iv x33.2.2]) rfl type23 rfl (k:=d.toNat) (a:=(x33.1,(x33.2.1,x33.2.2))) (by have:=(get_some h57).1; simp at this⊢; omega) rfl rfl (⟨[iv x33.1],[iv x33.2.1,iv x33.2.2],rfl,⟨rfl,I64.wr (wrap_I64 hr42)⟩,⟨[iv x33.2.1],[iv x33.2.2],rfl,⟨rfl,I64.wr (wrap_I64 hr46)⟩,⟨rfl,I64.wr (wrap_I64 hr47)⟩⟩⟩) rfl rfl) ?_
 rintro w62 ⟨hC,hF⟩
 replace hD:=hD.beside hUf1 hF
 clear hF
 refine ⟨hD,?_⟩
 refine mixE.nil ?_
 clear hS hM
 clear hD
 refine hK15 _ _<|Wc.fresh fun E63 hE=>?_
 have e0:=cg hE 0 e0
 have e2:=cg hE 2 e2
 have e3:=cg hE 3 e3
 have e9:E63 9=.bool (decide (c<d)):=cg hE 9 rfl
 clear hE
 refine rg<|lp _ (pu_move e2) ?_
 obtain ⟨z64,h65,hb⟩:=bd hb
 refine lp (iv z64) (pu_addc (a:=c) (b:=1) rfl rfl h65)<|lp _ (pu_move e3) ?_
 obtain ⟨z66,h67,hb⟩:=bd hb
 refine lp (iv z66) (pu_subc (a:=d) (b:=1) rfl rfl h67)<|lp (iv z64) (pu_assign rfl)<|lp (iv z66) (pu_assign rfl)<|ln ?_
 obtain rfl:=os hb
 exact hK7 m8' _ _ (Nat.lt_succ_self _) ⟨z64,z66,((l.set c.toNat (x18.1,(x18.2.1,x18.2.2))).set d.toNat (x33.1,(x33.2.1,x33.2.2))),e0,rfl,rfl,(chk_rng h65),(chk_rng h67),hC.sE [0],lN hl0⟩
 replace hb:=tf hq14 hb
 refine Wc.exit rfl ?_
 obtain rfl:=os hb
 obtain rfl:=(lX hl0).symm
 exact hK6 _ _ ⟨c,d,l,p,q,hC.sE [0],hbK0⟩
 clear hb hC hl0
 rintro E69 w68 ⟨c,d,l,p,q,hC,hb⟩
 subst hf5
 obtain rfl:=os hb
 subst hI
 refine hKR _ _ ?_
 refine ⟨_,res0 results40,_,rfl,rfl,hC.sE [0]⟩

theorem mirror_Reverse_c2_ok (n:Nat) {w:World} {O0:List Nat} (hO: ∀k∈O0,k<w.heap.size) {a:Int} (b:I64 a) {r:Int} (hb:F.mirror_Reverse_c2 n a=some r):
    Calls prog 78 #[iv a] w fun e w'=> ∃v,e=.returned v∧v=iv r∧I64 r∧Cx (fun _=>False) O0 w w' []:=by
 unfold F.mirror_Reverse_c2 at hb
 have hC:=Cx.start hO
 clear hO
 refine calls_of_Wc func78 rfl (by rw [ntmps78]; exact nb rfl) fun KR hKR=>?_
 refine Wc.seq fun _ hK1=>rg<|lp (iv 0) (pu_assign rfl)<|ln (hK1 _ _ ?_)
 refine Wc.seq fun _ hK2=>rg<|lp (iv 1) (pu_assign rfl)<|ln (hK2 _ _ ?_)
 obtain rfl:=os hb
 refine Wc.ret (hKR _ _ ?_)
 refine ⟨_,res1 results78 (tV (iv 1) rfl),_,rfl,rfl,(show I64 1 from by unfold I64; omega),hC.sE []⟩

theorem mirror_Reverse_c1_ok (n:Nat) {w:World} {O0:List Nat} (hO: ∀k∈O0,k<w.heap.size) {a:Int} (c:I64 a) {b:Int} (d:I64 b) {r:Int} (hb:F.mirror_Reverse_c1 n a b=some r):
    Calls prog 77 #[iv a,iv b] w fun e w'=> ∃v,e=.returned v∧v=iv r∧I64 r∧Cx (fun _=>False) O0 w w' []:=by
 unfold F.mirror_Reverse_c1 at hb
 have hC:=Cx.start hO
 clear hO
 refine calls_of_Wc func77 rfl (by rw [ntmps77]; exact nb rfl) fun KR hKR=>?_
 refine Wc.seq fun _ hK1=>rg<|lp (iv 0) (pu_assign rfl)<|ln (hK1 _ _ ?_)
 refine Wc.seq fun _ hK2=>rg<|lp (iv 2) (pu_assign rfl)<|ln (hK2 _ _ ?_)
 obtain rfl:=os hb
 refine Wc.ret (hKR _ _ ?_)
 refine ⟨_,res1 results77 (tV (iv 2) rfl),_,rfl,rfl,(show I64 2 from by unfold I64; omega),hC.sE []⟩

theorem mirror_move_c1_v3_ok (n:Nat) {w:World} {O0:List Nat} (hO: ∀k∈O0,k<w.heap.size) {c:Int} (f:I64 c) {d:Nat} (hio:Tk O0 w [.box d 97 [.func (.func 77) #[] #[]]]) {r:Int} (hb:F.mirror_move_c1_v3 n c=some r):
    Calls prog 96 #[iv c,pg d] w fun e w'=> ∃v,e=.returned v∧v=iv r∧I64 r∧Cx (fun k=>k∈blocks [.box d 97 [.func (.func 77) #[] #[]]]) O0 w w' [.box d 97 [.func (.func 77) #[] #[]]]:=by
 unfold F.mirror_move_c1_v3 at hb
 have hC:=Cx.startTk hO hio
 have hsub:=hio.2.2
 clear hO
 clear hio hsub
 obtain ⟨I,hI,hC⟩: ∃I:Nat→Prop,I=(fun k=>k∈blocks [.box d 97 [.func (.func 77) #[] #[]]])∧Cx I O0 w w ([.box d 97 [.func (.func 77) #[] #[]]]):=⟨_,rfl,hC⟩
 refine calls_of_Wc func96 rfl (by rw [ntmps96]; exact nb rfl) fun KR hKR=>?_
 refine Wc.seq fun _ hK2=>rg<|lp (iv 0) (pu_assign rfl)<|ln (hK2 _ _ ?_)
 refine Wc.seq fun _ hK3=>rg<|lp (iv c) (pu_move rfl)<|lv (.func (.func 77) #[] #[]) (ld_one isAgg97 rfl ((hC.bx (i:=0) rfl).cell (j:=0) rfl))<|lp (iv c) (pu_move rfl) ?_
 obtain ⟨u4,h5,hb⟩:=bd hb
 obtain ⟨z6,h7,hb⟩:=bd hb
 refine lp (iv z6) (pu_quoc (a:=c) (b:=4) rfl rfl h5 h7)<|lp (iv c) (pu_move rfl) ?_
 obtain ⟨u8,h9,hb⟩:=bd hb
 refine lp (iv (Int.tmod c 4)) (pu_remc (a:=c) (b:=4) rfl rfl h9) ?_
 obtain ⟨y10,h11,hb⟩:=bd hb
 refine lex.cl (⟨_,_,op_callv (vs:=[iv z6,iv (Int.tmod c 4)]) (ca:=#[]) call77 rfl rfl rfl,mirror_Reverse_c1_ok n hC.lt (chk_rng h7) (I64.rem f) h11⟩) ?_
 rintro _ w13 ⟨rfl,hr12,hK⟩
 replace hC:=hC.merge hK
 clear hK
 obtain ⟨y14,h15,hb⟩:=bd hb
 refine lex.cl (⟨_,_,op_call (vs:=[iv c,iv y10]) call89 rfl rfl rfl,diagram_Turn_ok n hC.lt f hr12 h15⟩) ?_
 rintro _ w17 ⟨rfl,hr16,hK⟩
 replace hC:=hC.merge hK
 clear hK
 refine lp (iv y14) (pu_assign rfl)<|ln (hK3 _ _ ?_)
 obtain rfl:=os hb
 subst hI
 refine Wc.ret (hKR _ _ ?_)
 refine ⟨_,res1 results96 (tV (iv y14) rfl),_,rfl,rfl,hr16,hC.sE [0]⟩

theorem mirror_move_mirror_Reverse_c1_mirror_Reverse_c2_ok (n:Nat) {w:World} {O0:List Nat} (hO: ∀k∈O0,k<w.heap.size) {C:Option Addr} {N D:Nat} {d:List Int} (P:Rep O0 w (.sl si) [.slice C N D] d) {B:Option Addr} {Q z:Nat} {c:List Int} (R:Rep O0 w (.sl si) [.slice B Q z] c) {p:Int} (U:I64 p) {r:(List Int)×(List Int)×Int} (hb:F.mirror_move_mirror_Reverse_c1_mirror_Reverse_c2 n d c p=some r):
    Calls prog 71 #[.agg #[.slice C N D,.slice B Q z,iv p],.func (.func 77) #[] #[],.func (.func 78) #[] #[]] w fun e w'=> ∃v,e=.returned v∧∃(A0:Option Addr) (m0 c0:Nat) (A1:Option Addr) (m1 c1:Nat),v=.agg #[.slice A0 m0 c0,.slice A1 m1 c1,iv r.2.2]∧I64 r.2.2∧Cx (fun _=>False) O0 w w' [.own 3 si (.slice A0 m0 c0) r.1,.own 3 si (.slice A1 m1 c1) r.2.1]:=by
 unfold F.mirror_move_mirror_Reverse_c1_mirror_Reverse_c2 at hb
 have hC:=Cx.start hO
 replace hC:=hC.arg rfl P
 replace hC:=hC.arg rfl R
 clear hO
 obtain ⟨rfl,a0,a1⟩:=P.sl_len
 obtain ⟨rfl,a2,a3⟩:=R.sl_len
 refine calls_of_Wc func71 rfl (by rw [ntmps71]; exact nb rfl) fun KR hKR=>?_
 refine Wc.seq fun _ hK3=>rg<|lex.op (hC.box (cs:=[.slice C d.length D,.slice B c.length z,iv p]) rfl rfl) ?_
 rintro _ w5 ⟨g4,rfl,hC,hF,-⟩
 refine lex.op (hC.box (cs:=[.func (.func 77) #[] #[]]) rfl rfl) ?_
 rintro _ w8 ⟨g7,rfl,hC,hF,-⟩
 refine lex.op (hC.alloc (cs:=[.slice none 0 0,.slice none 0 0,iv 0]) zeroValue32 rfl) ?_
 rintro _ w11 ⟨g10,rfl,hC,hF,-⟩
 refine ln (hK3 _ _ ?_)
 refine Wc.seq fun _ hK13=>rg<|lp (.func (.func 96) #[] #[pg g7]) (pu_funcc rfl)<|lp (.func (.func 96) #[] #[pg g7]) (pu_assign rfl)<|ln (hK13 _ _ ?_)
 refine Wc.seqJ (fun E wv=> ∃(gP8:Nat) (q:List Int) (j:List Int) (l:Option Addr) (J o:Nat) (f:Option Addr) (K g:Nat),E 2=.func (.func 78) #[] #[]∧E 3=pg g4∧E 6=pg g10∧E 7=.func (.func 96) #[] #[pg g7]∧E 8=pg gP8∧Cx (fun _=>False) O0 w wv [.box g4 32 [.slice C d.length D,.slice B c.length z,iv p],.ro (.sl si) [.slice C d.length D] d,.ro (.sl si) [.slice B c.length z] c,.box g10 32 [.slice none 0 0,.slice none 0 0,iv 0],.box g7 97 [.func (.func 77) #[] #[]],.box gP8 32 [.slice l J o,.slice f K g,iv p],.own 3 si (.slice l J o) q,.own 3 si (.slice f K g) j]∧F.mirror_move_mirror_Reverse_c1_mirror_Reverse_c2_j0 n d c p q j=some r) (fun _ hK14=>?_) ?_
 refine Wc.regionPlan [15,19,23] (frm [15,19,23] ([]:List Fact) ([]:List Fact)) (chainP [0,1,2,4,5,6,8,9] (.alt (chainP [3] (.alt (chainP [7] (chainP [10,11,12] .done)) (chainP [11] (chainP [7,10,12] .done)))) (.alt (chainP [7] (.alt (chainP [3] (chainP [10,11,12] .done)) (chainP [11] (chainP [3,10,12] .done)))) (chainP [11] (.alt (chainP [3] (chainP [7,10,12] .done)) (chainP [7] (chainP [3,10,12] .done))))))) (fun _=>rfl) mixed (by decide+kernel) (by decide+kernel) fun w16 hw15=>?_
 replace hC:=hC.step (Fr.of_drew hw15)
 have hM:=Fr.refl (fun k=>k∈blocks ([]:List Fact)) w16
 clear hw15
 have hS:=hC
 have hD:Fr (fun k=>k∈blocks (([]:List Fact)++([]:List Fact))) w16 w16:=hM.wide
 refine mixPE_chain ?_
 refine mp (.pointer (some ((⟨g4,0,none⟩:Addr).add 0))) (pu_field (sz:=1) underlying32 rfl sizeOf30 (by decide) rfl rfl)<|mixE.steady hD (v:=.slice C d.length D) (fun _ hF=>ld_fld (hS.bx2 (i:=2) rfl [] (by decide) hF) isAgg30 rfl rfl)<|mp (iv (d.length:Int)) (pu_len (A:=C) (n:=d.length) (m:=D) underlying30 rfl)<|mp (.pointer (some ((⟨g4,0,none⟩:Addr).add 1))) (pu_field (sz:=1) underlying32 rfl sizeOf30 (by decide) rfl rfl)<|mixE.steady hD (v:=.slice B c.length z) (fun _ hF=>ld_fld (hS.bx2 (i:=2) rfl [] (by decide) hF) isAgg30 rfl rfl)<|mp (iv (c.length:Int)) (pu_len (A:=B) (n:=c.length) (m:=z) underlying30 rfl)<|mp (.pointer (some ((⟨g4,0,none⟩:Addr).add 2))) (pu_field (sz:=1) underlying32 rfl sizeOf3 (by decide) rfl rfl)<|mixE.steady hD (v:=iv p) (fun _ hF=>ld_fld (hS.bx2 (i:=2) rfl [] (by decide) hF) isAgg3 rfl rfl)<|mixE.nil ?_
 refine mixPE_alt ?_ ?_
 refine mixPE_chain ?_
 obtain ⟨u17,h18,hb⟩:=bd hb
 refine mixE.op hM (hC.make (s:=si) (n:=(d.length:Int)) underlying30 type3 rfl rfl rfl rfl rfl (pos_some h18).1 (pos_some h18).2 (by decide)) ?_
 rintro _ w23 ⟨A19,c20,rfl,hl21,hc22,hC,hF,hN⟩
 have hBf24:=Beside.new hM hN
 have hUf24:=Beside.new (hM.wide (H:=([]:List Fact))) hN
 replace hM:=hM.none hF
 replace hD:=hM.wide (H:=([]:List Fact))
 refine ⟨hM,?_⟩
 clear hF hN
 refine mixE.nil ?_
 refine mixPE_alt ?_ ?_
 refine mixPE_chain ?_
 obtain ⟨u25,h26,hb⟩:=bd hb
 refine mixE.op hM (hC.make (s:=si) (n:=(c.length:Int)) underlying30 type3 rfl rfl rfl rfl rfl (pos_some h26).1 (pos_some h26).2 (by decide)) ?_
 rintro _ w31 ⟨A27,c28,rfl,hl29,hc30,hC,hF,hN⟩
 have hBf32:=Beside.new hM hN
 have hUf32:=Beside.new (hM.wide (H:=([]:List Fact))) hN
 replace hM:=hM.none hF
 replace hD:=hM.wide (H:=([]:List Fact))
 refine ⟨hM,?_⟩
 clear hF hN
 refine mixE.nil ?_
 refine mixPE_chain ?_
 refine mp (.agg #[.slice A19 (((rZ d.length)).length) c20,.slice A27 (((rZ c.length)).length) c28,iv p]) (pu_builds (places:=[(0,1),(1,1),(2,1)]) (pv:=[(0,.slice A19 (((rZ d.length)).length) c20),(1,.slice A27 (((rZ c.length)).length) c28),(2,iv p)]) type32 underlying32 rfl (mp_cons type30 (mp_cons type30 (mp_cons type3 mp_nil rfl rfl) rfl rfl) rfl rfl) rfl (by simp [Instr.fill,Value.cells]))<|mixE.op hM (hC.alloc (cs:=[.slice none 0 0,.slice none 0 0,iv 0]) zeroValue32 rfl) ?_
 rintro _ w34 ⟨g33,rfl,hC,hF,hG⟩
 have hUf35:g33<w16.heap.size→g33∈blocks (([]:List Fact)++([]:List Fact)):=fun h=>absurd (Nat.lt_of_lt_of_le h (Nat.le_trans hM.size hG)) (Nat.lt_irrefl _)
 have hVf35:g33<w16.heap.size→g33∈blocks ([]:List Fact):=fun h=>absurd (Nat.lt_of_lt_of_le h (Nat.le_trans hM.size hG)) (Nat.lt_irrefl _)
 clear hG
 replace hM:=hM.none hF
 replace hD:=hM.wide (H:=([]:List Fact))
 refine ⟨hM,?_⟩
 refine mixE.sk hD (hC.seta (i:=0) (ds:=[.slice A19 (((rZ d.length)).length) c20,.slice A27 (((rZ c.length)).length) c28,iv p]) rfl type32 rfl rfl rfl rfl rfl) ?_
 rintro w36 ⟨hC,hF⟩
 replace hD:=hD.besideG hUf35 hF
 replace hM:=hM.besideG hVf35 hF
 clear hF
 refine ⟨hD,?_⟩
 refine mixE.nil ?_
 clear hS hM
 clear hD
 exact hK14 _ _ ⟨g33,(rZ d.length),(rZ c.length),A19,((rZ d.length)).length,c20,A27,((rZ c.length)).length,c28,rfl,rfl,rfl,rfl,rfl,hC.sE [5,7,6,3,4,0,2,1],hb⟩
 refine mixPE_chain ?_
 refine mixE.op hM (hC.alloc (cs:=[.slice none 0 0,.slice none 0 0,iv 0]) zeroValue32 rfl) ?_
 rintro _ w38 ⟨g37,rfl,hC,hF,hG⟩
 have hUf39:g37<w16.heap.size→g37∈blocks (([]:List Fact)++([]:List Fact)):=fun h=>absurd (Nat.lt_of_lt_of_le h (Nat.le_trans hM.size hG)) (Nat.lt_irrefl _)
 have hVf39:g37<w16.heap.size→g37∈blocks ([]:List Fact):=fun h=>absurd (Nat.lt_of_lt_of_le h (Nat.le_trans hM.size hG)) (Nat.lt_irrefl _)
 clear hG
 replace hM:=hM.none hF
 replace hD:=hM.wide (H:=([]:List Fact))
 refine ⟨hM,?_⟩
 refine mixE.nil ?_
 refine mixPE_chain ?_
 obtain ⟨u25,h41,hb⟩:=bd hb
 refine mixE.op hM (hC.make (s:=si) (n:=(c.length:Int)) underlying30 type3 rfl rfl rfl rfl rfl (pos_some h41).1 (pos_some h41).2 (by decide)) ?_
 rintro _ w46 ⟨A42,c43,rfl,hl44,hc45,hC,hF,hN⟩
 have hBf47:=Beside.new hM hN
 have hUf47:=Beside.new (hM.wide (H:=([]:List Fact))) hN
 replace hM:=hM.none hF
 replace hD:=hM.wide (H:=([]:List Fact))
 refine ⟨hM,?_⟩
 clear hF hN
 refine mp (.agg #[.slice A19 (((rZ d.length)).length) c20,.slice A42 (((rZ c.length)).length) c43,iv p]) (pu_builds (places:=[(0,1),(1,1),(2,1)]) (pv:=[(0,.slice A19 (((rZ d.length)).length) c20),(1,.slice A42 (((rZ c.length)).length) c43),(2,iv p)]) type32 underlying32 rfl (mp_cons type30 (mp_cons type30 (mp_cons type3 mp_nil rfl rfl) rfl rfl) rfl rfl) rfl (by simp [Instr.fill,Value.cells]))<|mixE.sk hD (hC.seta (i:=1) (ds:=[.slice A19 (((rZ d.length)).length) c20,.slice A42 (((rZ c.length)).length) c43,iv p]) rfl type32 rfl rfl rfl rfl rfl) ?_
 rintro w48 ⟨hC,hF⟩
 replace hD:=hD.besideG hUf39 hF
 replace hM:=hM.besideG hVf39 hF
 clear hF
 refine ⟨hD,?_⟩
 refine mixE.nil ?_
 clear hS hM
 clear hD
 exact hK14 _ _ ⟨g37,(rZ d.length),(rZ c.length),A19,((rZ d.length)).length,c20,A42,((rZ c.length)).length,c43,rfl,rfl,rfl,rfl,rfl,hC.sE [5,7,6,3,4,1,2,0],hb⟩
 replace hb:=(gcomm0 _ _ _).symm.trans hb
 refine mixPE_alt ?_ ?_
 refine mixPE_chain ?_
 obtain ⟨u25,h50,hb⟩:=bd hb
 refine mixE.op hM (hC.make (s:=si) (n:=(c.length:Int)) underlying30 type3 rfl rfl rfl rfl rfl (pos_some h50).1 (pos_some h50).2 (by decide)) ?_
 rintro _ w55 ⟨A51,c52,rfl,hl53,hc54,hC,hF,hN⟩
 have hBf56:=Beside.new hM hN
 have hUf56:=Beside.new (hM.wide (H:=([]:List Fact))) hN
 replace hM:=hM.none hF
 replace hD:=hM.wide (H:=([]:List Fact))
 refine ⟨hM,?_⟩
 clear hF hN
 refine mixE.nil ?_
 refine mixPE_alt ?_ ?_
 refine mixPE_chain ?_
 obtain ⟨u17,h58,hb⟩:=bd hb
 refine mixE.op hM (hC.make (s:=si) (n:=(d.length:Int)) underlying30 type3 rfl rfl rfl rfl rfl (pos_some h58).1 (pos_some h58).2 (by decide)) ?_
 rintro _ w63 ⟨A59,c60,rfl,hl61,hc62,hC,hF,hN⟩
 have hBf64:=Beside.new hM hN
 have hUf64:=Beside.new (hM.wide (H:=([]:List Fact))) hN
 replace hM:=hM.none hF
 replace hD:=hM.wide (H:=([]:List Fact))
 refine ⟨hM,?_⟩
 clear hF hN
 refine mixE.nil ?_
 refine mixPE_chain ?_
 refine mp (.agg #[.slice A59 (((rZ d.length)).length) c60,.slice A51 (((rZ c.length)).length) c52,iv p]) (pu_builds (places:=[(0,1),(1,1),(2,1)]) (pv:=[(0,.slice A59 (((rZ d.length)).length) c60),(1,.slice A51 (((rZ c.length)).length) c52),(2,iv p)]) type32 underlying32 rfl (mp_cons type30 (mp_cons type30 (mp_cons type3 mp_nil rfl rfl) rfl rfl) rfl rfl) rfl (by simp [Instr.fill,Value.cells]))<|mixE.op hM (hC.alloc (cs:=[.slice none 0 0,.slice none 0 0,iv 0]) zeroValue32 rfl) ?_
 rintro _ w66 ⟨g65,rfl,hC,hF,hG⟩
 have hUf67:g65<w16.heap.size→g65∈blocks (([]:List Fact)++([]:List Fact)):=fun h=>absurd (Nat.lt_of_lt_of_le h (Nat.le_trans hM.size hG)) (Nat.lt_irrefl _)
 have hVf67:g65<w16.heap.size→g65∈blocks ([]:List Fact):=fun h=>absurd (Nat.lt_of_lt_of_le h (Nat.le_trans hM.size hG)) (Nat.lt_irrefl _)
 clear hG
 replace hM:=hM.none hF
 replace hD:=hM.wide (H:=([]:List Fact))
 refine ⟨hM,?_⟩
 refine mixE.sk hD (hC.seta (i:=0) (ds:=[.slice A59 (((rZ d.length)).length) c60,.slice A51 (((rZ c.length)).length) c52,iv p]) rfl type32 rfl rfl rfl rfl rfl) ?_
 rintro w68 ⟨hC,hF⟩
 replace hD:=hD.besideG hUf67 hF
 replace hM:=hM.besideG hVf67 hF
 clear hF
 refine ⟨hD,?_⟩
 refine mixE.nil ?_
 clear hS hM
 clear hD
 exact hK14 _ _ ⟨g65,(rZ d.length),(rZ c.length),A59,((rZ d.length)).length,c60,A51,((rZ c.length)).length,c52,rfl,rfl,rfl,rfl,rfl,hC.sE [5,7,6,3,4,0,1,2],hb⟩
 refine mixPE_chain ?_
 refine mixE.op hM (hC.alloc (cs:=[.slice none 0 0,.slice none 0 0,iv 0]) zeroValue32 rfl) ?_
 rintro _ w70 ⟨g69,rfl,hC,hF,hG⟩
 have hUf71:g69<w16.heap.size→g69∈blocks (([]:List Fact)++([]:List Fact)):=fun h=>absurd (Nat.lt_of_lt_of_le h (Nat.le_trans hM.size hG)) (Nat.lt_irrefl _)
 have hVf71:g69<w16.heap.size→g69∈blocks ([]:List Fact):=fun h=>absurd (Nat.lt_of_lt_of_le h (Nat.le_trans hM.size hG)) (Nat.lt_irrefl _)
 clear hG
 replace hM:=hM.none hF
 replace hD:=hM.wide (H:=([]:List Fact))
 refine ⟨hM,?_⟩
 refine mixE.nil ?_
 refine mixPE_chain ?_
 obtain ⟨u17,h73,hb⟩:=bd hb
 refine mixE.op hM (hC.make (s:=si) (n:=(d.length:Int)) underlying30 type3 rfl rfl rfl rfl rfl (pos_some h73).1 (pos_some h73).2 (by decide)) ?_
 rintro _ w78 ⟨A74,c75,rfl,hl76,hc77,hC,hF,hN⟩
 have hBf79:=Beside.new hM hN
 have hUf79:=Beside.new (hM.wide (H:=([]:List Fact))) hN
 replace hM:=hM.none hF
 replace hD:=hM.wide (H:=([]:List Fact))
 refine ⟨hM,?_⟩
 clear hF hN
 refine mp (.agg #[.slice A74 (((rZ d.length)).length) c75,.slice A51 (((rZ c.length)).length) c52,iv p]) (pu_builds (places:=[(0,1),(1,1),(2,1)]) (pv:=[(0,.slice A74 (((rZ d.length)).length) c75),(1,.slice A51 (((rZ c.length)).length) c52),(2,iv p)]) type32 underlying32 rfl (mp_cons type30 (mp_cons type30 (mp_cons type3 mp_nil rfl rfl) rfl rfl) rfl rfl) rfl (by simp [Instr.fill,Value.cells]))<|mixE.sk hD (hC.seta (i:=1) (ds:=[.slice A74 (((rZ d.length)).length) c75,.slice A51 (((rZ c.length)).length) c52,iv p]) rfl type32 rfl rfl rfl rfl rfl) ?_
 rintro w80 ⟨hC,hF⟩
 replace hD:=hD.besideG hUf71 hF
 replace hM:=hM.besideG hVf71 hF
 clear hF
 refine ⟨hD,?_⟩
 refine mixE.nil ?_
 clear hS hM
 clear hD
 exact hK14 _ _ ⟨g69,(rZ d.length),(rZ c.length),A74,((rZ d.length)).length,c75,A51,((rZ c.length)).length,c52,rfl,rfl,rfl,rfl,rfl,hC.sE [5,7,6,3,4,1,0,2],hb⟩
 replace hb:=(gcomm0 _ _ _).symm.trans hb
 refine mixPE_chain ?_
 refine mixE.op hM (hC.alloc (cs:=[.slice none 0 0,.slice none 0 0,iv 0]) zeroValue32 rfl) ?_
 rintro _ w82 ⟨g81,rfl,hC,hF,hG⟩
 have hUf83:g81<w16.heap.size→g81∈blocks (([]:List Fact)++([]:List Fact)):=fun h=>absurd (Nat.lt_of_lt_of_le h (Nat.le_trans hM.size hG)) (Nat.lt_irrefl _)
 have hVf83:g81<w16.heap.size→g81∈blocks ([]:List Fact):=fun h=>absurd (Nat.lt_of_lt_of_le h (Nat.le_trans hM.size hG)) (Nat.lt_irrefl _)
 clear hG
 replace hM:=hM.none hF
 replace hD:=hM.wide (H:=([]:List Fact))
 refine ⟨hM,?_⟩
 refine mixE.nil ?_
 refine mixPE_alt ?_ ?_
 refine mixPE_chain ?_
 obtain ⟨u17,h85,hb⟩:=bd hb
 refine mixE.op hM (hC.make (s:=si) (n:=(d.length:Int)) underlying30 type3 rfl rfl rfl rfl rfl (pos_some h85).1 (pos_some h85).2 (by decide)) ?_
 rintro _ w90 ⟨A86,c87,rfl,hl88,hc89,hC,hF,hN⟩
 have hBf91:=Beside.new hM hN
 have hUf91:=Beside.new (hM.wide (H:=([]:List Fact))) hN
 replace hM:=hM.none hF
 replace hD:=hM.wide (H:=([]:List Fact))
 refine ⟨hM,?_⟩
 clear hF hN
 refine mixE.nil ?_
 refine mixPE_chain ?_
 obtain ⟨u25,h93,hb⟩:=bd hb
 refine mixE.op hM (hC.make (s:=si) (n:=(c.length:Int)) underlying30 type3 rfl rfl rfl rfl rfl (pos_some h93).1 (pos_some h93).2 (by decide)) ?_
 rintro _ w98 ⟨A94,c95,rfl,hl96,hc97,hC,hF,hN⟩
 have hBf99:=Beside.new hM hN
 have hUf99:=Beside.new (hM.wide (H:=([]:List Fact))) hN
 replace hM:=hM.none hF
 replace hD:=hM.wide (H:=([]:List Fact))
 refine ⟨hM,?_⟩
 clear hF hN
 refine mp (.agg #[.slice A86 (((rZ d.length)).length) c87,.slice A94 (((rZ c.length)).length) c95,iv p]) (pu_builds (places:=[(0,1),(1,1),(2,1)]) (pv:=[(0,.slice A86 (((rZ d.length)).length) c87),(1,.slice A94 (((rZ c.length)).length) c95),(2,iv p)]) type32 underlying32 rfl (mp_cons type30 (mp_cons type30 (mp_cons type3 mp_nil rfl rfl) rfl rfl) rfl rfl) rfl (by simp [Instr.fill,Value.cells]))<|mixE.sk hD (hC.seta (i:=2) (ds:=[.slice A86 (((rZ d.length)).length) c87,.slice A94 (((rZ c.length)).length) c95,iv p]) rfl type32 rfl rfl rfl rfl rfl) ?_
 rintro w100 ⟨hC,hF⟩
 replace hD:=hD.besideG hUf83 hF
 replace hM:=hM.besideG hVf83 hF
 clear hF
 refine ⟨hD,?_⟩
 refine mixE.nil ?_
 clear hS hM
 clear hD
 exact hK14 _ _ ⟨g81,(rZ d.length),(rZ c.length),A86,((rZ d.length)).length,c87,A94,((rZ c.length)).length,c95,rfl,rfl,rfl,rfl,rfl,hC.sE [5,7,6,3,4,2,1,0],hb⟩
 replace hb:=(gcomm0 _ _ _).symm.trans hb
 refine mixPE_chain ?_
 obtain ⟨u25,h102,hb⟩:=bd hb
 refine mixE.op hM (hC.make (s:=si) (n:=(c.length:Int)) underlying30 type3 rfl rfl rfl rfl rfl (pos_some h102).1 (pos_some h102).2 (by decide)) ?_
 rintro _ w107 ⟨A103,c104,rfl,hl105,hc106,hC,hF,hN⟩
 have hBf108:=Beside.new hM hN
 have hUf108:=Beside.new (hM.wide (H:=([]:List Fact))) hN
 replace hM:=hM.none hF
 replace hD:=hM.wide (H:=([]:List Fact))
 refine ⟨hM,?_⟩
 clear hF hN
 refine mixE.nil ?_
 refine mixPE_chain ?_
 obtain ⟨u17,h110,hb⟩:=bd hb
 refine mixE.op hM (hC.make (s:=si) (n:=(d.length:Int)) underlying30 type3 rfl rfl rfl rfl rfl (pos_some h110).1 (pos_some h110).2 (by decide)) ?_
 rintro _ w115 ⟨A111,c112,rfl,hl113,hc114,hC,hF,hN⟩
 have hBf116:=Beside.new hM hN
 have hUf116:=Beside.new (hM.wide (H:=([]:List Fact))) hN
 replace hM:=hM.none hF
 replace hD:=hM.wide (H:=([]:List Fact))
 refine ⟨hM,?_⟩
 clear hF hN
 refine mp (.agg #[.slice A111 (((rZ d.length)).length) c112,.slice A103 (((rZ c.length)).length) c104,iv p]) (pu_builds (places:=[(0,1),(1,1),(2,1)]) (pv:=[(0,.slice A111 (((rZ d.length)).length) c112),(1,.slice A103 (((rZ c.length)).length) c104),(2,iv p)]) type32 underlying32 rfl (mp_cons type30 (mp_cons type30 (mp_cons type3 mp_nil rfl rfl) rfl rfl) rfl rfl) rfl (by simp [Instr.fill,Value.cells]))<|mixE.sk hD (hC.seta (i:=2) (ds:=[.slice A111 (((rZ d.length)).length) c112,.slice A103 (((rZ c.length)).length) c104,iv p]) rfl type32 rfl rfl rfl rfl rfl) ?_
 rintro w117 ⟨hC,hF⟩
 replace hD:=hD.besideG hUf83 hF
 replace hM:=hM.besideG hVf83 hF
 clear hF
 refine ⟨hD,?_⟩
 refine mixE.nil ?_
 clear hS hM
 clear hD
 exact hK14 _ _ ⟨g81,(rZ d.length),(rZ c.length),A111,((rZ d.length)).length,c112,A103,((rZ c.length)).length,c104,rfl,rfl,rfl,rfl,rfl,hC.sE [5,7,6,3,4,2,0,1],hb⟩
 clear hb hC
 rintro E119 w118 ⟨gP8,q,j,l,J,o,f,K,g,e2,e3,e6,e7,e8,hC,hb⟩
 unfold F.mirror_move_mirror_Reverse_c1_mirror_Reverse_c2_j0 at hb
 obtain ⟨rfl,V,X⟩:=(hC.ow (i:=6) rfl).sl_len
 obtain ⟨rfl,Y,Z⟩:=(hC.ow (i:=7) rfl).sl_len
 refine Wc.seq fun _ hK120=>?_
 refine Wc.seq fun _ hK121=>rg<|lp (.pointer (some ((⟨g4,0,none⟩:Addr).add 0))) (pu_field (sz:=1) underlying32 rfl sizeOf30 (by decide) rfl e3)<|lv (.slice C d.length D) (ld_fld (hC.bx (i:=0) rfl) isAgg30 rfl rfl)<|lp (iv (d.length:Int)) (pu_len (A:=C) (n:=d.length) (m:=D) underlying30 rfl)<|lp (iv 0) (pu_move rfl)<|ln (hK121 _ _ ?_)
 obtain ⟨o122,hl1,f122,hf122,hb⟩:=bn hb
 refine Wc.cut (fun E wv=> ∃(y:Int) (u:List Int),E 3=pg g4∧E 6=pg g10∧E 7=.func (.func 96) #[] #[pg g7]∧E 8=pg gP8∧I64 y∧Cx (fun _=>False) O0 w wv [.box g4 32 [.slice C d.length D,.slice B c.length z,iv p],.ro (.sl si) [.slice C d.length D] d,.ro (.sl si) [.slice B c.length z] c,.box g10 32 [.slice none 0 0,.slice none 0 0,iv 0],.box g7 97 [.func (.func 77) #[] #[]],.box gP8 32 [.slice l q.length o,.slice f j.length g,iv p],.own 3 si (.slice l q.length o) u,.own 3 si (.slice f j.length g) j]∧f122 (y,u)=some r) (fun _ hK123=>?_) ?_
 refine Wc.block ?_
 refine Wc.loop (fun m E wv=> ∃(y:Int) (u:List Int),E 2=.func (.func 78) #[] #[]∧E 3=pg g4∧E 6=pg g10∧E 7=.func (.func 96) #[] #[pg g7]∧E 8=pg gP8∧E 26=.slice C d.length D∧E 27=iv (d.length:Int)∧E 28=iv y∧I64 y∧Cx (fun _=>False) O0 w wv [.box g4 32 [.slice C d.length D,.slice B c.length z,iv p],.ro (.sl si) [.slice C d.length D] d,.ro (.sl si) [.slice B c.length z] c,.box g10 32 [.slice none 0 0,.slice none 0 0,iv 0],.box g7 97 [.func (.func 77) #[] #[]],.box gP8 32 [.slice l q.length o,.slice f j.length g,iv p],.own 3 si (.slice l q.length o) u,.own 3 si (.slice f j.length g) j]∧loopN m (F.mirror_move_mirror_Reverse_c1_mirror_Reverse_c2_b1 n d) (y,u)=some o122) n ⟨0,q,e2,e3,e6,e7,e8,rfl,rfl,rfl,(show I64 0 from by unfold I64; omega),hC.sE [0,1,2,3,4,5,6,7],hl1⟩ ?_
 have hbK1:=hb
 clear hb hC hl1
 rintro m125 E127 w126 ⟨y,u,e2,e3,e6,e7,e8,e26,e27,e28,L,hC,hl1⟩ K124 hK124
 obtain ⟨m125',o128,rfl,hb,hl1⟩:=loopN_some hl1
 unfold F.mirror_move_mirror_Reverse_c1_mirror_Reverse_c2_b1 at hb
 refine Wc.seq fun _ hK129=>rg<|lp _ (pu_lss e28 e27)<|ln (hK129 _ _ ?_)
 refine Wc.seq fun _ hK130=>?_
 refine Wc.cond (t:=(decide (y<(d.length:Int)))) (rfl) (fun hq131=>?_) (fun hq131=>?_)
 replace hb:=tt hq131 hb
 refine Wc.skip (hK130 _ _ ?_)
 refine Wc.seq fun _ hK132=>?_
 refine Wc.block<|Wc.seq fun _ hK133=>rg<|lp _ (pu_move e28) ?_
 obtain ⟨x134,h135,hb⟩:=bd hb
 obtain ⟨ad136,cs137,hA,hc138,hr139⟩:=hC.elr (i:=1) rfl (get_some h135).2
 subst hA
 refine lp (.pointer (some (ad136.add (y.toNat*1)))) (pu_index (a:=y) underlying30 sizeOf3 e26 e28 (get_some h135).1) ?_
 obtain ⟨rfl,hr139'⟩:=hr139
 refine lv (iv x134) (ld_one isAgg3 rfl (hc138 0 _ rfl))<|lp (iv y) (pu_assign rfl)<|lp (iv x134) (pu_assign rfl)<|ln (hK133 _ _ ?_)
 refine Wc.regionMix [34] (frm [34] ([]:List Fact) [.own 3 si (.slice l q.length o) u]) (fun _=>rfl) mixed (by decide+kernel) (by decide+kernel) fun w141 hw140=>?_
 replace hC:=hC.step (Fr.of_drew hw140)
 have hM:=Fr.refl (fun k=>k∈blocks ([]:List Fact)) w141
 clear hw140
 have hS:=hC
 have hD:Fr (fun k=>k∈blocks (([]:List Fact)++[.own 3 si (.slice l q.length o) u])) w141 w141:=hM.wide
 have S:Beside (([]:List Fact)++[.own 3 si (.slice l q.length o) u]) w141 (.slice l q.length o):=Beside.of (i:=0) rfl
 refine mp (.pointer (some ((⟨gP8,0,none⟩:Addr).add 0))) (pu_field (sz:=1) underlying32 rfl sizeOf30 (by decide) rfl e8)<|mixE.steady hD (v:=.slice l q.length o) (fun _ hF=>ld_fld (hS.bx2 (i:=5) rfl [6] (by decide) hF) isAgg30 rfl rfl)<|mp (iv y) (pu_move rfl)<|mp (iv x134) (pu_move rfl)<|mp (.func (.func 78) #[] #[]) (pu_move e2)<|mp (iv y) (pu_move rfl) ?_
 obtain ⟨y142,h143,hb⟩:=bd hb
 refine mixE.cl hM (⟨_,_,op_callv (vs:=[iv y]) (ca:=#[]) call78 rfl rfl rfl,mirror_Reverse_c2_ok n hC.lt L h143⟩) ?_
 rintro _ w145 ⟨rfl,hr144,hK⟩
 replace hM:=hM.none hK.fr
 replace hD:=hM.wide (H:=[.own 3 si (.slice l q.length o) u])
 refine ⟨hM,?_⟩
 replace hC:=hC.merge hK
 clear hK
 obtain ⟨z146,h147,hb⟩:=bd hb
 refine mp (iv z146) (pu_mulc (a:=x134) (b:=y142) rfl rfl h147) ?_
 obtain ⟨x148,h149,hb⟩:=bd hb
 obtain ⟨ad150,cs151,hA,ho154,hc152,hr153⟩:=hS.elo2 (i:=6) rfl (get_some h149).2 [] (by decide)
 subst hA
 refine mp (.pointer (some (ad150.add (y.toNat*1)))) (pu_index (a:=y) underlying30 sizeOf3 rfl rfl (by rw [(hC.ow (i:=6) rfl).sl_len.1]; exact (get_some h149).1))<|mixE.sk hD (hC.put (i:=6) rfl rfl sizeOf3 (k:=y.toNat) (a:=z146) (by have:=(get_some h149).1; simp at this⊢; omega) (⟨rfl,I64.wr (chk_rng h147)⟩) rfl rfl rfl) ?_
 rintro w155 ⟨hC,hF⟩
 replace hD:=hD.beside S hF
 clear hF
 refine ⟨hD,?_⟩
 refine mixE.nil ?_
 clear hS hM
 clear hD
 refine hK132 _ _<|rg ?_
 obtain ⟨z156,h157,hb⟩:=bd hb
 refine lp (iv z156) (pu_addc (a:=y) (b:=1) e28 rfl h157)<|lp (iv z156) (pu_move rfl)<|ln ?_
 obtain rfl:=os hb
 exact hK124 m125' _ _ (Nat.lt_succ_self _) ⟨z156,(u.set y.toNat z146),e2,e3,e6,e7,e8,e26,e27,rfl,(chk_rng h157),hC.sE [0,1,2,3,4,5,6,7],lN hl1⟩
 replace hb:=tf hq131 hb
 refine Wc.exit rfl ?_
 obtain rfl:=os hb
 obtain rfl:=(lX hl1).symm
 exact hK123 _ _ ⟨y,u,e3,e6,e7,e8,L,hC.sE [0,1,2,3,4,5,6,7],hbK1⟩
 clear hb hC hl1
 rintro E159 w158 ⟨y,u,e3,e6,e7,e8,L,hC,hb⟩
 subst hf122
 refine hK120 _ _ ?_
 refine Wc.seq fun _ hK160=>?_
 refine Wc.seq fun _ hK161=>rg<|lp (.pointer (some ((⟨g4,0,none⟩:Addr).add 1))) (pu_field (sz:=1) underlying32 rfl sizeOf30 (by decide) rfl e3)<|lv (.slice B c.length z) (ld_fld (hC.bx (i:=0) rfl) isAgg30 rfl rfl)<|lp (iv (c.length:Int)) (pu_len (A:=B) (n:=c.length) (m:=z) underlying30 rfl)<|lp (iv 0) (pu_move rfl)<|ln (hK161 _ _ ?_)
 obtain ⟨o162,hl2,f162,hf162,hb⟩:=bn hb
 refine Wc.cut (fun E wv=> ∃(G:Int) (x:List Int),E 6=pg g10∧E 8=pg gP8∧I64 G∧Cx (fun _=>False) O0 w wv [.box g10 32 [.slice none 0 0,.slice none 0 0,iv 0],.box gP8 32 [.slice l q.length o,.slice f j.length g,iv p],.own 3 si (.slice l q.length o) u,.own 3 si (.slice f j.length g) x]∧f162 (G,x)=some r) (fun _ hK163=>?_) ?_
 refine Wc.block ?_
 refine Wc.loop (fun m E wv=> ∃(G:Int) (x:List Int),E 6=pg g10∧E 7=.func (.func 96) #[] #[pg g7]∧E 8=pg gP8∧E 44=.slice B c.length z∧E 45=iv (c.length:Int)∧E 46=iv G∧I64 G∧Cx (fun _=>False) O0 w wv [.box g10 32 [.slice none 0 0,.slice none 0 0,iv 0],.box g7 97 [.func (.func 77) #[] #[]],.box gP8 32 [.slice l q.length o,.slice f j.length g,iv p],.own 3 si (.slice l q.length o) u,.own 3 si (.slice f j.length g) x,.ro (.sl si) [.slice B c.length z] c]∧loopN m (F.mirror_move_mirror_Reverse_c1_mirror_Reverse_c2_b2 n c) (G,x)=some o162) n ⟨0,j,e6,e7,e8,rfl,rfl,rfl,(show I64 0 from by unfold I64; omega),hC.sE [3,4,5,6,7,2],hl2⟩ ?_
 have hbK2:=hb
 clear hb hC hl2
 rintro m165 E167 w166 ⟨G,x,e6,e7,e8,e44,e45,e46,M,hC,hl2⟩ K164 hK164
 obtain ⟨m165',o168,rfl,hb,hl2⟩:=loopN_some hl2
 unfold F.mirror_move_mirror_Reverse_c1_mirror_Reverse_c2_b2 at hb
 refine Wc.seq fun _ hK169=>rg<|lp _ (pu_lss e46 e45)<|ln (hK169 _ _ ?_)
 refine Wc.seq fun _ hK170=>?_
 refine Wc.cond (t:=(decide (G<(c.length:Int)))) (rfl) (fun hq171=>?_) (fun hq171=>?_)
 replace hb:=tt hq171 hb
 refine Wc.skip (hK170 _ _ ?_)
 refine Wc.seq fun _ hK172=>?_
 refine Wc.block<|Wc.seq fun _ hK173=>rg<|lp _ (pu_move e46) ?_
 obtain ⟨x174,h175,hb⟩:=bd hb
 obtain ⟨ad176,cs177,hA,hc178,hr179⟩:=hC.elr (i:=5) rfl (get_some h175).2
 subst hA
 refine lp (.pointer (some (ad176.add (G.toNat*1)))) (pu_index (a:=G) underlying30 sizeOf3 e44 e46 (get_some h175).1) ?_
 obtain ⟨rfl,hr179'⟩:=hr179
 refine lv (iv x174) (ld_one isAgg3 rfl (hc178 0 _ rfl))<|lp (iv G) (pu_assign rfl)<|lp (iv x174) (pu_assign rfl)<|ln (hK173 _ _ ?_)
 refine Wc.regionMix [52] (frm [52] ([]:List Fact) [.own 3 si (.slice f j.length g) x]) (fun _=>rfl) mixed (by decide+kernel) (by decide+kernel) fun w181 hw180=>?_
 replace hC:=hC.step (Fr.of_drew hw180)
 have hM:=Fr.refl (fun k=>k∈blocks ([]:List Fact)) w181
 clear hw180
 have hS:=hC
 have hD:Fr (fun k=>k∈blocks (([]:List Fact)++[.own 3 si (.slice f j.length g) x])) w181 w181:=hM.wide
 have T:Beside (([]:List Fact)++[.own 3 si (.slice f j.length g) x]) w181 (.slice f j.length g):=Beside.of (i:=0) rfl
 refine mp (.pointer (some ((⟨gP8,0,none⟩:Addr).add 1))) (pu_field (sz:=1) underlying32 rfl sizeOf30 (by decide) rfl e8)<|mixE.steady hD (v:=.slice f j.length g) (fun _ hF=>ld_fld (hS.bx2 (i:=2) rfl [4] (by decide) hF) isAgg30 rfl rfl)<|mp (.func (.func 96) #[] #[pg g7]) (pu_move e7)<|mp (iv G) (pu_move rfl) ?_
 replace hC:Cx (fun _=>False) O0 w w181 ([.box g7 97 [.func (.func 77) #[] #[]]]++[.box g10 32 [.slice none 0 0,.slice none 0 0,iv 0],.box gP8 32 [.slice l q.length o,.slice f j.length g,iv p],.own 3 si (.slice l q.length o) u,.own 3 si (.slice f j.length g) x,.ro (.sl si) [.slice (some ad176) c.length z] c]):=hC.sE [1,0,2,3,4,5]
 obtain ⟨y182,h183,hb⟩:=bd hb
 refine mixE.cl hM (⟨_,_,op_callv (vs:=[iv G,pg g7]) (ca:=#[pg g7]) call96 rfl rfl rfl,mirror_move_c1_v3_ok n hC.lt M hC.give h183⟩) ?_
 rintro _ w185 ⟨rfl,hr184,hK⟩
 replace hM:=hM.none (Cx.still (hC.bx (i:=0) rfl) hK)
 replace hD:=hM.wide (H:=[.own 3 si (.slice f j.length g) x])
 refine ⟨hM,?_⟩
 replace hC:=hC.back hK
 clear hK
 refine mp (.func (.func 96) #[] #[pg g7]) (pu_move e7)<|mp (iv x174) (pu_move rfl) ?_
 replace hC:Cx (fun _=>False) O0 w w185 ([.box g7 97 [.func (.func 77) #[] #[]]]++[.box g10 32 [.slice none 0 0,.slice none 0 0,iv 0],.box gP8 32 [.slice l q.length o,.slice f j.length g,iv p],.own 3 si (.slice l q.length o) u,.own 3 si (.slice f j.length g) x,.ro (.sl si) [.slice (some ad176) c.length z] c]):=hC.sE [0,1,2,3,4,5]
 obtain ⟨y186,h187,hb⟩:=bd hb
 refine mixE.cl hM (⟨_,_,op_callv (vs:=[iv x174,pg g7]) (ca:=#[pg g7]) call96 rfl rfl rfl,mirror_move_c1_v3_ok n hC.lt (wrap_I64 hr179') hC.give h187⟩) ?_
 rintro _ w189 ⟨rfl,hr188,hK⟩
 replace hM:=hM.none (Cx.still (hC.bx (i:=0) rfl) hK)
 replace hD:=hM.wide (H:=[.own 3 si (.slice f j.length g) x])
 refine ⟨hM,?_⟩
 replace hC:=hC.back hK
 clear hK
 obtain ⟨x190,h191,hb⟩:=bd hb
 obtain ⟨ad192,cs193,hA,ho196,hc194,hr195⟩:=hS.elo2 (i:=4) rfl (get_some h191).2 [] (by decide)
 subst hA
 refine mp (.pointer (some (ad192.add (y182.toNat*1)))) (pu_index (a:=y182) underlying30 sizeOf3 rfl rfl (by rw [(hC.ow (i:=4) rfl).sl_len.1]; exact (get_some h191).1))<|mixE.sk hD (hC.put (i:=4) rfl rfl sizeOf3 (k:=y182.toNat) (a:=y186) (by have:=(get_some h191).1; simp at this⊢; omega) (⟨rfl,I64.wr hr188⟩) rfl rfl rfl) ?_
 rintro w197 ⟨hC,hF⟩
 replace hD:=hD.beside T hF
 clear hF
 refine ⟨hD,?_⟩
 refine mixE.nil ?_
 clear hS hM
 clear hD
 refine hK172 _ _<|rg ?_
 obtain ⟨z198,h199,hb⟩:=bd hb
 refine lp (iv z198) (pu_addc (a:=G) (b:=1) e46 rfl h199)<|lp (iv z198) (pu_move rfl)<|ln ?_
 obtain rfl:=os hb
 exact hK164 m165' _ _ (Nat.lt_succ_self _) ⟨z198,(x.set y182.toNat y186),e6,e7,e8,e44,e45,rfl,(chk_rng h199),hC.sE [1,0,2,3,4,5],lN hl2⟩
 replace hb:=tf hq171 hb
 refine Wc.exit rfl ?_
 obtain rfl:=os hb
 obtain rfl:=(lX hl2).symm
 exact hK163 _ _ ⟨G,x,e6,e8,M,hC.sE [0,2,3,4],hbK2⟩
 clear hb hC hl2
 rintro E201 w200 ⟨G,x,e6,e8,M,hC,hb⟩
 subst hf162
 refine hK160 _ _<|Wc.seq fun _ hK202=>rg<|lv (.agg #[.slice l q.length o,.slice f j.length g,iv p]) (ld_blk (hC.bx (i:=1) rfl) isAgg32 sizeOf32 e8)<|lex.sk (hC.seta (i:=0) (ds:=[.slice l q.length o,.slice f j.length g,iv p]) rfl type32 rfl rfl rfl e6 rfl) ?_
 rintro w203 ⟨hC,hF⟩
 refine ln (hK202 _ _ ?_)
 obtain rfl:=os hb
 refine Wc.ret (hKR _ _ ?_)
 refine ⟨_,res1 results71 ⟨_,e6,loadVar_blk (hC.bx (i:=0) rfl) isAgg32 sizeOf32⟩,_,rfl,l,q.length,o,f,j.length,g,rfl,U,hC.sE [2,3]⟩
end Go.Proofs.Yteajmbanlohncaa
