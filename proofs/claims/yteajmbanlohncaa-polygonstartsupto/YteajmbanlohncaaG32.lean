import Derived.Test.YteajmbanlohncaaS
import Derived.Test.YteajmbanlohncaaG6
import Derived.Test.YteajmbanlohncaaG18
import Derived.Test.YteajmbanlohncaaG20
import Derived.Test.YteajmbanlohncaaG24
import Derived.Test.YteajmbanlohncaaG29
import Derived.Test.YteajmbanlohncaaG30
import Derived.Test.YteajmbanlohncaaG31
set_option linter.unusedVariables false
set_option linter.unusedSimpArgs false
namespace Go.Proofs.Yteajmbanlohncaa
open Ev Try
set_option maxRecDepth 100000
set_option maxHeartbeats 4000000
theorem canon_Code_ok (n:Nat) {w:World} {O0:List Nat} (hO: ∀k∈O0,k<w.heap.size) {j:Option Addr} {C l:Nat} {u:List Int} (D:Rep O0 w (.sl si) [.slice j C l] u) {o:Option Addr} {G p:Nat} {x:List Int} (H:Rep O0 w (.sl si) [.slice o G p] x) {c:Int} (z:I64 c) {r:(List Int)} (hb:F.canon_Code n u x c=some r):
    Calls prog 79 #[.agg #[.slice j C l,.slice o G p,iv c]] w fun e w'=> ∃v,e=.returned v∧∃(A0:Option Addr) (m0 c0:Nat),v=.slice A0 m0 c0∧Cx (fun _=>False) O0 w w' [.own 3 si (.slice A0 m0 c0) r]:=by
 unfold F.canon_Code at hb
 have hC:=Cx.start hO
 replace hC:=hC.arg rfl D
 replace hC:=hC.arg rfl H
 clear hO
 obtain ⟨rfl,L,M⟩:=D.sl_len
 obtain ⟨rfl,N,P⟩:=H.sl_len
 refine calls_of_Wc func79 rfl (by rw [ntmps79]; exact nb rfl) fun KR hKR=>?_
 refine Wc.seq fun _ hK3=>rg<|lex.op (hC.box (cs:=[.slice j u.length l,.slice o x.length p,iv c]) rfl rfl) ?_
 rintro _ w5 ⟨g4,rfl,hC,hF,-⟩
 refine lp (.slice none 0 0) (pu_assign rfl)<|ln (hK3 _ _ ?_)
 refine Wc.seq fun _ hK7=>?_
 refine Wc.seq fun _ hK8=>rg<|lv (.agg #[.slice j u.length l,.slice o x.length p,iv c]) (ld_blk (hC.bx (i:=0) rfl) isAgg32 sizeOf32 rfl) ?_
 obtain ⟨y9,h10,hb⟩:=bd hb
 refine lex.cl (⟨_,_,op_call (vs:=[.agg #[.slice j u.length l,.slice o x.length p,iv c]]) call27 rfl rfl rfl,diagram_Valid_ok n hC.lt (hC.rd (i:=2) rfl) (hC.rd (i:=1) rfl) z h10⟩) ?_
 rintro _ w11 ⟨rfl,hK⟩
 replace hC:=hC.merge hK
 clear hK
 refine lp (.bool (!y9)) (pu_not (q:=y9) rfl)<|ln (hK8 _ _ ?_)
 refine Wc.cond (t:=(!y9)) (rfl) (fun hq12=>?_) (fun hq12=>?_)
 replace hb:=tt hq12 hb
 refine Wc.seq fun _ hK13=>rg<|lp (.slice none 0 0) (pu_assign rfl)<|ln (hK13 _ _ ?_)
 replace hC:=hC.nil 3 si
 obtain rfl:=os hb
 refine Wc.ret (hKR _ _ ?_)
 refine ⟨_,res1 results79 (tV (.slice none 0 0) rfl),_,rfl,none,0,0,rfl,hC.sE [0]⟩
 replace hb:=tf hq12 hb
 refine Wc.skip (hK7 _ _ ?_)
 refine Wc.seq fun _ hK15=>rg<|lv (.agg #[.slice j u.length l,.slice o x.length p,iv c]) (ld_blk (hC.bx (i:=0) rfl) isAgg32 sizeOf32 rfl) ?_
 obtain ⟨y16,h17,hb⟩:=bd hb
 refine lex.cl (⟨_,_,op_call (vs:=[.agg #[.slice j u.length l,.slice o x.length p,iv c]]) call98 rfl rfl rfl,canon_pieces_ok n hC.lt (hC.rd (i:=2) rfl) (hC.rd (i:=1) rfl) z h17⟩) ?_
 rintro _ w22 ⟨A18,m19,c20,rfl,hK⟩
 replace hC:=hC.merge hK
 clear hK
 obtain ⟨rfl,hl23,hc24⟩:=(hC.ow (i:=0) rfl).sl_len
 refine lp (.slice A18 y16.length c20) (pu_assign rfl)<|ln (hK15 _ _ ?_)
 refine Wc.seq fun _ hK25=>rg<|lp (.pointer (some ((⟨g4,0,none⟩:Addr).add 2))) (pu_field (sz:=1) underlying32 rfl sizeOf3 (by decide) rfl rfl)<|lv (iv c) (ld_fld (hC.bx (i:=1) rfl) isAgg3 rfl rfl)<|lp (.slice A18 y16.length c20) (pu_move rfl)<|lp (iv (y16.length:Int)) (pu_len (A:=A18) (n:=y16.length) (m:=c20) underlying124 rfl)<|lex.op (hC.lit (s:=si) (vs:=[iv c,iv (y16.length:Int)]) (xs:=[c,(y16.length:Int)]) underlying30 type3 rfl rfl (nb rfl) rfl rfl (by simp [Value.cells,Sh.n]) rfl (show Elems _ _ si ([iv c]++([iv (y16.length:Int)]++([]))) ([c,(y16.length:Int)]:List Int) from Elems.cons (⟨rfl,I64.wr z⟩) (Elems.cons (⟨rfl,I64.wr (I64.len hl23 hc24)⟩) (Elems.nil _ _ _)))) ?_
 rintro _ w30 ⟨A26,c27,rfl,hl28,hc29,hC,-,-⟩
 refine lp (.slice A26 ((([c,(y16.length:Int)]:List Int)).length) c27) (pu_assign rfl)<|ln (hK25 _ _ ?_)
 refine Wc.fresh fun E32 hE=>?_
 have e2:E32 2=.slice none 0 0:=cg hE 2 rfl
 have e3:E32 3=.slice A18 y16.length c20:=cg hE 3 rfl
 have e4:E32 4=.slice A26 ((([c,(y16.length:Int)]:List Int)).length) c27:=cg hE 4 rfl
 clear hE
 refine Wc.seq fun _ hK33=>?_
 refine Wc.seq fun _ hK34=>rg<|lp _ (pu_move e3)<|lp (iv (y16.length:Int)) (pu_len (A:=A18) (n:=y16.length) (m:=c20) underlying124 rfl)<|lp (iv 0) (pu_move rfl)<|ln (hK34 _ _ ?_)
 obtain ⟨o35,hl0,f35,hf35,hb⟩:=bn hb
 refine Wc.cut (fun E wv=> ∃(d:List Int) (f:Int) (g:Option Addr) (y h:Nat),E 2=.slice none 0 0∧E 4=.slice g y h∧I64 f∧Cx (fun _=>False) O0 w wv [.own 3 si (.slice g y h) d]∧f35 (d,f)=some r) (fun _ hK36=>?_) ?_
 refine Wc.block ?_
 refine Wc.loop (fun m E wv=> ∃(d:List Int) (f:Int) (g:Option Addr) (y h:Nat),E 2=.slice none 0 0∧E 4=.slice g y h∧E 17=.slice A18 y16.length c20∧E 18=iv (y16.length:Int)∧E 19=iv f∧I64 f∧Cx (fun _=>False) O0 w wv [.own 3 si (.slice g y h) d,.own 127 (.pr (.sl si) (.pr (.sl si) si)) (.slice A18 y16.length c20) y16]∧loopN m (F.canon_Code_b0 n y16) (d,f)=some o35) n ⟨([c,(y16.length:Int)]:List Int),0,A26,(([c,(y16.length:Int)]:List Int)).length,c27,e2,e4,rfl,rfl,rfl,(show I64 0 from by unfold I64; omega),hC.sE [0,1],hl0⟩ ?_
 have hbK0:=hb
 clear hb hC hl0
 rintro m38 E40 w39 ⟨d,f,g,y,h,e2,e4,e17,e18,e19,B,hC,hl0⟩ K37 hK37
 obtain ⟨m38',o41,rfl,hb,hl0⟩:=loopN_some hl0
 unfold F.canon_Code_b0 at hb
 obtain ⟨rfl,J,K⟩:=(hC.ow (i:=0) rfl).sl_len
 refine Wc.seq fun _ hK42=>rg<|lp _ (pu_lss e19 e18)<|ln (hK42 _ _ ?_)
 refine Wc.seq fun _ hK43=>?_
 refine Wc.cond (t:=(decide (f<(y16.length:Int)))) (rfl) (fun hq44=>?_) (fun hq44=>?_)
 replace hb:=tt hq44 hb
 refine Wc.skip (hK43 _ _ ?_)
 refine Wc.seq fun _ hK45=>?_
 refine Wc.block<|Wc.seq fun _ hK46=>rg ?_
 obtain ⟨x47,h48,hb⟩:=bd hb
 obtain ⟨ad49,cs50,hA,hc51,hr52⟩:=hC.elo (i:=1) rfl (get_some h48).2
 subst hA
 refine lp (.pointer (some (ad49.add (f.toNat*3)))) (pu_index (a:=f) underlying124 sizeOf127 e17 e19 (get_some h48).1) ?_
 obtain ⟨k53,k54,rfl,hr55,hr56⟩:=hr52
 have hR:=hr55
 obtain ⟨A57,c58,rfl,hl59,hc60,_⟩:=hr55
 replace hC:=hC.ro hR
 clear hR
 obtain ⟨k62,k63,rfl,hr64,hr65⟩:=hr56
 have hR:=hr64
 obtain ⟨A66,c67,rfl,hl68,hc69,_⟩:=hr64
 replace hC:=hC.ro hR
 clear hR
 obtain ⟨rfl,hr65⟩:=hr65
 refine lv (.agg #[.slice A57 x47.1.length c58,.slice A66 x47.2.1.length c67,iv x47.2.2]) (ld_agg isAgg127 sizeOf127 rfl rfl hc51)<|lex.op (hC.alloc (cs:=[.slice none 0 0,.slice none 0 0,iv 0]) zeroValue127 rfl) ?_
 rintro _ w72 ⟨g71,rfl,hC,hF,-⟩
 refine lex.sk (hC.seta (i:=0) (ds:=[.slice A57 x47.1.length c58,.slice A66 x47.2.1.length c67,iv x47.2.2]) rfl type127 rfl rfl rfl rfl rfl) ?_
 rintro w74 ⟨hC,hF⟩
 refine ln (hK46 _ _ ?_)
 refine Wc.seq fun _ hK75=>rg<|lp _ (pu_move e4)<|lp (.pointer (some ((⟨g71,0,none⟩:Addr).add 1))) (pu_field (sz:=1) underlying127 rfl sizeOf30 (by decide) rfl rfl)<|lv (.slice A66 x47.2.1.length c67) (ld_fld (hC.bx (i:=0) rfl) isAgg30 rfl rfl)<|lp (iv (x47.2.1.length:Int)) (pu_len (A:=A66) (n:=x47.2.1.length) (m:=c67) underlying30 rfl)<|lex.op (hC.lit (s:=si) (vs:=[iv (x47.2.1.length:Int)]) (xs:=[(x47.2.1.length:Int)]) underlying30 type3 rfl rfl (nb rfl) rfl rfl (by simp [Value.cells,Sh.n]) rfl (show Elems _ _ si ([iv (x47.2.1.length:Int)]++([])) ([(x47.2.1.length:Int)]:List Int) from Elems.cons (⟨rfl,I64.wr (I64.len hl68 hc69)⟩) (Elems.nil _ _ _))) ?_
 rintro _ w80 ⟨A76,c77,rfl,hl78,hc79,hC,-,-⟩
 obtain ⟨u82,h83,hb⟩:=bd hb
 refine lex.op (hC.app (i:=4) (s:=si) (xs:=d) (ys:=([(x47.2.1.length:Int)]:List Int)) (m:=((([(x47.2.1.length:Int)]:List Int)).length)) rfl underlying30 underlying30 type3 rfl rfl rfl (hC.srco (i:=0) rfl) rfl rfl (by have:=lim_some h83; simp at this⊢ <;>omega) (by decide)) ?_
 rintro _ w88 ⟨A84,c85,rfl,hl86,hc87,hC,-,-⟩
 refine lp (.slice A84 ((d++([(x47.2.1.length:Int)]:List Int)).length) c85) (pu_assign rfl)<|ln (hK75 _ _ ?_)
 refine Wc.fresh fun E89 hE=>?_
 have e2:=cg hE 2 e2
 have e4:E89 4=.slice A84 ((d++([(x47.2.1.length:Int)]:List Int)).length) c85:=cg hE 4 rfl
 have e6:E89 6=pg g71:=cg hE 6 rfl
 have e17:=cg hE 17 e17
 have e18:=cg hE 18 e18
 have e19:=cg hE 19 e19
 have e20:E89 20=.bool (decide (f<(y16.length:Int))):=cg hE 20 rfl
 clear hE
 refine rg<|lp _ (pu_move e4)<|lp (.pointer (some ((⟨g71,0,none⟩:Addr).add 0))) (pu_field (sz:=1) underlying127 rfl sizeOf30 (by decide) rfl e6)<|lv (.slice A57 x47.1.length c58) (ld_fld (hC.bx (i:=1) rfl) isAgg30 rfl rfl) ?_
 obtain ⟨u90,h91,hb⟩:=bd hb
 refine lex.op (hC.app (i:=4) (s:=si) (xs:=(d++([(x47.2.1.length:Int)]:List Int))) (ys:=x47.1) (m:=x47.1.length) rfl underlying30 underlying30 type3 rfl rfl rfl (hC.srcr (i:=3) rfl) rfl rfl (by have:=lim_some h91; simp at this⊢ <;>omega) (by decide)) ?_
 rintro _ w96 ⟨A92,c93,rfl,hl94,hc95,hC,-,-⟩
 refine lp (.slice A92 (((d++([(x47.2.1.length:Int)]:List Int))++x47.1).length) c93) (pu_assign rfl)<|ln (hK45 _ _ ?_)
 refine rg ?_
 obtain ⟨z97,h98,hb⟩:=bd hb
 refine lp (iv z97) (pu_addc (a:=f) (b:=1) e19 rfl h98)<|lp (iv z97) (pu_move rfl)<|ln ?_
 obtain rfl:=os hb
 exact hK37 m38' _ _ (Nat.lt_succ_self _) ⟨((d++([(x47.2.1.length:Int)]:List Int))++x47.1),z97,A92,((d++([(x47.2.1.length:Int)]:List Int))++x47.1).length,c93,e2,rfl,e17,e18,rfl,(chk_rng h98),hC.sE [4,5],lN hl0⟩
 replace hb:=tf hq44 hb
 refine Wc.exit rfl ?_
 obtain rfl:=os hb
 obtain rfl:=(lX hl0).symm
 exact hK36 _ _ ⟨d,f,g,d.length,h,e2,e4,B,hC.sE [0],hbK0⟩
 clear hb hC hl0
 rintro E100 w99 ⟨d,f,g,y,h,e2,e4,B,hC,hb⟩
 subst hf35
 obtain ⟨rfl,J,K⟩:=(hC.ow (i:=0) rfl).sl_len
 refine hK33 _ _<|Wc.seq fun _ hK101=>rg<|lp _ (pu_move e4)<|lp (.slice g d.length h) (pu_assign rfl)<|ln (hK101 _ _ ?_)
 obtain rfl:=os hb
 refine Wc.ret (hKR _ _ ?_)
 refine ⟨_,res1 results79 (tV (.slice g d.length h) rfl),_,rfl,g,d.length,h,rfl,hC.sE [0]⟩

theorem canon_Same_ok (n:Nat) {w:World} {O0:List Nat} (hO: ∀k∈O0,k<w.heap.size) {a:Option Addr} {x b:Nat} {o:List Int} (y:Rep O0 w (.sl si) [.slice a x b] o) {c:Option Addr} {z d:Nat} {p:List Int} (A:Rep O0 w (.sl si) [.slice c z d] p) {l:Int} (B:I64 l) {f:Option Addr} {C g:Nat} {s:List Int} (D:Rep O0 w (.sl si) [.slice f C g] s) {h:Option Addr} {G j:Nat} {u:List Int} (H:Rep O0 w (.sl si) [.slice h G j] u) {m:Int} (J:I64 m) {r:Bool} (hb:F.canon_Same n o p l s u m=some r):
    Calls prog 42 #[.agg #[.slice a x b,.slice c z d,iv l],.agg #[.slice f C g,.slice h G j,iv m]] w fun e w'=> ∃v,e=.returned v∧v=.bool r∧Cx (fun _=>False) O0 w w' []:=by
 unfold F.canon_Same at hb
 have hC:=Cx.start hO
 replace hC:=hC.arg rfl y
 replace hC:=hC.arg rfl A
 replace hC:=hC.arg rfl D
 replace hC:=hC.arg rfl H
 clear hO
 obtain ⟨rfl,K,L⟩:=y.sl_len
 obtain ⟨rfl,M,N⟩:=A.sl_len
 obtain ⟨rfl,P,Q⟩:=D.sl_len
 obtain ⟨rfl,R,S⟩:=H.sl_len
 refine calls_of_Wc func42 rfl (by rw [ntmps42]; exact nb rfl) fun KR hKR=>?_
 refine Wc.seq fun _ hK5=>rg<|lex.op (hC.box (cs:=[.slice a o.length b,.slice c p.length d,iv l]) rfl rfl) ?_
 rintro _ w7 ⟨g6,rfl,hC,hF,-⟩
 refine lex.op (hC.box (cs:=[.slice f s.length g,.slice h u.length j,iv m]) rfl rfl) ?_
 rintro _ w10 ⟨g9,rfl,hC,hF,-⟩
 refine lp (.bool false) (pu_assign rfl)<|ln (hK5 _ _ ?_)
 refine Wc.seq fun _ hK12=>?_
 refine Wc.seq fun _ hK13=>rg<|lv (.agg #[.slice a o.length b,.slice c p.length d,iv l]) (ld_blk (hC.bx (i:=1) rfl) isAgg32 sizeOf32 rfl) ?_
 obtain ⟨y14,h15,hb⟩:=bd hb
 refine lex.cl (⟨_,_,op_call (vs:=[.agg #[.slice a o.length b,.slice c p.length d,iv l]]) call27 rfl rfl rfl,diagram_Valid_ok n hC.lt (hC.rd (i:=5) rfl) (hC.rd (i:=4) rfl) B h15⟩) ?_
 rintro _ w16 ⟨rfl,hK⟩
 replace hC:=hC.merge hK
 clear hK
 refine lp (.bool (!y14)) (pu_not (q:=y14) rfl)<|lp (.bool (!y14)) (pu_move rfl) ?_
 rcases bS (!y14) with hq17 | hq17
 replace hb:=tt hq17 hb
 refine gs rfl rfl (!y14) rfl hq17<|gs rfl rfl (!y14) rfl hq17<|gs rfl rfl (!y14) rfl hq17<|lp (.bool true) (pu_pickT (q:=(!y14)) rfl hq17 rfl)<|ln (hK13 _ _ ?_)
 refine Wc.cond_true (rfl) ?_
 refine Wc.seq fun _ hK18=>rg<|lp (.bool false) (pu_assign rfl)<|ln (hK18 _ _ ?_)
 obtain rfl:=os hb
 refine Wc.ret (hKR _ _ ?_)
 refine ⟨_,res1 results42 (tV (.bool false) rfl),_,rfl,rfl,hC.sE []⟩
 replace hb:=tf hq17 hb
 refine gv rfl rfl (!y14) rfl hq17 (.agg #[.slice f s.length g,.slice h u.length j,iv m]) (ld_blk (hC.bx (i:=0) rfl) isAgg32 sizeOf32 rfl) ?_
 obtain ⟨y19,h20,hb⟩:=bd hb
 refine lex.gcl (want_t rfl rfl (show _=Value.bool (!y14) from rfl) hq17) (⟨_,_,op_call (vs:=[.agg #[.slice f s.length g,.slice h u.length j,iv m]]) call27 rfl rfl rfl,diagram_Valid_ok n hC.lt (hC.rd (i:=3) rfl) (hC.rd (i:=2) rfl) J h20⟩) ?_
 rintro _ w21 ⟨rfl,hK⟩
 replace hC:=hC.merge hK
 clear hK
 refine gp rfl rfl (!y14) rfl hq17 (.bool (!y19)) (pu_not (q:=y19) rfl)<|lp (.bool (!y19)) (pu_pickF (q:=(!y14)) rfl hq17 rfl)<|ln (hK13 _ _ ?_)
 refine Wc.cond (t:=(!y19)) (rfl) (fun hq22=>?_) (fun hq22=>?_)
 replace hb:=tt hq22 hb
 refine Wc.seq fun _ hK23=>rg<|lp (.bool false) (pu_assign rfl)<|ln (hK23 _ _ ?_)
 obtain rfl:=os hb
 refine Wc.ret (hKR _ _ ?_)
 refine ⟨_,res1 results42 (tV (.bool false) rfl),_,rfl,rfl,hC.sE []⟩
 replace hb:=tf hq22 hb
 refine Wc.skip (hK12 _ _ ?_)
 refine Wc.fresh fun E24 hE=>?_
 have e2:E24 2=pg g6:=cg hE 2 rfl
 have e3:E24 3=pg g9:=cg hE 3 rfl
 have e4:E24 4=.bool false:=cg hE 4 rfl
 clear hE
 refine Wc.seq fun _ hK25=>?_
 refine Wc.regionMix [] (frm [] ([]:List Fact) ([]:List Fact)) (fun _=>rfl) mixed (by decide+kernel) (by decide+kernel) fun w27 hw26=>?_
 replace hC:=hC.step (Fr.of_drew hw26)
 have hM:=Fr.refl (fun k=>k∈blocks ([]:List Fact)) w27
 clear hw26
 have hS:=hC
 refine mixE.load hM (v:=.agg #[.slice a o.length b,.slice c p.length d,iv l]) (fun _ hF=>ld_blk (hS.bx2 (i:=1) rfl [] (by decide) hF) isAgg32 sizeOf32 e2) ?_
 obtain ⟨y28,h29,hb⟩:=bd hb
 refine mixE.cl hM (⟨_,_,op_call (vs:=[.agg #[.slice a o.length b,.slice c p.length d,iv l]]) call79 rfl rfl rfl,canon_Code_ok n hC.lt (hC.rd (i:=5) rfl) (hC.rd (i:=4) rfl) B h29⟩) ?_
 rintro _ w34 ⟨A30,m31,c32,rfl,hK⟩
 have hBf33:=Beside.cl (i:=0) hM hK rfl
 replace hM:=hM.none hK.fr
 refine ⟨hM,?_⟩
 replace hC:=hC.merge hK
 clear hK
 obtain ⟨rfl,hl35,hc36⟩:=(hC.ow (i:=0) rfl).sl_len
 refine mixE.load hM (v:=.agg #[.slice f s.length g,.slice h u.length j,iv m]) (fun _ hF=>ld_blk (hS.bx2 (i:=0) rfl [] (by decide) hF) isAgg32 sizeOf32 e3) ?_
 obtain ⟨y37,h38,hb⟩:=bd hb
 refine mixE.cl hM (⟨_,_,op_call (vs:=[.agg #[.slice f s.length g,.slice h u.length j,iv m]]) call79 rfl rfl rfl,canon_Code_ok n hC.lt (hC.rd (i:=4) rfl) (hC.rd (i:=3) rfl) J h38⟩) ?_
 rintro _ w43 ⟨A39,m40,c41,rfl,hK⟩
 have hBf42:=Beside.cl (i:=0) hM hK rfl
 replace hM:=hM.none hK.fr
 refine ⟨hM,?_⟩
 replace hC:=hC.merge hK
 clear hK
 obtain ⟨rfl,hl44,hc45⟩:=(hC.ow (i:=0) rfl).sl_len
 obtain ⟨y46,h47,hb⟩:=bd hb
 refine mixE.cl hM (⟨_,_,op_call (vs:=[.slice A30 y28.length c32,.slice A39 y37.length c41]) call64 rfl rfl rfl,slices_Equal_Lint_int_ok n (hC.lentLt [.slice A30 y28.length c32,.slice A39 y37.length c41]) ((hC.ow (i:=1) rfl).lend (vs:=[.slice A30 y28.length c32,.slice A39 y37.length c41]) (by simp)) ((hC.ow (i:=0) rfl).lend (vs:=[.slice A30 y28.length c32,.slice A39 y37.length c41]) (by simp)) h47⟩) ?_
 rintro _ w48 ⟨rfl,hK⟩
 replace hM:=hM.none hK.fr
 refine ⟨hM,?_⟩
 replace hC:=hC.mergeF hK rfl
 clear hK
 refine mp (.bool y46) (pu_assign rfl)<|mixE.nil ?_
 clear hS hM
 refine hK25 _ _ ?_
 obtain rfl:=os hb
 refine Wc.ret (hKR _ _ ?_)
 refine ⟨_,res1 results42 (tV (.bool y46) rfl),_,rfl,rfl,hC.sE []⟩

theorem law46_PolygonStarts_ok (n:Nat) {w:World} {O0:List Nat} (hO: ∀k∈O0,k<w.heap.size) {x:Option Addr} {C u:Nat} {f:List (List (Int×(Int×Int)))} (D:Rep O0 w (.sl (.sl (.pr si (.pr si si)))) [.slice x C u] f) {c:Int} (L:IntKind.u8.wrap c=c) {r:Bool} (hb:F.law46_PolygonStarts n f c=some r):
    Calls prog 10 #[.slice x C u,.int .u8 c] w fun e w'=> ∃v,e=.returned v∧v=.bool r∧Cx (fun _=>False) O0 w w' []:=by
 unfold F.law46_PolygonStarts at hb
 have hC:=Cx.start hO
 replace hC:=hC.arg rfl D
 clear hO
 obtain ⟨rfl,M,N⟩:=D.sl_len
 refine calls_of_Wc func10 rfl (by rw [ntmps10]; exact nb rfl) fun KR hKR=>?_
 refine Wc.seq fun _ hK2=>rg<|lp (.bool false) (pu_assign rfl)<|ln (hK2 _ _ ?_)
 refine Wc.seq fun _ hK3=>?_
 refine Wc.seq fun _ hK4=>rg ?_
 obtain ⟨y5,h6,hb⟩:=bd hb
 refine lex.cl (⟨_,_,op_call (vs:=[]) call11 rfl rfl rfl,law46_awake_ok n hC.lt h6⟩) ?_
 rintro _ w7 ⟨rfl,hK⟩
 replace hC:=hC.merge hK
 clear hK
 refine lp (.bool (!y5)) (pu_not (q:=y5) rfl)<|ln (hK4 _ _ ?_)
 refine Wc.cond (t:=(!y5)) (rfl) (fun hq8=>?_) (fun hq8=>?_)
 replace hb:=tt hq8 hb
 refine Wc.seq fun _ hK9=>rg<|lp (.bool false) (pu_assign rfl)<|ln (hK9 _ _ ?_)
 obtain rfl:=os hb
 refine Wc.ret (hKR _ _ ?_)
 refine ⟨_,res1 results10 (tV (.bool false) rfl),_,rfl,rfl,hC.sE []⟩
 replace hb:=tf hq8 hb
 refine Wc.skip (hK3 _ _ ?_)
 refine Wc.seq fun _ hK10=>rg<|lp (.slice x f.length u) (pu_move rfl) ?_
 obtain ⟨y11,h12,hb⟩:=bd hb
 refine lex.cl (⟨_,_,op_call (vs:=[.slice x f.length u]) call23 rfl rfl rfl,law46_generic_ok n hC.lt (hC.rd (i:=0) rfl) h12⟩) ?_
 rintro _ w22 ⟨A13,m14,c15,A17,m18,c19,rfl,hr21,hK⟩
 replace hC:=hC.merge hK
 clear hK
 obtain ⟨rfl,hl23,hc24⟩:=(hC.ow (i:=0) rfl).sl_len
 obtain ⟨rfl,hl25,hc26⟩:=(hC.ow (i:=1) rfl).sl_len
 refine lp (.tuple #[.agg #[.slice A13 y11.1.length c15,.slice A17 y11.2.1.length c19,iv y11.2.2.1],.bool y11.2.2.2]) (pu_move rfl)<|lp (.agg #[.slice A13 y11.1.length c15,.slice A17 y11.2.1.length c19,iv y11.2.2.1]) (pu_extract rfl rfl)<|lp (.bool y11.2.2.2) (pu_extract rfl rfl)<|lex.op (hC.alloc (cs:=[.slice none 0 0,.slice none 0 0,iv 0]) zeroValue32 rfl) ?_
 rintro _ w28 ⟨g27,rfl,hC,hF,-⟩
 refine lex.sk (hC.seta (i:=0) (ds:=[.slice A13 y11.1.length c15,.slice A17 y11.2.1.length c19,iv y11.2.2.1]) rfl type32 rfl rfl rfl rfl rfl) ?_
 rintro w30 ⟨hC,hF⟩
 refine lp (.bool y11.2.2.2) (pu_assign rfl)<|ln (hK10 _ _ ?_)
 refine Wc.fresh fun E31 hE=>?_
 have e0:E31 0=.slice x f.length u:=cg hE 0 rfl
 have e1:E31 1=.int .u8 c:=cg hE 1 rfl
 have e4:E31 4=.bool false:=cg hE 4 rfl
 have e5:E31 5=pg g27:=cg hE 5 rfl
 have e6:E31 6=.bool y11.2.2.2:=cg hE 6 rfl
 clear hE
 refine Wc.seq fun _ hK32=>?_
 refine Wc.seq fun _ hK33=>rg<|lp _ (pu_move e6)<|lp (.bool (!y11.2.2.2)) (pu_not (q:=y11.2.2.2) rfl)<|lp (.bool (!y11.2.2.2)) (pu_move rfl) ?_
 rcases bS (!y11.2.2.2) with hq34 | hq34
 replace hb:=tt hq34 hb
 refine gs rfl rfl (!y11.2.2.2) rfl hq34<|gs rfl rfl (!y11.2.2.2) rfl hq34<|gs rfl rfl (!y11.2.2.2) rfl hq34<|lp (.bool true) (pu_pickT (q:=(!y11.2.2.2)) rfl hq34 rfl)<|ln (hK33 _ _ ?_)
 refine Wc.cond_true (rfl) ?_
 refine Wc.seq fun _ hK35=>rg<|lp (.bool true) (pu_assign rfl)<|ln (hK35 _ _ ?_)
 obtain rfl:=os hb
 refine Wc.ret (hKR _ _ ?_)
 refine ⟨_,res1 results10 (tV (.bool true) rfl),_,rfl,rfl,hC.sE []⟩
 replace hb:=tf hq34 hb
 refine gp rfl rfl (!y11.2.2.2) rfl hq34 (.slice x f.length u) (pu_move e0)<|gp rfl rfl (!y11.2.2.2) rfl hq34 (iv (f.length:Int)) (pu_len (A:=x) (n:=f.length) (m:=u) underlying28 rfl)<|gp rfl rfl (!y11.2.2.2) rfl hq34 (.bool (decide ((f.length:Int)=0))) (pu_eql (k:=.i64) (a:=(f.length:Int)) (b:=0) rfl rfl)<|lp (.bool (decide ((f.length:Int)=0))) (pu_pickF (q:=(!y11.2.2.2)) rfl hq34 rfl)<|ln (hK33 _ _ ?_)
 refine Wc.cond (t:=(decide ((f.length:Int)=0))) (rfl) (fun hq36=>?_) (fun hq36=>?_)
 replace hb:=tt hq36 hb
 refine Wc.seq fun _ hK37=>rg<|lp (.bool true) (pu_assign rfl)<|ln (hK37 _ _ ?_)
 obtain rfl:=os hb
 refine Wc.ret (hKR _ _ ?_)
 refine ⟨_,res1 results10 (tV (.bool true) rfl),_,rfl,rfl,hC.sE []⟩
 replace hb:=tf hq36 hb
 refine Wc.skip (hK32 _ _ ?_)
 refine Wc.seq fun _ hK38=>rg<|lp (.slice none 0 0) (pu_assign rfl)<|lp (.slice none 0 0) (pu_assign rfl)<|ln (hK38 _ _ ?_)
 refine Wc.seq fun _ hK39=>?_
 refine Wc.seq fun _ hK40=>rg<|lp _ (pu_move e0)<|lp (iv (f.length:Int)) (pu_len (A:=x) (n:=f.length) (m:=u) underlying28 rfl)<|lp (iv 0) (pu_move rfl)<|ln (hK40 _ _ ?_)
 refine Wc.fresh fun E41 hE=>?_
 have e1:=cg hE 1 e1
 have e4:=cg hE 4 e4
 have e5:=cg hE 5 e5
 have e7:E41 7=.slice none 0 0:=cg hE 7 rfl
 have e8:E41 8=.slice none 0 0:=cg hE 8 rfl
 have e33:E41 33=.slice x f.length u:=cg hE 33 rfl
 have e34:E41 34=iv (f.length:Int):=cg hE 34 rfl
 have e35:E41 35=iv 0:=cg hE 35 rfl
 clear hE
 replace hC:=hC.nil 43 (.sl (.pr si (.pr si si)))
 replace hC:=hC.nil 43 (.sl (.pr si (.pr si si)))
 obtain ⟨o44,hl0,f44,hf44,hb⟩:=bn hb
 refine Wc.cut (fun E wv=> ∃(d:List (List (Int×(Int×Int)))) (g:List (List (Int×(Int×Int)))) (h:Int) (j:Option Addr) (y l:Nat) (o:Option Addr) (z p:Nat),E 4=.bool false∧E 5=pg g27∧E 7=.slice j y l∧E 8=.slice o z p∧I64 h∧Cx (fun _=>False) O0 w wv [.box g27 32 [.slice A13 y11.1.length c15,.slice A17 y11.2.1.length c19,iv y11.2.2.1],.own 3 si (.slice A13 y11.1.length c15) y11.1,.own 3 si (.slice A17 y11.2.1.length c19) y11.2.1,.own 43 (.sl (.pr si (.pr si si))) (.slice j y l) d,.own 43 (.sl (.pr si (.pr si si))) (.slice o z p) g]∧f44 (d,g,h)=some r) (fun _ hK45=>?_) ?_
 refine Wc.block ?_
 refine Wc.loop (fun m E wv=> ∃(d:List (List (Int×(Int×Int)))) (g:List (List (Int×(Int×Int)))) (h:Int) (j:Option Addr) (y l:Nat) (o:Option Addr) (z p:Nat),E 1=.int .u8 c∧E 4=.bool false∧E 5=pg g27∧E 7=.slice j y l∧E 8=.slice o z p∧E 33=.slice x f.length u∧E 34=iv (f.length:Int)∧E 35=iv h∧I64 h∧Cx (fun _=>False) O0 w wv [.box g27 32 [.slice A13 y11.1.length c15,.slice A17 y11.2.1.length c19,iv y11.2.2.1],.own 3 si (.slice A13 y11.1.length c15) y11.1,.own 3 si (.slice A17 y11.2.1.length c19) y11.2.1,.own 43 (.sl (.pr si (.pr si si))) (.slice j y l) d,.own 43 (.sl (.pr si (.pr si si))) (.slice o z p) g,.ro (.sl (.sl (.pr si (.pr si si)))) [.slice x f.length u] f]∧loopN m (F.law46_PolygonStarts_b0 n f c) (d,g,h)=some o44) n ⟨([]:List (List (Int×(Int×Int)))),([]:List (List (Int×(Int×Int)))),0,none,0,0,none,0,0,e1,e4,e5,e7,e8,e33,e34,e35,(show I64 0 from by unfold I64; omega),hC.sE [2,3,4,1,0,5],hl0⟩ ?_
 have hbK0:=hb
 clear hb hC hl0
 rintro m47 E49 w48 ⟨d,g,h,j,y,l,o,z,p,e1,e4,e5,e7,e8,e33,e34,e35,B,hC,hl0⟩ K46 hK46
 obtain ⟨m47',o50,rfl,hb,hl0⟩:=loopN_some hl0
 unfold F.law46_PolygonStarts_b0 at hb
 obtain ⟨rfl,G,H⟩:=(hC.ow (i:=3) rfl).sl_len
 obtain ⟨rfl,J,K⟩:=(hC.ow (i:=4) rfl).sl_len
 refine Wc.seq fun _ hK51=>rg<|lp _ (pu_lss e35 e34)<|ln (hK51 _ _ ?_)
 refine Wc.seq fun _ hK52=>?_
 refine Wc.cond (t:=(decide (h<(f.length:Int)))) (rfl) (fun hq53=>?_) (fun hq53=>?_)
 replace hb:=tt hq53 hb
 refine Wc.skip (hK52 _ _ ?_)
 refine Wc.seq fun _ hK54=>?_
 refine Wc.block<|Wc.seq fun _ hK55=>rg ?_
 obtain ⟨x56,h57,hb⟩:=bd hb
 obtain ⟨ad58,cs59,hA,hc60,hr61⟩:=hC.elr (i:=5) rfl (get_some h57).2
 subst hA
 refine lp (.pointer (some (ad58.add (h.toNat*1)))) (pu_index (a:=h) underlying28 sizeOf43 e33 e35 (get_some h57).1) ?_
 have hR:=hr61
 obtain ⟨A62,c63,rfl,hl64,hc65,_⟩:=hr61
 replace hC:=hC.ro hR
 clear hR
 refine lv (.slice A62 x56.length c63) (ld_one isAgg43 rfl (hc60 0 _ rfl))<|lp (.slice A62 x56.length c63) (pu_assign rfl)<|ln (hK55 _ _ ?_)
 refine Wc.seq fun _ hK67=>rg<|lp _ (pu_move e1)<|lp (iv c) (pu_conv (k:=.u8) (a:=c) underlying5 underlying3 rfl (small_u8 L).wr)<|lp (.slice A62 x56.length c63) (pu_move rfl)<|lp (iv (x56.length:Int)) (pu_len (A:=A62) (n:=x56.length) (m:=c63) underlying43 rfl) ?_
 obtain ⟨u68,h69,hb⟩:=bd hb
 refine lp (iv (Int.tmod c (x56.length:Int))) (pu_remc (a:=c) (b:=(x56.length:Int)) rfl rfl h69)<|lp (iv (Int.tmod c (x56.length:Int))) (pu_assign rfl)<|ln (hK67 _ _ ?_)
 refine Wc.fresh fun E70 hE=>?_
 have e1:=cg hE 1 e1
 have e4:=cg hE 4 e4
 have e5:=cg hE 5 e5
 have e7:=cg hE 7 e7
 have e8:=cg hE 8 e8
 have e10:E70 10=.slice A62 x56.length c63:=cg hE 10 rfl
 have e11:E70 11=iv (Int.tmod c (x56.length:Int)):=cg hE 11 rfl
 have e33:=cg hE 33 e33
 have e34:=cg hE 34 e34
 have e35:=cg hE 35 e35
 have e36:E70 36=.bool (decide (h<(f.length:Int))):=cg hE 36 rfl
 clear hE
 refine Wc.seq fun _ hK71=>?_
 refine Wc.regionMix [] (frm [] ([]:List Fact) ([]:List Fact)) (fun _=>rfl) mixed (by decide+kernel) (by decide+kernel) fun w73 hw72=>?_
 replace hC:=hC.step (Fr.of_drew hw72)
 have hM:=Fr.refl (fun k=>k∈blocks ([]:List Fact)) w73
 clear hw72
 have hS:=hC
 refine mp (.slice A62 x56.length c63) (pu_move e10)<|mp (iv (Int.tmod c (x56.length:Int))) (pu_move e11) ?_
 obtain ⟨u74,h75,hb⟩:=bd hb
 obtain ⟨A76,c77,hp80,hR81⟩:=pu_part_l (a:=(Int.tmod c (x56.length:Int))) underlying43 sizeOf23 (hC.rd (i:=0) rfl) rfl (cut_some h75)
 refine mp (.slice A76 (((x56.drop (Int.tmod c (x56.length:Int)).toNat).take ((x56.length:Int).toNat-(Int.tmod c (x56.length:Int)).toNat)).length) c77) (hp80 rfl rfl ) ?_
 replace hC:=hC.ro hR81
 obtain ⟨-,hl78,hc79⟩:=(hC.rd (i:=0) rfl).sl_len
 refine mp (.slice A62 x56.length c63) (pu_move e10)<|mp (iv (Int.tmod c (x56.length:Int))) (pu_move e11) ?_
 obtain ⟨u83,h84,hb⟩:=bd hb
 obtain ⟨A85,c86,hp89,hR90⟩:=pu_part_h (b:=(Int.tmod c (x56.length:Int))) underlying43 sizeOf23 (hC.rd (i:=1) rfl) rfl (cut_some h84)
 refine mp (.slice A85 (((x56.drop (0:Int).toNat).take ((Int.tmod c (x56.length:Int)).toNat-(0:Int).toNat)).length) c86) (hp89 rfl rfl) ?_
 replace hC:=hC.ro hR90
 obtain ⟨-,hl87,hc88⟩:=(hC.rd (i:=0) rfl).sl_len
 refine mixE.op hM (hC.lit (s:=(.sl (.pr si (.pr si si)))) (vs:=[.slice A76 (((x56.drop (Int.tmod c (x56.length:Int)).toNat).take ((x56.length:Int).toNat-(Int.tmod c (x56.length:Int)).toNat)).length) c77,.slice A85 (((x56.drop (0:Int).toNat).take ((Int.tmod c (x56.length:Int)).toNat-(0:Int).toNat)).length) c86]) (xs:=[((x56.drop (Int.tmod c (x56.length:Int)).toNat).take ((x56.length:Int).toNat-(Int.tmod c (x56.length:Int)).toNat)),((x56.drop (0:Int).toNat).take ((Int.tmod c (x56.length:Int)).toNat-(0:Int).toNat))]) underlying28 type43 rfl rfl (nb rfl) rfl rfl (by simp [Value.cells,Sh.n]) rfl (show Elems _ _ (.sl (.pr si (.pr si si))) ([.slice A76 (((x56.drop (Int.tmod c (x56.length:Int)).toNat).take ((x56.length:Int).toNat-(Int.tmod c (x56.length:Int)).toNat)).length) c77]++([.slice A85 (((x56.drop (0:Int).toNat).take ((Int.tmod c (x56.length:Int)).toNat-(0:Int).toNat)).length) c86]++([]))) ([((x56.drop (Int.tmod c (x56.length:Int)).toNat).take ((x56.length:Int).toNat-(Int.tmod c (x56.length:Int)).toNat)),((x56.drop (0:Int).toNat).take ((Int.tmod c (x56.length:Int)).toNat-(0:Int).toNat))]:List (List (Int×(Int×Int)))) from Elems.cons (hC.rd (i:=1) rfl) (Elems.cons (hC.rd (i:=0) rfl) (Elems.nil _ _ _)))) ?_
 rintro _ w96 ⟨A92,c93,rfl,hl94,hc95,hC,hF,hN⟩
 have hBf97:=Beside.new hM hN
 replace hM:=hM.none hF
 refine ⟨hM,?_⟩
 clear hF hN
 obtain ⟨y98,h99,hb⟩:=bd hb
 refine mixE.cl hM (⟨_,_,op_call (vs:=[.slice A92 ((([((x56.drop (Int.tmod c (x56.length:Int)).toNat).take ((x56.length:Int).toNat-(Int.tmod c (x56.length:Int)).toNat)),((x56.drop (0:Int).toNat).take ((Int.tmod c (x56.length:Int)).toNat-(0:Int).toNat))]:List (List (Int×(Int×Int))))).length) c93]) call39 rfl rfl rfl,slices_Concat_Point_Point_ok n (hC.lentLt [.slice A92 ((([((x56.drop (Int.tmod c (x56.length:Int)).toNat).take ((x56.length:Int).toNat-(Int.tmod c (x56.length:Int)).toNat)),((x56.drop (0:Int).toNat).take ((Int.tmod c (x56.length:Int)).toNat-(0:Int).toNat))]:List (List (Int×(Int×Int))))).length) c93]) ((hC.ow (i:=0) rfl).lend (vs:=[.slice A92 ((([((x56.drop (Int.tmod c (x56.length:Int)).toNat).take ((x56.length:Int).toNat-(Int.tmod c (x56.length:Int)).toNat)),((x56.drop (0:Int).toNat).take ((Int.tmod c (x56.length:Int)).toNat-(0:Int).toNat))]:List (List (Int×(Int×Int))))).length) c93]) (by simp)) h99⟩) ?_
 rintro _ w104 ⟨A100,m101,c102,rfl,hK⟩
 have hBf103:=Beside.cl (i:=0) hM hK rfl
 replace hM:=hM.none hK.fr
 refine ⟨hM,?_⟩
 replace hC:=hC.mergeF hK rfl
 clear hK
 obtain ⟨rfl,hl105,hc106⟩:=(hC.ow (i:=0) rfl).sl_len
 replace hC:=hC.freeze (i:=0) rfl (hC.own_new (i:=0) rfl)
 refine mixE.op hM (hC.lit (s:=(.sl (.pr si (.pr si si)))) (vs:=[.slice A100 y98.length c102]) (xs:=[y98]) underlying28 type43 rfl rfl (nb rfl) rfl rfl (by simp [Value.cells,Sh.n]) rfl (show Elems _ _ (.sl (.pr si (.pr si si))) ([.slice A100 y98.length c102]++([])) ([y98]:List (List (Int×(Int×Int)))) from Elems.cons (hC.rd (i:=0) rfl) (Elems.nil _ _ _))) ?_
 rintro _ w111 ⟨A107,c108,rfl,hl109,hc110,hC,hF,hN⟩
 have hBf112:=Beside.new hM hN
 replace hM:=hM.none hF
 refine ⟨hM,?_⟩
 clear hF hN
 refine mp (.slice j d.length l) (pu_move e7) ?_
 obtain ⟨u113,h114,hb⟩:=bd hb
 refine mixE.op hM (hC.app (i:=0) (s:=(.sl (.pr si (.pr si si)))) (xs:=([y98]:List (List (Int×(Int×Int))))) (ys:=d) (m:=d.length) rfl underlying28 underlying28 type43 rfl rfl rfl (hC.srco (i:=9) rfl) rfl rfl (by have:=lim_some h114; simp at this⊢ <;>omega) (by decide)) ?_
 rintro _ w119 ⟨A115,c116,rfl,hl117,hc118,hC,hF,hN⟩
 have hB:=hBf112
 replace hBf112:=hB.app hM hN
 replace hM:=hM.beside hB hF
 clear hB
 refine ⟨hM,?_⟩
 clear hF hN
 refine mp (.slice A115 ((([y98]:List (List (Int×(Int×Int))))++d).length) c116) (pu_assign rfl)<|mixE.nil ?_
 clear hS hM
 refine hK71 _ _<|Wc.fresh fun E120 hE=>?_
 have e1:=cg hE 1 e1
 have e4:=cg hE 4 e4
 have e5:=cg hE 5 e5
 have e7:E120 7=.slice A115 ((([y98]:List (List (Int×(Int×Int))))++d).length) c116:=cg hE 7 rfl
 have e8:=cg hE 8 e8
 have e10:=cg hE 10 e10
 have e11:=cg hE 11 e11
 have e33:=cg hE 33 e33
 have e34:=cg hE 34 e34
 have e35:=cg hE 35 e35
 have e36:=cg hE 36 e36
 clear hE
 refine Wc.seq fun _ hK121=>rg<|lp _ (pu_move e10) ?_
 obtain ⟨y122,h123,hb⟩:=bd hb
 refine lex.cl (⟨_,_,op_call (vs:=[.slice A62 x56.length c63]) call36 rfl rfl rfl,slices_Clone_Point_Point_ok n hC.lt (hC.rd (i:=5) rfl) h123⟩) ?_
 rintro _ w128 ⟨A124,m125,c126,rfl,hK⟩
 replace hC:=hC.merge hK
 clear hK
 obtain ⟨rfl,hl129,hc130⟩:=(hC.ow (i:=0) rfl).sl_len
 refine lp (.slice A124 y122.length c126) (pu_assign rfl)<|ln (hK121 _ _ ?_)
 refine Wc.seq fun _ hK131=>rg<|lp (.slice A124 y122.length c126) (pu_move rfl) ?_
 replace hC:Cx (fun _=>False) O0 w w128 ([.own 23 (.pr si (.pr si si)) (.slice A124 y122.length c126) y122]++[.own 43 (.sl (.pr si (.pr si si))) (.slice A115 ((([y98]:List (List (Int×(Int×Int))))++d).length) c116) (([y98]:List (List (Int×(Int×Int))))++d),.ro (.sl (.pr si (.pr si si))) [.slice A100 y98.length c102] y98,.own 43 (.sl (.pr si (.pr si si))) (.slice A92 ((([((x56.drop (Int.tmod c (x56.length:Int)).toNat).take ((x56.length:Int).toNat-(Int.tmod c (x56.length:Int)).toNat)),((x56.drop (0:Int).toNat).take ((Int.tmod c (x56.length:Int)).toNat-(0:Int).toNat))]:List (List (Int×(Int×Int))))).length) c93) ([((x56.drop (Int.tmod c (x56.length:Int)).toNat).take ((x56.length:Int).toNat-(Int.tmod c (x56.length:Int)).toNat)),((x56.drop (0:Int).toNat).take ((Int.tmod c (x56.length:Int)).toNat-(0:Int).toNat))]:List (List (Int×(Int×Int)))),.ro (.sl (.pr si (.pr si si))) [.slice A85 (((x56.drop (0:Int).toNat).take ((Int.tmod c (x56.length:Int)).toNat-(0:Int).toNat)).length) c86] ((x56.drop (0:Int).toNat).take ((Int.tmod c (x56.length:Int)).toNat-(0:Int).toNat)),.ro (.sl (.pr si (.pr si si))) [.slice A76 (((x56.drop (Int.tmod c (x56.length:Int)).toNat).take ((x56.length:Int).toNat-(Int.tmod c (x56.length:Int)).toNat)).length) c77] ((x56.drop (Int.tmod c (x56.length:Int)).toNat).take ((x56.length:Int).toNat-(Int.tmod c (x56.length:Int)).toNat)),.ro (.sl (.pr si (.pr si si))) [.slice A62 x56.length c63] x56,.box g27 32 [.slice A13 y11.1.length c15,.slice A17 y11.2.1.length c19,iv y11.2.2.1],.own 3 si (.slice A13 y11.1.length c15) y11.1,.own 3 si (.slice A17 y11.2.1.length c19) y11.2.1,.own 43 (.sl (.pr si (.pr si si))) (.slice j d.length l) d,.own 43 (.sl (.pr si (.pr si si))) (.slice o g.length p) g,.ro (.sl (.sl (.pr si (.pr si si)))) [.slice (some ad58) f.length u] f]):=hC.sE [0,1,2,3,4,5,6,7,8,9,10,11,12]
 obtain ⟨y132,h133,hb⟩:=bd hb
 refine lex.cl (⟨_,_,op_call (vs:=[.slice A124 y122.length c126]) call40 rfl rfl rfl,slices_Reverse_Point_Point_ok n hC.lt hC.give h133⟩) ?_
 rintro _ w134 ⟨rfl,hK⟩
 replace hC:=hC.back hK
 clear hK
 refine ln (hK131 _ _ ?_)
 refine rg<|lp _ (pu_move e8)<|lp (.slice A124 y122.length c126) (pu_move rfl) ?_
 replace hC:=hC.freeze (i:=0) rfl (hC.own_new (i:=0) rfl)
 refine lex.op (hC.lit (s:=(.sl (.pr si (.pr si si)))) (vs:=[.slice A124 y122.length c126]) (xs:=[y132]) underlying28 type43 rfl rfl (nb rfl) rfl rfl (by simp [Value.cells,Sh.n]) rfl (show Elems _ _ (.sl (.pr si (.pr si si))) ([.slice A124 y122.length c126]++([])) ([y132]:List (List (Int×(Int×Int)))) from Elems.cons (hC.rd (i:=0) rfl) (Elems.nil _ _ _))) ?_
 rintro _ w139 ⟨A135,c136,rfl,hl137,hc138,hC,-,-⟩
 obtain ⟨u141,h142,hb⟩:=bd hb
 refine lex.op (hC.app (i:=12) (s:=(.sl (.pr si (.pr si si)))) (xs:=g) (ys:=([y132]:List (List (Int×(Int×Int))))) (m:=((([y132]:List (List (Int×(Int×Int))))).length)) rfl underlying28 underlying28 type43 rfl rfl rfl (hC.srco (i:=0) rfl) rfl rfl (by have:=lim_some h142; simp at this⊢ <;>omega) (by decide)) ?_
 rintro _ w147 ⟨A143,c144,rfl,hl145,hc146,hC,-,-⟩
 refine lp (.slice A143 ((g++([y132]:List (List (Int×(Int×Int))))).length) c144) (pu_assign rfl)<|ln (hK54 _ _ ?_)
 refine rg ?_
 obtain ⟨z148,h149,hb⟩:=bd hb
 refine lp (iv z148) (pu_addc (a:=h) (b:=1) e35 rfl h149)<|lp (iv z148) (pu_move rfl)<|ln ?_
 obtain rfl:=os hb
 exact hK46 m47' _ _ (Nat.lt_succ_self _) ⟨(([y98]:List (List (Int×(Int×Int))))++d),(g++([y132]:List (List (Int×(Int×Int))))),z148,A115,(([y98]:List (List (Int×(Int×Int))))++d).length,c116,A143,(g++([y132]:List (List (Int×(Int×Int))))).length,c144,e1,e4,e5,e7,rfl,e33,e34,rfl,(chk_rng h149),hC.sE [8,9,10,2,12,13],lN hl0⟩
 replace hb:=tf hq53 hb
 refine Wc.exit rfl ?_
 obtain rfl:=os hb
 obtain rfl:=(lX hl0).symm
 exact hK45 _ _ ⟨d,g,h,j,d.length,l,o,g.length,p,e4,e5,e7,e8,B,hC.sE [0,1,2,3,4],hbK0⟩
 clear hb hC hl0
 rintro E151 w150 ⟨d,g,h,j,y,l,o,z,p,e4,e5,e7,e8,B,hC,hb⟩
 subst hf44
 obtain ⟨rfl,G,H⟩:=(hC.ow (i:=3) rfl).sl_len
 obtain ⟨rfl,J,K⟩:=(hC.ow (i:=4) rfl).sl_len
 refine hK39 _ _<|Wc.seq fun _ hK152=>rg<|lp _ (pu_move e7) ?_
 obtain ⟨y153,h154,hb⟩:=bd hb
 refine lex.cl (⟨_,_,op_call (vs:=[.slice j d.length l]) call15 rfl rfl rfl,polygon_Project_ok n (hC.lentLt [.slice j d.length l]) ((hC.ow (i:=3) rfl).lend (vs:=[.slice j d.length l]) (by simp)) h154⟩) ?_
 rintro _ w165 ⟨A155,m156,c157,A159,m160,c161,rfl,hr163,hr164,hK⟩
 replace hC:=hC.mergeF hK rfl
 clear hK
 obtain ⟨rfl,hl166,hc167⟩:=(hC.ow (i:=0) rfl).sl_len
 obtain ⟨rfl,hl168,hc169⟩:=(hC.ow (i:=1) rfl).sl_len
 refine lp (.tuple #[.agg #[.slice A155 y153.1.length c157,.slice A159 y153.2.1.length c161,iv y153.2.2.1],iv y153.2.2.2]) (pu_move rfl)<|lp (.agg #[.slice A155 y153.1.length c157,.slice A159 y153.2.1.length c161,iv y153.2.2.1]) (pu_extract rfl rfl)<|lp (iv y153.2.2.2) (pu_extract rfl rfl)<|lex.op (hC.alloc (cs:=[.slice none 0 0,.slice none 0 0,iv 0]) zeroValue32 rfl) ?_
 rintro _ w171 ⟨g170,rfl,hC,hF,-⟩
 refine lex.sk (hC.seta (i:=0) (ds:=[.slice A155 y153.1.length c157,.slice A159 y153.2.1.length c161,iv y153.2.2.1]) rfl type32 rfl rfl rfl rfl rfl) ?_
 rintro w173 ⟨hC,hF⟩
 refine lp (iv y153.2.2.2) (pu_assign rfl)<|ln (hK152 _ _ ?_)
 refine Wc.seq fun _ hK174=>rg<|lp _ (pu_move e8) ?_
 obtain ⟨y175,h176,hb⟩:=bd hb
 refine lex.cl (⟨_,_,op_call (vs:=[.slice o g.length p]) call15 rfl rfl rfl,polygon_Project_ok n (hC.lentLt [.slice o g.length p]) ((hC.ow (i:=7) rfl).lend (vs:=[.slice o g.length p]) (by simp)) h176⟩) ?_
 rintro _ w187 ⟨A177,m178,c179,A181,m182,c183,rfl,hr185,hr186,hK⟩
 replace hC:=hC.mergeF hK rfl
 clear hK
 obtain ⟨rfl,hl188,hc189⟩:=(hC.ow (i:=0) rfl).sl_len
 obtain ⟨rfl,hl190,hc191⟩:=(hC.ow (i:=1) rfl).sl_len
 refine lp (.tuple #[.agg #[.slice A177 y175.1.length c179,.slice A181 y175.2.1.length c183,iv y175.2.2.1],iv y175.2.2.2]) (pu_move rfl)<|lp (.agg #[.slice A177 y175.1.length c179,.slice A181 y175.2.1.length c183,iv y175.2.2.1]) (pu_extract rfl rfl)<|lp (iv y175.2.2.2) (pu_extract rfl rfl)<|lex.op (hC.alloc (cs:=[.slice none 0 0,.slice none 0 0,iv 0]) zeroValue32 rfl) ?_
 rintro _ w193 ⟨g192,rfl,hC,hF,-⟩
 refine lex.sk (hC.seta (i:=0) (ds:=[.slice A177 y175.1.length c179,.slice A181 y175.2.1.length c183,iv y175.2.2.1]) rfl type32 rfl rfl rfl rfl rfl) ?_
 rintro w195 ⟨hC,hF⟩
 refine lp (iv y175.2.2.2) (pu_assign rfl)<|ln (hK174 _ _ ?_)
 refine Wc.fresh fun E196 hE=>?_
 have e4:=cg hE 4 e4
 have e5:=cg hE 5 e5
 have e13:E196 13=pg g170:=cg hE 13 rfl
 have e14:E196 14=iv y153.2.2.2:=cg hE 14 rfl
 have e15:E196 15=pg g192:=cg hE 15 rfl
 have e16:E196 16=iv y175.2.2.2:=cg hE 16 rfl
 clear hE
 refine Wc.seq fun _ hK197=>rg<|lv (.agg #[.slice A13 y11.1.length c15,.slice A17 y11.2.1.length c19,iv y11.2.2.1]) (ld_blk (hC.bx (i:=6) rfl) isAgg32 sizeOf32 e5) ?_
 obtain ⟨y198,h199,hb⟩:=bd hb
 refine lex.cl (⟨_,_,op_call (vs:=[.agg #[.slice A13 y11.1.length c15,.slice A17 y11.2.1.length c19,iv y11.2.2.1]]) call41 rfl rfl rfl,mirror_Reverse_ok n (hC.lentLt [.slice A13 y11.1.length c15,.slice A17 y11.2.1.length c19]) ((hC.ow (i:=7) rfl).lend (vs:=[.slice A13 y11.1.length c15,.slice A17 y11.2.1.length c19]) (by simp)) ((hC.ow (i:=8) rfl).lend (vs:=[.slice A13 y11.1.length c15,.slice A17 y11.2.1.length c19]) (by simp)) hr21 h199⟩) ?_
 rintro _ w210 ⟨A200,m201,c202,A204,m205,c206,rfl,hr208,hr209,hK⟩
 replace hC:=hC.mergeF hK rfl
 clear hK
 obtain ⟨rfl,hl211,hc212⟩:=(hC.ow (i:=0) rfl).sl_len
 obtain ⟨rfl,hl213,hc214⟩:=(hC.ow (i:=1) rfl).sl_len
 refine lp (.tuple #[.agg #[.slice A200 y198.1.length c202,.slice A204 y198.2.1.length c206,iv y198.2.2.1],iv y198.2.2.2]) (pu_move rfl)<|lp (.agg #[.slice A200 y198.1.length c202,.slice A204 y198.2.1.length c206,iv y198.2.2.1]) (pu_extract rfl rfl)<|lp (iv y198.2.2.2) (pu_extract rfl rfl)<|lex.op (hC.alloc (cs:=[.slice none 0 0,.slice none 0 0,iv 0]) zeroValue32 rfl) ?_
 rintro _ w216 ⟨g215,rfl,hC,hF,-⟩
 refine lex.sk (hC.seta (i:=0) (ds:=[.slice A200 y198.1.length c202,.slice A204 y198.2.1.length c206,iv y198.2.2.1]) rfl type32 rfl rfl rfl rfl rfl) ?_
 rintro w218 ⟨hC,hF⟩
 refine lp (iv y198.2.2.2) (pu_assign rfl)<|ln (hK197 _ _ ?_)
 refine Wc.seq fun _ hK219=>rg<|lp _ (pu_move e14)<|lp (.bool (decide (y153.2.2.2=0))) (pu_eql (k:=.i64) (a:=y153.2.2.2) (b:=0) rfl rfl)<|lp (.bool (decide (y153.2.2.2=0))) (pu_move rfl) ?_
 rcases bS (decide (y153.2.2.2=0)) with hq220 | hq220
 replace hb:=tt hq220 hb
 refine gp rfl rfl (decide (y153.2.2.2=0)) rfl hq220 (iv y175.2.2.2) (pu_move e16)<|gp rfl rfl (decide (y153.2.2.2=0)) rfl hq220 (.bool (decide (y175.2.2.2=0))) (pu_eql (k:=.i64) (a:=y175.2.2.2) (b:=0) rfl rfl)<|lp (.bool (decide (y175.2.2.2=0))) (pu_pickT (q:=(decide (y153.2.2.2=0))) rfl hq220 rfl)<|lp (.bool (decide (y175.2.2.2=0))) (pu_move rfl) ?_
 rcases bS (decide (y175.2.2.2=0)) with hq221 | hq221
 replace hb:=tt hq221 hb
 refine gp rfl rfl (decide (y175.2.2.2=0)) rfl hq221 (iv y198.2.2.2) (pu_move rfl)<|gp rfl rfl (decide (y175.2.2.2=0)) rfl hq221 (.bool (decide (y198.2.2.2=0))) (pu_eql (k:=.i64) (a:=y198.2.2.2) (b:=0) rfl rfl)<|lp (.bool (decide (y198.2.2.2=0))) (pu_pickT (q:=(decide (y175.2.2.2=0))) rfl hq221 rfl)<|lp (.bool (decide (y198.2.2.2=0))) (pu_move rfl) ?_
 rcases bS (decide (y198.2.2.2=0)) with hq222 | hq222
 replace hb:=tt hq222 hb
 refine gv rfl rfl (decide (y198.2.2.2=0)) rfl hq222 (.agg #[.slice A155 y153.1.length c157,.slice A159 y153.2.1.length c161,iv y153.2.2.1]) (ld_blk (hC.bx (i:=6) rfl) isAgg32 sizeOf32 e13)<|gv rfl rfl (decide (y198.2.2.2=0)) rfl hq222 (.agg #[.slice A13 y11.1.length c15,.slice A17 y11.2.1.length c19,iv y11.2.2.1]) (ld_blk (hC.bx (i:=9) rfl) isAgg32 sizeOf32 e5) ?_
 obtain ⟨y223,h224,hb⟩:=bd hb
 refine lex.gcl (want_t rfl rfl (show _=Value.bool (decide (y198.2.2.2=0)) from rfl) hq222) (⟨_,_,op_call (vs:=[.agg #[.slice A155 y153.1.length c157,.slice A159 y153.2.1.length c161,iv y153.2.2.1],.agg #[.slice A13 y11.1.length c15,.slice A17 y11.2.1.length c19,iv y11.2.2.1]]) call42 rfl rfl rfl,canon_Same_ok n (hC.lentLt [.slice A155 y153.1.length c157,.slice A13 y11.1.length c15,.slice A159 y153.2.1.length c161,.slice A17 y11.2.1.length c19]) ((hC.ow (i:=7) rfl).lend (vs:=[.slice A155 y153.1.length c157,.slice A13 y11.1.length c15,.slice A159 y153.2.1.length c161,.slice A17 y11.2.1.length c19]) (by simp)) ((hC.ow (i:=8) rfl).lend (vs:=[.slice A155 y153.1.length c157,.slice A13 y11.1.length c15,.slice A159 y153.2.1.length c161,.slice A17 y11.2.1.length c19]) (by simp)) hr163 ((hC.ow (i:=10) rfl).lend (vs:=[.slice A155 y153.1.length c157,.slice A13 y11.1.length c15,.slice A159 y153.2.1.length c161,.slice A17 y11.2.1.length c19]) (by simp)) ((hC.ow (i:=11) rfl).lend (vs:=[.slice A155 y153.1.length c157,.slice A13 y11.1.length c15,.slice A159 y153.2.1.length c161,.slice A17 y11.2.1.length c19]) (by simp)) hr21 h224⟩) ?_
 rintro _ w225 ⟨rfl,hK⟩
 replace hC:=hC.mergeF hK rfl
 clear hK
 refine lp (.bool y223) (pu_pickT (q:=(decide (y198.2.2.2=0))) rfl hq222 rfl)<|lp (.bool y223) (pu_move rfl) ?_
 rcases bS y223 with hq226 | hq226
 replace hb:=tt hq226 hb
 refine gv rfl rfl y223 rfl hq226 (.agg #[.slice A177 y175.1.length c179,.slice A181 y175.2.1.length c183,iv y175.2.2.1]) (ld_blk (hC.bx (i:=3) rfl) isAgg32 sizeOf32 e15)<|gv rfl rfl y223 rfl hq226 (.agg #[.slice A200 y198.1.length c202,.slice A204 y198.2.1.length c206,iv y198.2.2.1]) (ld_blk (hC.bx (i:=0) rfl) isAgg32 sizeOf32 rfl) ?_
 obtain ⟨y227,h228,hb⟩:=bd hb
 refine lex.gcl (want_t rfl rfl (show _=Value.bool y223 from rfl) hq226) (⟨_,_,op_call (vs:=[.agg #[.slice A177 y175.1.length c179,.slice A181 y175.2.1.length c183,iv y175.2.2.1],.agg #[.slice A200 y198.1.length c202,.slice A204 y198.2.1.length c206,iv y198.2.2.1]]) call42 rfl rfl rfl,canon_Same_ok n (hC.lentLt [.slice A177 y175.1.length c179,.slice A181 y175.2.1.length c183,.slice A200 y198.1.length c202,.slice A204 y198.2.1.length c206]) ((hC.ow (i:=4) rfl).lend (vs:=[.slice A177 y175.1.length c179,.slice A181 y175.2.1.length c183,.slice A200 y198.1.length c202,.slice A204 y198.2.1.length c206]) (by simp)) ((hC.ow (i:=5) rfl).lend (vs:=[.slice A177 y175.1.length c179,.slice A181 y175.2.1.length c183,.slice A200 y198.1.length c202,.slice A204 y198.2.1.length c206]) (by simp)) hr185 ((hC.ow (i:=1) rfl).lend (vs:=[.slice A177 y175.1.length c179,.slice A181 y175.2.1.length c183,.slice A200 y198.1.length c202,.slice A204 y198.2.1.length c206]) (by simp)) ((hC.ow (i:=2) rfl).lend (vs:=[.slice A177 y175.1.length c179,.slice A181 y175.2.1.length c183,.slice A200 y198.1.length c202,.slice A204 y198.2.1.length c206]) (by simp)) hr208 h228⟩) ?_
 rintro _ w229 ⟨rfl,hK⟩
 replace hC:=hC.mergeF hK rfl
 clear hK
 refine lp (.bool y227) (pu_pickT (q:=y223) rfl hq226 rfl)<|lp (.bool y227) (pu_assign rfl)<|ln (hK219 _ _ ?_)
 obtain rfl:=os hb
 refine Wc.ret (hKR _ _ ?_)
 refine ⟨_,res1 results10 (tV (.bool y227) rfl),_,rfl,rfl,hC.sE []⟩
 replace hb:=tf hq226 hb
 refine gs rfl rfl y223 rfl hq226<|gs rfl rfl y223 rfl hq226<|gs rfl rfl y223 rfl hq226<|lp (.bool false) (pu_pickF (q:=y223) rfl hq226 rfl)<|lp (.bool false) (pu_assign rfl)<|ln (hK219 _ _ ?_)
 obtain rfl:=os hb
 refine Wc.ret (hKR _ _ ?_)
 refine ⟨_,res1 results10 (tV (.bool false) rfl),_,rfl,rfl,hC.sE []⟩
 replace hb:=tf hq222 hb
 refine gs rfl rfl (decide (y198.2.2.2=0)) rfl hq222<|gs rfl rfl (decide (y198.2.2.2=0)) rfl hq222<|gs rfl rfl (decide (y198.2.2.2=0)) rfl hq222<|lp (.bool false) (pu_pickF (q:=(decide (y198.2.2.2=0))) rfl hq222 rfl)<|lp (.bool false) (pu_move rfl)<|gs rfl rfl false rfl rfl<|gs rfl rfl false rfl rfl<|gs rfl rfl false rfl rfl<|lp (.bool false) (pu_pickF (q:=false) rfl rfl rfl)<|lp (.bool false) (pu_assign rfl)<|ln (hK219 _ _ ?_)
 obtain rfl:=os hb
 refine Wc.ret (hKR _ _ ?_)
 refine ⟨_,res1 results10 (tV (.bool false) rfl),_,rfl,rfl,hC.sE []⟩
 replace hb:=tf hq221 hb
 refine gs rfl rfl (decide (y175.2.2.2=0)) rfl hq221<|gs rfl rfl (decide (y175.2.2.2=0)) rfl hq221<|lp (.bool false) (pu_pickF (q:=(decide (y175.2.2.2=0))) rfl hq221 rfl)<|lp (.bool false) (pu_move rfl)<|gs rfl rfl false rfl rfl<|gs rfl rfl false rfl rfl<|gs rfl rfl false rfl rfl<|lp (.bool false) (pu_pickF (q:=false) rfl rfl rfl)<|lp (.bool false) (pu_move rfl)<|gs rfl rfl false rfl rfl<|gs rfl rfl false rfl rfl<|gs rfl rfl false rfl rfl<|lp (.bool false) (pu_pickF (q:=false) rfl rfl rfl)<|lp (.bool false) (pu_assign rfl)<|ln (hK219 _ _ ?_)
 obtain rfl:=os hb
 refine Wc.ret (hKR _ _ ?_)
 refine ⟨_,res1 results10 (tV (.bool false) rfl),_,rfl,rfl,hC.sE []⟩
 replace hb:=tf hq220 hb
 refine gs rfl rfl (decide (y153.2.2.2=0)) rfl hq220<|gs rfl rfl (decide (y153.2.2.2=0)) rfl hq220<|lp (.bool false) (pu_pickF (q:=(decide (y153.2.2.2=0))) rfl hq220 rfl)<|lp (.bool false) (pu_move rfl)<|gs rfl rfl false rfl rfl<|gs rfl rfl false rfl rfl<|lp (.bool false) (pu_pickF (q:=false) rfl rfl rfl)<|lp (.bool false) (pu_move rfl)<|gs rfl rfl false rfl rfl<|gs rfl rfl false rfl rfl<|gs rfl rfl false rfl rfl<|lp (.bool false) (pu_pickF (q:=false) rfl rfl rfl)<|lp (.bool false) (pu_move rfl)<|gs rfl rfl false rfl rfl<|gs rfl rfl false rfl rfl<|gs rfl rfl false rfl rfl<|lp (.bool false) (pu_pickF (q:=false) rfl rfl rfl)<|lp (.bool false) (pu_assign rfl)<|ln (hK219 _ _ ?_)
 obtain rfl:=os hb
 refine Wc.ret (hKR _ _ ?_)
 refine ⟨_,res1 results10 (tV (.bool false) rfl),_,rfl,rfl,hC.sE []⟩
end Go.Proofs.Yteajmbanlohncaa
