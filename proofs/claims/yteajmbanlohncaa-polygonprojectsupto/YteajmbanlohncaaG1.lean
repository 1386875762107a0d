import Derived.Test.YteajmbanlohncaaS
import Derived.Test.YteajmbanlohncaaG0
set_option linter.unusedVariables false
set_option linter.unusedSimpArgs false
namespace Go.Proofs.Yteajmbanlohncaa
open Ev Try
set_option maxRecDepth 100000
set_option maxHeartbeats 4000000
theorem polygon_opposite_ok (n:Nat) {w:World} {O0:List Nat} (hO: ∀k∈O0,k<w.heap.size) {c:Int} (f:I64 c) {d:Int} (g:I64 d) {r:Bool} (hb:F.polygon_opposite n c d=some r):
    Calls prog 45 #[iv c,iv d] w fun e w'=> ∃v,e=.returned v∧v=.bool r∧Cx (fun _=>False) O0 w w' []:=by
 unfold F.polygon_opposite at hb
 have hC:=Cx.start hO
 clear hO
 refine calls_of_Wc func45 rfl (by rw [ntmps45]; exact nb rfl) fun KR hKR=>?_
 refine Wc.seq fun _ hK1=>rg<|lp (.bool false) (pu_assign rfl)<|ln (hK1 _ _ ?_)
 refine Wc.seq fun _ hK2=>rg<|lp (iv c) (pu_move rfl)<|lp (.bool (decide (c<0))) (pu_lss (k:=.i64) (a:=c) (b:=0) rfl rfl)<|lp (.bool (decide (c<0))) (pu_move rfl) ?_
 rcases bS (decide (c<0)) with hq3 | hq3
 replace hb:=tt hq3 hb
 refine gp rfl rfl (decide (c<0)) rfl hq3 (iv d) (pu_move rfl)<|gp rfl rfl (decide (c<0)) rfl hq3 (.bool (decide (0<d))) (pu_gtr (k:=.i64) (a:=d) (b:=0) rfl rfl)<|lp (.bool (decide (0<d))) (pu_pickT (q:=(decide (c<0))) rfl hq3 rfl)<|lp (.bool (decide (0<d))) (pu_move rfl) ?_
 rcases bS (decide (0<d)) with hq4 | hq4
 replace hb:=tt hq4 hb
 refine gs rfl rfl (decide (0<d)) rfl hq4<|gs rfl rfl (decide (0<d)) rfl hq4<|gs rfl rfl (decide (0<d)) rfl hq4 ?_
 refine lex.gskip (want_n rfl rfl rfl) ?_
 refine lex.gskip (want_n rfl rfl rfl) ?_
 refine gs rfl rfl (decide (0<d)) rfl hq4<|lp (.bool true) (pu_pickT (q:=(decide (0<d))) rfl hq4 rfl)<|lp (.bool true) (pu_assign rfl)<|ln (hK2 _ _ ?_)
 obtain rfl:=os hb
 refine Wc.ret (hKR _ _ ?_)
 refine ⟨_,res1 results45 (tV (.bool true) rfl),_,rfl,rfl,hC.sE []⟩
 replace hb:=tf hq4 hb
 refine gp rfl rfl (decide (0<d)) rfl hq4 (iv c) (pu_move rfl)<|gp rfl rfl (decide (0<d)) rfl hq4 (.bool (decide (0<c))) (pu_gtr (k:=.i64) (a:=c) (b:=0) rfl rfl)<|gp rfl rfl (decide (0<d)) rfl hq4 (.bool (decide (0<c))) (pu_move rfl) ?_
 rcases bS (decide (0<c)) with hq5 | hq5
 replace hb:=tt hq5 hb
 refine gp rfl rfl (decide (0<c)) rfl hq5 (iv d) (pu_move rfl)<|gp rfl rfl (decide (0<c)) rfl hq5 (.bool (decide (d<0))) (pu_lss (k:=.i64) (a:=d) (b:=0) rfl rfl)<|gp rfl rfl (decide (0<d)) rfl hq4 (.bool (decide (d<0))) (pu_pickT (q:=(decide (0<c))) rfl hq5 rfl)<|lp (.bool (decide (d<0))) (pu_pickF (q:=(decide (0<d))) rfl hq4 rfl)<|lp (.bool (decide (d<0))) (pu_assign rfl)<|ln (hK2 _ _ ?_)
 obtain rfl:=os hb
 refine Wc.ret (hKR _ _ ?_)
 refine ⟨_,res1 results45 (tV (.bool (decide (d<0))) rfl),_,rfl,rfl,hC.sE []⟩
 replace hb:=tf hq5 hb
 refine gs rfl rfl (decide (0<c)) rfl hq5<|gs rfl rfl (decide (0<c)) rfl hq5<|gp rfl rfl (decide (0<d)) rfl hq4 (.bool false) (pu_pickF (q:=(decide (0<c))) rfl hq5 rfl)<|lp (.bool false) (pu_pickF (q:=(decide (0<d))) rfl hq4 rfl)<|lp (.bool false) (pu_assign rfl)<|ln (hK2 _ _ ?_)
 obtain rfl:=os hb
 refine Wc.ret (hKR _ _ ?_)
 refine ⟨_,res1 results45 (tV (.bool false) rfl),_,rfl,rfl,hC.sE []⟩
 replace hb:=tf hq3 hb
 refine gs rfl rfl (decide (c<0)) rfl hq3<|gs rfl rfl (decide (c<0)) rfl hq3<|lp (.bool false) (pu_pickF (q:=(decide (c<0))) rfl hq3 rfl)<|lp (.bool false) (pu_move rfl)<|gp rfl rfl false rfl rfl (iv c) (pu_move rfl)<|gp rfl rfl false rfl rfl (.bool (decide (0<c))) (pu_gtr (k:=.i64) (a:=c) (b:=0) rfl rfl)<|gp rfl rfl false rfl rfl (.bool (decide (0<c))) (pu_move rfl) ?_
 rcases bS (decide (0<c)) with hq6 | hq6
 replace hb:=tt hq6 hb
 refine gp rfl rfl (decide (0<c)) rfl hq6 (iv d) (pu_move rfl)<|gp rfl rfl (decide (0<c)) rfl hq6 (.bool (decide (d<0))) (pu_lss (k:=.i64) (a:=d) (b:=0) rfl rfl)<|gp rfl rfl false rfl rfl (.bool (decide (d<0))) (pu_pickT (q:=(decide (0<c))) rfl hq6 rfl)<|lp (.bool (decide (d<0))) (pu_pickF (q:=false) rfl rfl rfl)<|lp (.bool (decide (d<0))) (pu_assign rfl)<|ln (hK2 _ _ ?_)
 obtain rfl:=os hb
 refine Wc.ret (hKR _ _ ?_)
 refine ⟨_,res1 results45 (tV (.bool (decide (d<0))) rfl),_,rfl,rfl,hC.sE []⟩
 replace hb:=tf hq6 hb
 refine gs rfl rfl (decide (0<c)) rfl hq6<|gs rfl rfl (decide (0<c)) rfl hq6<|gp rfl rfl false rfl rfl (.bool false) (pu_pickF (q:=(decide (0<c))) rfl hq6 rfl)<|lp (.bool false) (pu_pickF (q:=false) rfl rfl rfl)<|lp (.bool false) (pu_assign rfl)<|ln (hK2 _ _ ?_)
 obtain rfl:=os hb
 refine Wc.ret (hKR _ _ ?_)
 refine ⟨_,res1 results45 (tV (.bool false) rfl),_,rfl,rfl,hC.sE []⟩

theorem polygon_Cross_ok (n:Nat) {w:World} {O0:List Nat} (hO: ∀k∈O0,k<w.heap.size) {l:Int} (C:I64 l) {o:Int} (D:I64 o) {c:Int} (G:I64 c) {s:Int} (H:I64 s) {u:Int} (J:I64 u) {f:Int} (K:I64 f) {x:Int} (L:I64 x) {y:Int} (M:I64 y) {g:Int} (N:I64 g) {z:Int} (P:I64 z) {A:Int} (Q:I64 A) {j:Int} (R:I64 j) {r:Int×Bool} (hb:F.polygon_Cross n l o c s u f x y g z A j=some r):
    Calls prog 12 #[.agg #[iv l,iv o,iv c],.agg #[iv s,iv u,iv f],.agg #[iv x,iv y,iv g],.agg #[iv z,iv A,iv j]] w fun e w'=> ∃v,e=.returned v∧v=.tuple #[iv r.1,.bool r.2]∧I64 r.1∧Cx (fun _=>False) O0 w w' []:=by
 unfold F.polygon_Cross at hb
 have hC:=Cx.start hO
 clear hO
 refine calls_of_Wc func12 rfl (by rw [ntmps12]; exact nb rfl) fun KR hKR=>?_
 refine Wc.seq fun _ hK1=>rg<|lex.op (hC.box (cs:=[iv l,iv o,iv c]) rfl rfl) ?_
 rintro _ w3 ⟨g2,rfl,hC,hF,-⟩
 refine lex.op (hC.box (cs:=[iv s,iv u,iv f]) rfl rfl) ?_
 rintro _ w6 ⟨g5,rfl,hC,hF,-⟩
 refine lex.op (hC.box (cs:=[iv x,iv y,iv g]) rfl rfl) ?_
 rintro _ w9 ⟨g8,rfl,hC,hF,-⟩
 refine lex.op (hC.box (cs:=[iv z,iv A,iv j]) rfl rfl) ?_
 rintro _ w12 ⟨g11,rfl,hC,hF,-⟩
 refine lp (iv 0) (pu_assign rfl)<|lp (.bool false) (pu_assign rfl)<|ln (hK1 _ _ ?_)
 refine Wc.seq fun _ hK14=>?_
 refine Wc.seq fun _ hK15=>rg<|lv (.agg #[iv l,iv o,iv c]) (ld_blk (hC.bx (i:=3) rfl) isAgg23 sizeOf23 rfl)<|lv (.agg #[iv s,iv u,iv f]) (ld_blk (hC.bx (i:=2) rfl) isAgg23 sizeOf23 rfl)<|lv (.agg #[iv x,iv y,iv g]) (ld_blk (hC.bx (i:=1) rfl) isAgg23 sizeOf23 rfl)<|lv (.agg #[iv z,iv A,iv j]) (ld_blk (hC.bx (i:=0) rfl) isAgg23 sizeOf23 rfl)<|lp (.agg #[iv l,iv o,iv c,iv s,iv u,iv f,iv x,iv y,iv g,iv z,iv A,iv j]) (pu_builda (pv:=[(0,.agg #[iv l,iv o,iv c]),(1,.agg #[iv s,iv u,iv f]),(2,.agg #[iv x,iv y,iv g]),(3,.agg #[iv z,iv A,iv j])]) (sz:=3) type64 underlying64 rfl type23 rfl rfl (by simp [Instr.fill,Value.cells]))<|lp (iv 0) (pu_move rfl)<|ln (hK15 _ _ ?_)
 refine Wc.fresh fun E16 hE=>?_
 have e4:E16 4=pg g2:=cg hE 4 rfl
 have e5:E16 5=pg g5:=cg hE 5 rfl
 have e6:E16 6=pg g8:=cg hE 6 rfl
 have e7:E16 7=pg g11:=cg hE 7 rfl
 have e8:E16 8=iv 0:=cg hE 8 rfl
 have e9:E16 9=.bool false:=cg hE 9 rfl
 have e24:E16 24=.agg #[iv l,iv o,iv c,iv s,iv u,iv f,iv x,iv y,iv g,iv z,iv A,iv j]:=cg hE 24 rfl
 have e25:E16 25=iv 0:=cg hE 25 rfl
 clear hE
 obtain ⟨o17,hl0,hb⟩:=bd hb
 refine Wc.cut (fun E wv=> ∃(B:Int),E 4=pg g2∧E 5=pg g5∧E 6=pg g8∧E 7=pg g11∧E 8=iv 0∧E 9=.bool false∧I64 B∧Cx (fun _=>False) O0 w wv [.box g2 23 [iv l,iv o,iv c],.box g5 23 [iv s,iv u,iv f],.box g8 23 [iv x,iv y,iv g],.box g11 23 [iv z,iv A,iv j]]∧((F.polygon_turn n l o c s u f x y g).bind fun y51=>(F.polygon_turn n l o c s u f z A j).bind fun y55=>(F.polygon_turn n x y g z A j l o c).bind fun y63=>(F.polygon_turn n x y g z A j s u f).bind fun y67=>(F.polygon_opposite n y51 y55).bind fun y74=>cond (!y74) (F.polygon_Cross_j1 n l o c s u f x y g z A j y51 y55 y63 y67 true) ((F.polygon_opposite n y63 y67).bind fun y78=>F.polygon_Cross_j1 n l o c s u f x y g z A j y51 y55 y63 y67 (!y78)):Option (Int×Bool))=some r) (fun _ hK18=>?_) ?_
 refine Wc.block ?_
 refine Wc.loop (fun m E wv=> ∃(B:Int),E 4=pg g2∧E 5=pg g5∧E 6=pg g8∧E 7=pg g11∧E 8=iv 0∧E 9=.bool false∧E 24=.agg #[iv l,iv o,iv c,iv s,iv u,iv f,iv x,iv y,iv g,iv z,iv A,iv j]∧E 25=iv B∧I64 B∧Cx (fun _=>False) O0 w wv [.box g2 23 [iv l,iv o,iv c],.box g5 23 [iv s,iv u,iv f],.box g8 23 [iv x,iv y,iv g],.box g11 23 [iv z,iv A,iv j]]∧loopN m (F.polygon_Cross_b0 n l o c s u f x y g z A j) B=some o17) n ⟨0,e4,e5,e6,e7,e8,e9,e24,e25,(show I64 0 from by unfold I64; omega),hC.sE [3,2,1,0],hl0⟩ ?_
 have hbK0:=hb
 clear hb hC hl0
 rintro m20 E22 w21 ⟨B,e4,e5,e6,e7,e8,e9,e24,e25,Y,hC,hl0⟩ K19 hK19
 obtain ⟨m20',o23,rfl,hb,hl0⟩:=loopN_some hl0
 unfold F.polygon_Cross_b0 at hb
 refine Wc.seq fun _ hK24=>rg<|lp (.bool (decide (B<4))) (pu_lss (k:=.i64) (a:=B) (b:=4) e25 rfl)<|ln (hK24 _ _ ?_)
 refine Wc.seq fun _ hK25=>?_
 refine Wc.cond (t:=(decide (B<4))) (rfl) (fun hq26=>?_) (fun hq26=>?_)
 replace hb:=tt hq26 hb
 refine Wc.skip (hK25 _ _ ?_)
 refine Wc.seq fun _ hK27=>?_
 refine Wc.block<|Wc.seq fun _ hK28=>rg ?_
 obtain ⟨x29,h30,hb⟩:=bd hb
 have hr31:I64 x29.1:=all_get (p:=fun d=>I64 d.1) (List.forall_mem_cons.2 ⟨C,List.forall_mem_cons.2 ⟨H,List.forall_mem_cons.2 ⟨L,List.forall_mem_cons.2 ⟨P,fun _ h=>absurd h List.not_mem_nil⟩⟩⟩⟩) h30
 have hr32:I64 x29.2.1:=all_get (p:=fun d=>I64 d.2.1) (List.forall_mem_cons.2 ⟨D,List.forall_mem_cons.2 ⟨J,List.forall_mem_cons.2 ⟨M,List.forall_mem_cons.2 ⟨Q,fun _ h=>absurd h List.not_mem_nil⟩⟩⟩⟩) h30
 have hr33:I64 x29.2.2:=all_get (p:=fun d=>I64 d.2.2) (List.forall_mem_cons.2 ⟨G,List.forall_mem_cons.2 ⟨K,List.forall_mem_cons.2 ⟨N,List.forall_mem_cons.2 ⟨R,fun _ h=>absurd h List.not_mem_nil⟩⟩⟩⟩) h30
 refine lp (.agg #[iv x29.1,iv x29.2.1,iv x29.2.2]) (pu_ixs (a:=B) (ds:=([(l,(o,c)),(s,(u,f)),(x,(y,g)),(z,(A,j))]:List (Int×(Int×Int)))) (enc:=(fun d:Int×(Int×Int)=>[Value.int .i64 d.1,Value.int .i64 d.2.1,Value.int .i64 d.2.2])) (q:=x29) underlying64 sizeOf23 isAgg23 e24 e25 (by have h1:=(get_some h30).1; have h2:=(get_nn h30); simp at h1; omega) (by simp) (get_some h30).2 rfl)<|lex.op (hC.alloc (cs:=[iv 0,iv 0,iv 0]) zeroValue23 rfl) ?_
 rintro _ w35 ⟨g34,rfl,hC,hF,-⟩
 refine lex.sk (hC.seta (i:=0) (ds:=[iv x29.1,iv x29.2.1,iv x29.2.2]) rfl type23 rfl rfl rfl rfl rfl) ?_
 rintro w37 ⟨hC,hF⟩
 refine ln (hK28 _ _ ?_)
 refine Wc.seq fun _ hK38=>rg<|lv (.agg #[iv x29.1,iv x29.2.1,iv x29.2.2]) (ld_blk (hC.bx (i:=0) rfl) isAgg23 sizeOf23 rfl) ?_
 obtain ⟨y39,h40,hb⟩:=bd hb
 refine lex.cl (⟨_,_,op_call (vs:=[.agg #[iv x29.1,iv x29.2.1,iv x29.2.2]]) call43 rfl rfl rfl,polygon_within_ok n hC.lt hr31 hr32 hr33 h40⟩) ?_
 rintro _ w41 ⟨rfl,hK⟩
 replace hC:=hC.merge hK
 clear hK
 refine lp (.bool (!y39)) (pu_not (q:=y39) rfl)<|ln (hK38 _ _ ?_)
 refine Wc.cond (t:=(!y39)) (rfl) (fun hq42=>?_) (fun hq42=>?_)
 replace hb:=tt hq42 hb
 refine Wc.seq fun _ hK43=>rg<|lp (iv 2) (pu_assign rfl)<|lp (.bool false) (pu_assign rfl)<|ln (hK43 _ _ ?_)
 obtain rfl:=os hb
 obtain rfl:=(lX hl0).symm
 replace hb:=hbK0
 obtain rfl:=os hb
 refine Wc.ret (hKR _ _ ?_)
 refine ⟨_,res2 results12 (tV (iv 2) rfl) (tV (.bool false) rfl),_,rfl,rfl,(show I64 2 from by unfold I64; omega),hC.sE []⟩
 replace hb:=tf hq42 hb
 refine Wc.skip (hK27 _ _ ?_)
 refine rg ?_
 obtain ⟨z44,h45,hb⟩:=bd hb
 refine lp (iv z44) (pu_addc (a:=B) (b:=1) e25 rfl h45)<|lp (iv z44) (pu_move rfl)<|ln ?_
 obtain rfl:=os hb
 exact hK19 m20' _ _ (Nat.lt_succ_self _) ⟨z44,e4,e5,e6,e7,e8,e9,e24,rfl,(chk_rng h45),hC.sE [1,2,3,4],lN hl0⟩
 replace hb:=tf hq26 hb
 refine Wc.exit rfl ?_
 obtain rfl:=os hb
 obtain rfl:=(lX hl0).symm
 exact hK18 _ _ ⟨B,e4,e5,e6,e7,e8,e9,Y,hC.sE [0,1,2,3],hbK0⟩
 clear hb hC hl0
 rintro E47 w46 ⟨B,e4,e5,e6,e7,e8,e9,Y,hC,hb⟩
 refine hK14 _ _ ?_
 refine Wc.seq fun _ hK48=>?_
 refine Wc.regionMix [] (frm [] ([]:List Fact) ([]:List Fact)) (fun _=>rfl) mixed (by decide+kernel) (by decide+kernel) fun w50 hw49=>?_
 replace hC:=hC.step (Fr.of_drew hw49)
 have hM:=Fr.refl (fun k=>k∈blocks ([]:List Fact)) w50
 clear hw49
 have hS:=hC
 refine mixE.load hM (v:=.agg #[iv l,iv o,iv c]) (fun _ hF=>ld_blk (hS.bx2 (i:=0) rfl [] (by decide) hF) isAgg23 sizeOf23 e4)<|mixE.load hM (v:=.agg #[iv s,iv u,iv f]) (fun _ hF=>ld_blk (hS.bx2 (i:=1) rfl [] (by decide) hF) isAgg23 sizeOf23 e5)<|mixE.load hM (v:=.agg #[iv x,iv y,iv g]) (fun _ hF=>ld_blk (hS.bx2 (i:=2) rfl [] (by decide) hF) isAgg23 sizeOf23 e6) ?_
 obtain ⟨y51,h52,hb⟩:=bd hb
 refine mixE.cl hM (⟨_,_,op_call (vs:=[.agg #[iv l,iv o,iv c],.agg #[iv s,iv u,iv f],.agg #[iv x,iv y,iv g]]) call44 rfl rfl rfl,polygon_turn_ok n hC.lt C D G H J K L M N h52⟩) ?_
 rintro _ w54 ⟨rfl,hr53,hK⟩
 replace hM:=hM.none hK.fr
 refine ⟨hM,?_⟩
 replace hC:=hC.merge hK
 clear hK
 refine mixE.load hM (v:=.agg #[iv l,iv o,iv c]) (fun _ hF=>ld_blk (hS.bx2 (i:=0) rfl [] (by decide) hF) isAgg23 sizeOf23 e4)<|mixE.load hM (v:=.agg #[iv s,iv u,iv f]) (fun _ hF=>ld_blk (hS.bx2 (i:=1) rfl [] (by decide) hF) isAgg23 sizeOf23 e5)<|mixE.load hM (v:=.agg #[iv z,iv A,iv j]) (fun _ hF=>ld_blk (hS.bx2 (i:=3) rfl [] (by decide) hF) isAgg23 sizeOf23 e7) ?_
 obtain ⟨y55,h56,hb⟩:=bd hb
 refine mixE.cl hM (⟨_,_,op_call (vs:=[.agg #[iv l,iv o,iv c],.agg #[iv s,iv u,iv f],.agg #[iv z,iv A,iv j]]) call44 rfl rfl rfl,polygon_turn_ok n hC.lt C D G H J K P Q R h56⟩) ?_
 rintro _ w58 ⟨rfl,hr57,hK⟩
 replace hM:=hM.none hK.fr
 refine ⟨hM,?_⟩
 replace hC:=hC.merge hK
 clear hK
 refine mp (iv y51) (pu_assign rfl)<|mp (iv y55) (pu_assign rfl)<|mixE.nil ?_
 clear hS hM
 refine hK48 _ _<|Wc.fresh fun E59 hE=>?_
 have e4:=cg hE 4 e4
 have e5:=cg hE 5 e5
 have e6:=cg hE 6 e6
 have e7:=cg hE 7 e7
 have e8:=cg hE 8 e8
 have e9:=cg hE 9 e9
 have e12:E59 12=iv y51:=cg hE 12 rfl
 have e13:E59 13=iv y55:=cg hE 13 rfl
 clear hE
 refine Wc.seq fun _ hK60=>?_
 refine Wc.regionMix [] (frm [] ([]:List Fact) ([]:List Fact)) (fun _=>rfl) mixed (by decide+kernel) (by decide+kernel) fun w62 hw61=>?_
 replace hC:=hC.step (Fr.of_drew hw61)
 have hM:=Fr.refl (fun k=>k∈blocks ([]:List Fact)) w62
 clear hw61
 have hS:=hC
 refine mixE.load hM (v:=.agg #[iv x,iv y,iv g]) (fun _ hF=>ld_blk (hS.bx2 (i:=2) rfl [] (by decide) hF) isAgg23 sizeOf23 e6)<|mixE.load hM (v:=.agg #[iv z,iv A,iv j]) (fun _ hF=>ld_blk (hS.bx2 (i:=3) rfl [] (by decide) hF) isAgg23 sizeOf23 e7)<|mixE.load hM (v:=.agg #[iv l,iv o,iv c]) (fun _ hF=>ld_blk (hS.bx2 (i:=0) rfl [] (by decide) hF) isAgg23 sizeOf23 e4) ?_
 obtain ⟨y63,h64,hb⟩:=bd hb
 refine mixE.cl hM (⟨_,_,op_call (vs:=[.agg #[iv x,iv y,iv g],.agg #[iv z,iv A,iv j],.agg #[iv l,iv o,iv c]]) call44 rfl rfl rfl,polygon_turn_ok n hC.lt L M N P Q R C D G h64⟩) ?_
 rintro _ w66 ⟨rfl,hr65,hK⟩
 replace hM:=hM.none hK.fr
 refine ⟨hM,?_⟩
 replace hC:=hC.merge hK
 clear hK
 refine mixE.load hM (v:=.agg #[iv x,iv y,iv g]) (fun _ hF=>ld_blk (hS.bx2 (i:=2) rfl [] (by decide) hF) isAgg23 sizeOf23 e6)<|mixE.load hM (v:=.agg #[iv z,iv A,iv j]) (fun _ hF=>ld_blk (hS.bx2 (i:=3) rfl [] (by decide) hF) isAgg23 sizeOf23 e7)<|mixE.load hM (v:=.agg #[iv s,iv u,iv f]) (fun _ hF=>ld_blk (hS.bx2 (i:=1) rfl [] (by decide) hF) isAgg23 sizeOf23 e5) ?_
 obtain ⟨y67,h68,hb⟩:=bd hb
 refine mixE.cl hM (⟨_,_,op_call (vs:=[.agg #[iv x,iv y,iv g],.agg #[iv z,iv A,iv j],.agg #[iv s,iv u,iv f]]) call44 rfl rfl rfl,polygon_turn_ok n hC.lt L M N P Q R H J K h68⟩) ?_
 rintro _ w70 ⟨rfl,hr69,hK⟩
 replace hM:=hM.none hK.fr
 refine ⟨hM,?_⟩
 replace hC:=hC.merge hK
 clear hK
 refine mp (iv y63) (pu_assign rfl)<|mp (iv y67) (pu_assign rfl)<|mixE.nil ?_
 clear hS hM
 refine hK60 _ _<|Wc.fresh fun E71 hE=>?_
 have e4:=cg hE 4 e4
 have e5:=cg hE 5 e5
 have e6:=cg hE 6 e6
 have e7:=cg hE 7 e7
 have e8:=cg hE 8 e8
 have e9:=cg hE 9 e9
 have e12:=cg hE 12 e12
 have e13:=cg hE 13 e13
 have e14:E71 14=iv y63:=cg hE 14 rfl
 have e15:E71 15=iv y67:=cg hE 15 rfl
 clear hE
 refine Wc.seq fun _ hK72=>?_
 refine Wc.seqJ (fun E wv=> ∃(X:Bool),E 4=pg g2∧E 5=pg g5∧E 6=pg g8∧E 7=pg g11∧E 8=iv 0∧E 9=.bool false∧E 12=iv y51∧E 13=iv y55∧E 14=iv y63∧E 15=iv y67∧E 57=.bool X∧Cx (fun _=>False) O0 w wv [.box g2 23 [iv l,iv o,iv c],.box g5 23 [iv s,iv u,iv f],.box g8 23 [iv x,iv y,iv g],.box g11 23 [iv z,iv A,iv j]]∧F.polygon_Cross_j1 n l o c s u f x y g z A j y51 y55 y63 y67 X=some r) (fun _ hK73=>?_) ?_
 refine rg<|lp _ (pu_move e12)<|lp _ (pu_move e13) ?_
 obtain ⟨y74,h75,hb⟩:=bd hb
 refine lex.cl (⟨_,_,op_call (vs:=[iv y51,iv y55]) call45 rfl rfl rfl,polygon_opposite_ok n hC.lt hr53 hr57 h75⟩) ?_
 rintro _ w76 ⟨rfl,hK⟩
 replace hC:=hC.merge hK
 clear hK
 refine lp (.bool (!y74)) (pu_not (q:=y74) rfl)<|lp (.bool (!y74)) (pu_move rfl) ?_
 rcases bS (!y74) with hq77 | hq77
 replace hb:=tt hq77 hb
 refine gs rfl rfl (!y74) rfl hq77<|gs rfl rfl (!y74) rfl hq77<|gs rfl rfl (!y74) rfl hq77<|gs rfl rfl (!y74) rfl hq77<|lp (.bool true) (pu_pickT (q:=(!y74)) rfl hq77 rfl)<|ln ?_
 exact hK73 _ _ ⟨true,e4,e5,e6,e7,e8,e9,e12,e13,e14,e15,rfl,hC.sE [0,1,2,3],hb⟩
 replace hb:=tf hq77 hb
 refine gp rfl rfl (!y74) rfl hq77 (iv y63) (pu_move e14)<|gp rfl rfl (!y74) rfl hq77 (iv y67) (pu_move e15) ?_
 obtain ⟨y78,h79,hb⟩:=bd hb
 refine lex.gcl (want_t rfl rfl (show _=Value.bool (!y74) from rfl) hq77) (⟨_,_,op_call (vs:=[iv y63,iv y67]) call45 rfl rfl rfl,polygon_opposite_ok n hC.lt hr65 hr69 h79⟩) ?_
 rintro _ w80 ⟨rfl,hK⟩
 replace hC:=hC.merge hK
 clear hK
 refine gp rfl rfl (!y74) rfl hq77 (.bool (!y78)) (pu_not (q:=y78) rfl)<|lp (.bool (!y78)) (pu_pickF (q:=(!y74)) rfl hq77 rfl)<|ln ?_
 exact hK73 _ _ ⟨(!y78),e4,e5,e6,e7,e8,e9,e12,e13,e14,e15,rfl,hC.sE [0,1,2,3],hb⟩
 clear hb hC
 rintro E82 w81 ⟨X,e4,e5,e6,e7,e8,e9,e12,e13,e14,e15,e57,hC,hb⟩
 unfold F.polygon_Cross_j1 at hb
 refine Wc.cond (t:=X) (e57) (fun hq83=>?_) (fun hq83=>?_)
 replace hb:=tt hq83 hb
 refine Wc.seq fun _ hK84=>?_
 refine Wc.seq fun _ hK85=>rg<|lv (.agg #[iv l,iv o,iv c]) (ld_blk (hC.bx (i:=0) rfl) isAgg23 sizeOf23 e4)<|lv (.agg #[iv s,iv u,iv f]) (ld_blk (hC.bx (i:=1) rfl) isAgg23 sizeOf23 e5)<|lv (.agg #[iv x,iv y,iv g]) (ld_blk (hC.bx (i:=2) rfl) isAgg23 sizeOf23 e6) ?_
 obtain ⟨y86,h87,hb⟩:=bd hb
 refine lex.cl (⟨_,_,op_call (vs:=[.agg #[iv l,iv o,iv c],.agg #[iv s,iv u,iv f],.agg #[iv x,iv y,iv g]]) call46 rfl rfl rfl,polygon_on_ok n hC.lt C D G H J K L M N h87⟩) ?_
 rintro _ w88 ⟨rfl,hK⟩
 replace hC:=hC.merge hK
 clear hK
 refine lp (.bool y86) (pu_move rfl) ?_
 rcases bS y86 with hq89 | hq89
 replace hb:=tt hq89 hb
 refine gs rfl rfl y86 rfl hq89<|gs rfl rfl y86 rfl hq89<|gs rfl rfl y86 rfl hq89<|gs rfl rfl y86 rfl hq89<|lp (.bool true) (pu_pickT (q:=y86) rfl hq89 rfl)<|lp (.bool true) (pu_move rfl)<|gs rfl rfl true rfl rfl<|gs rfl rfl true rfl rfl<|gs rfl rfl true rfl rfl<|gs rfl rfl true rfl rfl<|lp (.bool true) (pu_pickT (q:=true) rfl rfl rfl)<|lp (.bool true) (pu_move rfl)<|gs rfl rfl true rfl rfl<|gs rfl rfl true rfl rfl<|gs rfl rfl true rfl rfl<|gs rfl rfl true rfl rfl<|lp (.bool true) (pu_pickT (q:=true) rfl rfl rfl)<|ln (hK85 _ _ ?_)
 refine Wc.fresh fun E90 hE=>?_
 have e4:=cg hE 4 e4
 have e5:=cg hE 5 e5
 have e6:=cg hE 6 e6
 have e7:=cg hE 7 e7
 have e8:=cg hE 8 e8
 have e9:=cg hE 9 e9
 have e12:=cg hE 12 e12
 have e13:=cg hE 13 e13
 have e14:=cg hE 14 e14
 have e15:=cg hE 15 e15
 have e79:E90 79=.bool true:=cg hE 79 rfl
 clear hE
 refine Wc.cond_true (e79) ?_
 refine Wc.seq fun _ hK91=>rg<|lp (iv 2) (pu_assign rfl)<|lp (.bool false) (pu_assign rfl)<|ln (hK91 _ _ ?_)
 obtain rfl:=os hb
 refine Wc.ret (hKR _ _ ?_)
 refine ⟨_,res2 results12 (tV (iv 2) rfl) (tV (.bool false) rfl),_,rfl,rfl,(show I64 2 from by unfold I64; omega),hC.sE []⟩
 replace hb:=tf hq89 hb
 refine gv rfl rfl y86 rfl hq89 (.agg #[iv l,iv o,iv c]) (ld_blk (hC.bx (i:=0) rfl) isAgg23 sizeOf23 e4)<|gv rfl rfl y86 rfl hq89 (.agg #[iv s,iv u,iv f]) (ld_blk (hC.bx (i:=1) rfl) isAgg23 sizeOf23 e5)<|gv rfl rfl y86 rfl hq89 (.agg #[iv z,iv A,iv j]) (ld_blk (hC.bx (i:=3) rfl) isAgg23 sizeOf23 e7) ?_
 obtain ⟨y92,h93,hb⟩:=bd hb
 refine lex.gcl (want_t rfl rfl (show _=Value.bool y86 from rfl) hq89) (⟨_,_,op_call (vs:=[.agg #[iv l,iv o,iv c],.agg #[iv s,iv u,iv f],.agg #[iv z,iv A,iv j]]) call46 rfl rfl rfl,polygon_on_ok n hC.lt C D G H J K P Q R h93⟩) ?_
 rintro _ w94 ⟨rfl,hK⟩
 replace hC:=hC.merge hK
 clear hK
 refine lp (.bool y92) (pu_pickF (q:=y86) rfl hq89 rfl)<|lp (.bool y92) (pu_move rfl) ?_
 rcases bS y92 with hq95 | hq95
 replace hb:=tt hq95 hb
 refine gs rfl rfl y92 rfl hq95<|gs rfl rfl y92 rfl hq95<|gs rfl rfl y92 rfl hq95<|gs rfl rfl y92 rfl hq95<|lp (.bool true) (pu_pickT (q:=y92) rfl hq95 rfl)<|lp (.bool true) (pu_move rfl)<|gs rfl rfl true rfl rfl<|gs rfl rfl true rfl rfl<|gs rfl rfl true rfl rfl<|gs rfl rfl true rfl rfl<|lp (.bool true) (pu_pickT (q:=true) rfl rfl rfl)<|ln (hK85 _ _ ?_)
 refine Wc.fresh fun E96 hE=>?_
 have e4:=cg hE 4 e4
 have e5:=cg hE 5 e5
 have e6:=cg hE 6 e6
 have e7:=cg hE 7 e7
 have e8:=cg hE 8 e8
 have e9:=cg hE 9 e9
 have e12:=cg hE 12 e12
 have e13:=cg hE 13 e13
 have e14:=cg hE 14 e14
 have e15:=cg hE 15 e15
 have e79:E96 79=.bool true:=cg hE 79 rfl
 clear hE
 refine Wc.cond_true (e79) ?_
 refine Wc.seq fun _ hK97=>rg<|lp (iv 2) (pu_assign rfl)<|lp (.bool false) (pu_assign rfl)<|ln (hK97 _ _ ?_)
 obtain rfl:=os hb
 refine Wc.ret (hKR _ _ ?_)
 refine ⟨_,res2 results12 (tV (iv 2) rfl) (tV (.bool false) rfl),_,rfl,rfl,(show I64 2 from by unfold I64; omega),hC.sE []⟩
 replace hb:=tf hq95 hb
 refine gv rfl rfl y92 rfl hq95 (.agg #[iv x,iv y,iv g]) (ld_blk (hC.bx (i:=2) rfl) isAgg23 sizeOf23 e6)<|gv rfl rfl y92 rfl hq95 (.agg #[iv z,iv A,iv j]) (ld_blk (hC.bx (i:=3) rfl) isAgg23 sizeOf23 e7)<|gv rfl rfl y92 rfl hq95 (.agg #[iv l,iv o,iv c]) (ld_blk (hC.bx (i:=0) rfl) isAgg23 sizeOf23 e4) ?_
 obtain ⟨y98,h99,hb⟩:=bd hb
 refine lex.gcl (want_t rfl rfl (show _=Value.bool y92 from rfl) hq95) (⟨_,_,op_call (vs:=[.agg #[iv x,iv y,iv g],.agg #[iv z,iv A,iv j],.agg #[iv l,iv o,iv c]]) call46 rfl rfl rfl,polygon_on_ok n hC.lt L M N P Q R C D G h99⟩) ?_
 rintro _ w100 ⟨rfl,hK⟩
 replace hC:=hC.merge hK
 clear hK
 refine lp (.bool y98) (pu_pickF (q:=y92) rfl hq95 rfl)<|lp (.bool y98) (pu_move rfl) ?_
 rcases bS y98 with hq101 | hq101
 replace hb:=tt hq101 hb
 refine gs rfl rfl y98 rfl hq101<|gs rfl rfl y98 rfl hq101<|gs rfl rfl y98 rfl hq101<|gs rfl rfl y98 rfl hq101<|lp (.bool true) (pu_pickT (q:=y98) rfl hq101 rfl)<|ln (hK85 _ _ ?_)
 refine Wc.fresh fun E102 hE=>?_
 have e4:=cg hE 4 e4
 have e5:=cg hE 5 e5
 have e6:=cg hE 6 e6
 have e7:=cg hE 7 e7
 have e8:=cg hE 8 e8
 have e9:=cg hE 9 e9
 have e12:=cg hE 12 e12
 have e13:=cg hE 13 e13
 have e14:=cg hE 14 e14
 have e15:=cg hE 15 e15
 have e79:E102 79=.bool true:=cg hE 79 rfl
 clear hE
 refine Wc.cond_true (e79) ?_
 refine Wc.seq fun _ hK103=>rg<|lp (iv 2) (pu_assign rfl)<|lp (.bool false) (pu_assign rfl)<|ln (hK103 _ _ ?_)
 obtain rfl:=os hb
 refine Wc.ret (hKR _ _ ?_)
 refine ⟨_,res2 results12 (tV (iv 2) rfl) (tV (.bool false) rfl),_,rfl,rfl,(show I64 2 from by unfold I64; omega),hC.sE []⟩
 replace hb:=tf hq101 hb
 refine gv rfl rfl y98 rfl hq101 (.agg #[iv x,iv y,iv g]) (ld_blk (hC.bx (i:=2) rfl) isAgg23 sizeOf23 e6)<|gv rfl rfl y98 rfl hq101 (.agg #[iv z,iv A,iv j]) (ld_blk (hC.bx (i:=3) rfl) isAgg23 sizeOf23 e7)<|gv rfl rfl y98 rfl hq101 (.agg #[iv s,iv u,iv f]) (ld_blk (hC.bx (i:=1) rfl) isAgg23 sizeOf23 e5) ?_
 obtain ⟨y104,h105,hb⟩:=bd hb
 refine lex.gcl (want_t rfl rfl (show _=Value.bool y98 from rfl) hq101) (⟨_,_,op_call (vs:=[.agg #[iv x,iv y,iv g],.agg #[iv z,iv A,iv j],.agg #[iv s,iv u,iv f]]) call46 rfl rfl rfl,polygon_on_ok n hC.lt L M N P Q R H J K h105⟩) ?_
 rintro _ w106 ⟨rfl,hK⟩
 replace hC:=hC.merge hK
 clear hK
 refine lp (.bool y104) (pu_pickF (q:=y98) rfl hq101 rfl)<|ln (hK85 _ _ ?_)
 refine Wc.fresh fun E107 hE=>?_
 have e4:=cg hE 4 e4
 have e5:=cg hE 5 e5
 have e6:=cg hE 6 e6
 have e7:=cg hE 7 e7
 have e8:=cg hE 8 e8
 have e9:=cg hE 9 e9
 have e12:=cg hE 12 e12
 have e13:=cg hE 13 e13
 have e14:=cg hE 14 e14
 have e15:=cg hE 15 e15
 have e79:E107 79=.bool y104:=cg hE 79 rfl
 clear hE
 refine Wc.cond (t:=y104) (e79) (fun hq108=>?_) (fun hq108=>?_)
 replace hb:=tt hq108 hb
 refine Wc.seq fun _ hK109=>rg<|lp (iv 2) (pu_assign rfl)<|lp (.bool false) (pu_assign rfl)<|ln (hK109 _ _ ?_)
 obtain rfl:=os hb
 refine Wc.ret (hKR _ _ ?_)
 refine ⟨_,res2 results12 (tV (iv 2) rfl) (tV (.bool false) rfl),_,rfl,rfl,(show I64 2 from by unfold I64; omega),hC.sE []⟩
 replace hb:=tf hq108 hb
 refine Wc.skip (hK84 _ _ ?_)
 refine Wc.seq fun _ hK110=>rg<|lp (iv 0) (pu_assign rfl)<|lp (.bool false) (pu_assign rfl)<|ln (hK110 _ _ ?_)
 obtain rfl:=os hb
 refine Wc.ret (hKR _ _ ?_)
 refine ⟨_,res2 results12 (tV (iv 0) rfl) (tV (.bool false) rfl),_,rfl,rfl,(show I64 0 from by unfold I64; omega),hC.sE []⟩
 replace hb:=tf hq83 hb
 refine Wc.skip (hK72 _ _ ?_)
 refine Wc.seq fun _ hK111=>rg<|lp _ (pu_move e14)<|lp _ (pu_move e15) ?_
 obtain ⟨z112,h113,hb⟩:=bd hb
 refine lp (iv z112) (pu_subc (a:=y63) (b:=y67) rfl rfl h113)<|lp _ (pu_move e12)<|lp _ (pu_move e13) ?_
 obtain ⟨z114,h115,hb⟩:=bd hb
 refine lp (iv z114) (pu_subc (a:=y51) (b:=y55) rfl rfl h115)<|lp (iv z112) (pu_assign rfl)<|lp (iv z114) (pu_assign rfl)<|ln (hK111 _ _ ?_)
 refine Wc.seq fun _ hK116=>?_
 refine Wc.regionMix [] (frm [] ([]:List Fact) ([]:List Fact)) (fun _=>rfl) mixed (by decide+kernel) (by decide+kernel) fun w118 hw117=>?_
 replace hC:=hC.step (Fr.of_drew hw117)
 have hM:=Fr.refl (fun k=>k∈blocks ([]:List Fact)) w118
 clear hw117
 have hS:=hC
 refine mp (.pointer (some ((⟨g5,0,none⟩:Addr).add 2))) (pu_field (sz:=1) underlying23 rfl sizeOf3 (by decide) rfl e5)<|mixE.load hM (v:=iv f) (fun _ hF=>ld_fld (hS.bx2 (i:=1) rfl [] (by decide) hF) isAgg3 rfl rfl)<|mp (iv y63) (pu_move e14) ?_
 obtain ⟨z119,h120,hb⟩:=bd hb
 refine mp (iv z119) (pu_mulc (a:=f) (b:=y63) rfl rfl h120)<|mp (.pointer (some ((⟨g2,0,none⟩:Addr).add 2))) (pu_field (sz:=1) underlying23 rfl sizeOf3 (by decide) rfl e4)<|mixE.load hM (v:=iv c) (fun _ hF=>ld_fld (hS.bx2 (i:=0) rfl [] (by decide) hF) isAgg3 rfl rfl)<|mp (iv y67) (pu_move e15) ?_
 obtain ⟨z121,h122,hb⟩:=bd hb
 refine mp (iv z121) (pu_mulc (a:=c) (b:=y67) rfl rfl h122) ?_
 obtain ⟨z123,h124,hb⟩:=bd hb
 refine mp (iv z123) (pu_subc (a:=z119) (b:=z121) rfl rfl h124)<|mp (.pointer (some ((⟨g11,0,none⟩:Addr).add 2))) (pu_field (sz:=1) underlying23 rfl sizeOf3 (by decide) rfl e7)<|mixE.load hM (v:=iv j) (fun _ hF=>ld_fld (hS.bx2 (i:=3) rfl [] (by decide) hF) isAgg3 rfl rfl)<|mp (iv y51) (pu_move e12) ?_
 obtain ⟨z125,h126,hb⟩:=bd hb
 refine mp (iv z125) (pu_mulc (a:=j) (b:=y51) rfl rfl h126)<|mp (.pointer (some ((⟨g8,0,none⟩:Addr).add 2))) (pu_field (sz:=1) underlying23 rfl sizeOf3 (by decide) rfl e6)<|mixE.load hM (v:=iv g) (fun _ hF=>ld_fld (hS.bx2 (i:=2) rfl [] (by decide) hF) isAgg3 rfl rfl)<|mp (iv y55) (pu_move e13) ?_
 obtain ⟨z127,h128,hb⟩:=bd hb
 refine mp (iv z127) (pu_mulc (a:=g) (b:=y55) rfl rfl h128) ?_
 obtain ⟨z129,h130,hb⟩:=bd hb
 refine mp (iv z129) (pu_subc (a:=z125) (b:=z127) rfl rfl h130)<|mp (iv z123) (pu_assign rfl)<|mp (iv z129) (pu_assign rfl)<|mixE.nil ?_
 clear hS hM
 refine hK116 _ _<|Wc.fresh fun E131 hE=>?_
 have e8:=cg hE 8 e8
 have e9:=cg hE 9 e9
 have e16:E131 16=iv z112:=cg hE 16 rfl
 have e17:E131 17=iv z114:=cg hE 17 rfl
 have e18:E131 18=iv z123:=cg hE 18 rfl
 have e19:E131 19=iv z129:=cg hE 19 rfl
 clear hE
 refine Wc.seqJ (fun E wv=> ∃(S:Int) (T:Int),E 8=iv 0∧E 9=.bool false∧E 16=iv S∧E 17=iv z114∧E 18=iv T∧E 19=iv z129∧I64 S∧I64 T∧Cx (fun _=>False) O0 w wv []∧F.polygon_Cross_j2 n z114 z129 S T=some r) (fun _ hK132=>?_) ?_
 refine Wc.seq fun _ hK133=>rg<|lp _ (pu_move e16)<|lp (.bool (decide (z112<0))) (pu_lss (k:=.i64) (a:=z112) (b:=0) rfl rfl)<|ln (hK133 _ _ ?_)
 refine Wc.cond (t:=(decide (z112<0))) (rfl) (fun hq134=>?_) (fun hq134=>?_)
 replace hb:=tt hq134 hb
 refine rg<|lp _ (pu_move e16) ?_
 obtain ⟨z135,h136,hb⟩:=bd hb
 refine lp (iv z135) (pu_negc (a:=z112) rfl h136)<|lp _ (pu_move e18) ?_
 obtain ⟨z137,h138,hb⟩:=bd hb
 refine lp (iv z137) (pu_negc (a:=z123) rfl h138)<|lp (iv z135) (pu_assign rfl)<|lp (iv z137) (pu_assign rfl)<|ln ?_
 exact hK132 _ _ ⟨z135,z137,e8,e9,rfl,e17,rfl,e19,(chk_rng h136),(chk_rng h138),hC.sE [],hb⟩
 replace hb:=tf hq134 hb
 refine Wc.skip ?_
 exact hK132 _ _ ⟨z112,z123,e8,e9,e16,e17,e18,e19,(chk_rng h113),(chk_rng h124),hC.sE [],hb⟩
 clear hb hC
 rintro E140 w139 ⟨S,T,e8,e9,e16,e17,e18,e19,Z,a0,hC,hb⟩
 unfold F.polygon_Cross_j2 at hb
 refine Wc.seqJ (fun E wv=> ∃(U:Int) (V:Int),E 8=iv 0∧E 9=.bool false∧E 16=iv S∧E 17=iv U∧E 18=iv T∧E 19=iv V∧I64 U∧I64 V∧Cx (fun _=>False) O0 w wv []∧F.polygon_Cross_j3 n S T U V=some r) (fun _ hK141=>?_) ?_
 refine Wc.seq fun _ hK142=>rg<|lp _ (pu_move e17)<|lp (.bool (decide (z114<0))) (pu_lss (k:=.i64) (a:=z114) (b:=0) rfl rfl)<|ln (hK142 _ _ ?_)
 refine Wc.cond (t:=(decide (z114<0))) (rfl) (fun hq143=>?_) (fun hq143=>?_)
 replace hb:=tt hq143 hb
 refine rg<|lp _ (pu_move e17) ?_
 obtain ⟨z144,h145,hb⟩:=bd hb
 refine lp (iv z144) (pu_negc (a:=z114) rfl h145)<|lp _ (pu_move e19) ?_
 obtain ⟨z146,h147,hb⟩:=bd hb
 refine lp (iv z146) (pu_negc (a:=z129) rfl h147)<|lp (iv z144) (pu_assign rfl)<|lp (iv z146) (pu_assign rfl)<|ln ?_
 exact hK141 _ _ ⟨z144,z146,e8,e9,e16,rfl,e18,rfl,(chk_rng h145),(chk_rng h147),hC.sE [],hb⟩
 replace hb:=tf hq143 hb
 refine Wc.skip ?_
 exact hK141 _ _ ⟨z114,z129,e8,e9,e16,e17,e18,e19,(chk_rng h115),(chk_rng h130),hC.sE [],hb⟩
 clear hb hC
 rintro E149 w148 ⟨U,V,e8,e9,e16,e17,e18,e19,a1,a2,hC,hb⟩
 unfold F.polygon_Cross_j3 at hb
 refine Wc.seq fun _ hK150=>?_
 refine Wc.seq fun _ hK151=>rg<|lp _ (pu_move e18)<|lp _ (pu_move e17) ?_
 obtain ⟨z152,h153,hb⟩:=bd hb
 refine lp (iv z152) (pu_mulc (a:=T) (b:=U) rfl rfl h153)<|lp _ (pu_move e19)<|lp _ (pu_move e16) ?_
 obtain ⟨z154,h155,hb⟩:=bd hb
 refine lp (iv z154) (pu_mulc (a:=V) (b:=S) rfl rfl h155)<|lp (.bool (decide (z152=z154))) (pu_eql (k:=.i64) (a:=z152) (b:=z154) rfl rfl)<|ln (hK151 _ _ ?_)
 refine Wc.cond (t:=(decide (z152=z154))) (rfl) (fun hq156=>?_) (fun hq156=>?_)
 replace hb:=tt hq156 hb
 refine Wc.seq fun _ hK157=>rg<|lp (iv 2) (pu_assign rfl)<|lp (.bool false) (pu_assign rfl)<|ln (hK157 _ _ ?_)
 obtain rfl:=os hb
 refine Wc.ret (hKR _ _ ?_)
 refine ⟨_,res2 results12 (tV (iv 2) rfl) (tV (.bool false) rfl),_,rfl,rfl,(show I64 2 from by unfold I64; omega),hC.sE []⟩
 replace hb:=tf hq156 hb
 refine Wc.skip (hK150 _ _ ?_)
 refine Wc.seq fun _ hK158=>rg<|lp _ (pu_move e18)<|lp _ (pu_move e17) ?_
 obtain ⟨z159,h160,hb⟩:=bd hb
 refine lp (iv z159) (pu_mulc (a:=T) (b:=U) rfl rfl h160)<|lp _ (pu_move e19)<|lp _ (pu_move e16) ?_
 obtain ⟨z161,h162,hb⟩:=bd hb
 refine lp (iv z161) (pu_mulc (a:=V) (b:=S) rfl rfl h162)<|lp (.bool (decide (z161<z159))) (pu_gtr (k:=.i64) (a:=z159) (b:=z161) rfl rfl)<|lp (iv 1) (pu_assign rfl)<|lp (.bool (decide (z161<z159))) (pu_assign rfl)<|ln (hK158 _ _ ?_)
 obtain rfl:=os hb
 refine Wc.ret (hKR _ _ ?_)
 refine ⟨_,res2 results12 (tV (iv 1) rfl) (tV (.bool (decide (z161<z159))) rfl),_,rfl,rfl,(show I64 1 from by unfold I64; omega),hC.sE []⟩

theorem polygon_cross_c1_ok (n:Nat) {w:World} {O0:List Nat} (hO: ∀k∈O0,k<w.heap.size) {q:Int} (N:I64 q) {A:Bool} {z:Nat} {c:Option Addr} {y d:Nat} {s:List ((Int×(Int×Int))×((Int×(Int×Int))×(Int×Int)))} (B:Rep O0 w (.sl (.pr (.pr si (.pr si si)) (.pr (.pr si (.pr si si)) (.pr si si)))) [.slice c y d] s) {x:Nat} {f:Int} (C:I64 f) {g:Int} (D:I64 g) {h:Int} (G:I64 h) {l:Int} (H:I64 l) {m:Int} (J:I64 m) {p:Int} (K:I64 p) {t:Int} (P:I64 t) {u:Int} (Q:I64 u) (hio:Tk O0 w [.box z 68 [.slice c y d],.box x 105 [iv f,iv g,iv h,iv l,iv m,iv p,iv t,iv u]]) {r:Int×Int} (hb:F.polygon_cross_c1 n q A s f g h l m p t u=some r):
    Calls prog 80 #[.agg #[iv q,.bool A],pg z,pg x] w fun e w'=> ∃v,e=.returned v∧v=.tuple #[iv r.1,iv r.2]∧I64 r.1∧I64 r.2∧Cx (fun k=>k∈blocks [.box z 68 [.slice c y d],.box x 105 [iv f,iv g,iv h,iv l,iv m,iv p,iv t,iv u]]) O0 w w' [.box z 68 [.slice c y d],.box x 105 [iv f,iv g,iv h,iv l,iv m,iv p,iv t,iv u]]:=by
 unfold F.polygon_cross_c1 at hb
 have hC:=Cx.startTk hO hio
 have hsub:=hio.2.2
 replace hC:=hC.argTk (by first | exact hsub | exact fun k hk=>hsub k (by simpa [blocks,Fact.blk] using hk)) B
 clear hO
 obtain ⟨rfl,L,M⟩:=B.sl_len
 clear hio hsub
 obtain ⟨I,hI,hC⟩: ∃I:Nat→Prop,I=(fun k=>k∈blocks [.box z 68 [.slice c s.length d],.box x 105 [iv f,iv g,iv h,iv l,iv m,iv p,iv t,iv u]])∧Cx I O0 w w ([.ro (.sl (.pr (.pr si (.pr si si)) (.pr (.pr si (.pr si si)) (.pr si si)))) [.slice c s.length d] s,.box z 68 [.slice c s.length d],.box x 105 [iv f,iv g,iv h,iv l,iv m,iv p,iv t,iv u]]):=⟨_,rfl,hC⟩
 refine calls_of_Wc func80 rfl (by rw [ntmps80]; exact nb rfl) fun KR hKR=>?_
 refine Wc.seq fun _ hK4=>rg<|lex.op (hC.box (cs:=[iv q,.bool A]) rfl rfl) ?_
 rintro _ w6 ⟨g5,rfl,hC,hF,-⟩
 refine lp (iv 0) (pu_assign rfl)<|lp (iv 0) (pu_assign rfl)<|ln (hK4 _ _ ?_)
 refine Wc.seq fun _ hK8=>rg<|lv (.slice c s.length d) (ld_one isAgg68 rfl ((hC.bx (i:=2) rfl).cell (j:=0) rfl))<|lp (.pointer (some ((⟨g5,0,none⟩:Addr).add 0))) (pu_field (sz:=1) underlying107 rfl sizeOf3 (by decide) rfl rfl)<|lv (iv q) (ld_fld (hC.bx (i:=0) rfl) isAgg3 rfl rfl) ?_
 obtain ⟨x9,h10,hb⟩:=bd hb
 obtain ⟨ad11,cs12,hA,hc13,hr14⟩:=hC.elr (i:=1) rfl (get_some h10).2
 subst hA
 refine lp (.pointer (some (ad11.add (q.toNat*8)))) (pu_index (a:=q) underlying68 sizeOf105 rfl rfl (get_some h10).1) ?_
 obtain ⟨k15,k16,rfl,hr17,hr18⟩:=hr14
 obtain ⟨k19,k20,rfl,hr21,hr22⟩:=hr17
 obtain ⟨rfl,hr21⟩:=hr21
 obtain ⟨k23,k24,rfl,hr25,hr26⟩:=hr22
 obtain ⟨rfl,hr25⟩:=hr25
 obtain ⟨rfl,hr26⟩:=hr26
 obtain ⟨k27,k28,rfl,hr29,hr30⟩:=hr18
 obtain ⟨k31,k32,rfl,hr33,hr34⟩:=hr29
 obtain ⟨rfl,hr33⟩:=hr33
 obtain ⟨k35,k36,rfl,hr37,hr38⟩:=hr34
 obtain ⟨rfl,hr37⟩:=hr37
 obtain ⟨rfl,hr38⟩:=hr38
 obtain ⟨k39,k40,rfl,hr41,hr42⟩:=hr30
 obtain ⟨rfl,hr41⟩:=hr41
 obtain ⟨rfl,hr42⟩:=hr42
 refine lv (.agg #[iv x9.1.1,iv x9.1.2.1,iv x9.1.2.2,iv x9.2.1.1,iv x9.2.1.2.1,iv x9.2.1.2.2,iv x9.2.2.1,iv x9.2.2.2]) (ld_agg isAgg105 sizeOf105 rfl rfl hc13)<|lex.op (hC.alloc (cs:=[iv 0,iv 0,iv 0,iv 0,iv 0,iv 0,iv 0,iv 0]) zeroValue105 rfl) ?_
 rintro _ w44 ⟨g43,rfl,hC,hF,-⟩
 refine lex.sk (hC.seta (i:=0) (ds:=[iv x9.1.1,iv x9.1.2.1,iv x9.1.2.2,iv x9.2.1.1,iv x9.2.1.2.1,iv x9.2.1.2.2,iv x9.2.2.1,iv x9.2.2.2]) rfl type105 rfl rfl rfl rfl rfl) ?_
 rintro w46 ⟨hC,hF⟩
 refine ln (hK8 _ _ ?_)
 refine Wc.seq fun _ hK47=>?_
 refine Wc.regionMix [] (frm [] ([]:List Fact) ([]:List Fact)) (fun _=>rfl) mixed (by decide+kernel) (by decide+kernel) fun w49 hw48=>?_
 replace hC:=hC.step (Fr.of_drew hw48)
 have hM:=Fr.refl (fun k=>k∈blocks ([]:List Fact)) w49
 clear hw48
 have hS:=hC
 refine mp (.pointer (some ((⟨g43,0,none⟩:Addr).add 0))) (pu_field (sz:=3) underlying105 rfl sizeOf23 (by decide) rfl rfl)<|mixE.load hM (v:=.agg #[iv x9.1.1,iv x9.1.2.1,iv x9.1.2.2]) (fun _ hF=>ld_part (o:=0) (hS.bx2 (i:=0) rfl [] (by decide) hF) isAgg23 sizeOf23 rfl rfl rfl)<|mp (.pointer (some ((⟨g43,0,none⟩:Addr).add 3))) (pu_field (sz:=3) underlying105 rfl sizeOf23 (by decide) rfl rfl)<|mixE.load hM (v:=.agg #[iv x9.2.1.1,iv x9.2.1.2.1,iv x9.2.1.2.2]) (fun _ hF=>ld_part (o:=3) (hS.bx2 (i:=0) rfl [] (by decide) hF) isAgg23 sizeOf23 rfl rfl rfl)<|mp (.pointer (some ((⟨x,0,none⟩:Addr).add 0))) (pu_field (sz:=3) underlying105 rfl sizeOf23 (by decide) rfl rfl)<|mixE.load hM (v:=.agg #[iv f,iv g,iv h]) (fun _ hF=>ld_part (o:=0) (hS.bx2 (i:=4) rfl [] (by decide) hF) isAgg23 sizeOf23 rfl rfl rfl) ?_
 obtain ⟨y50,h51,hb⟩:=bd hb
 refine mixE.cl hM (⟨_,_,op_call (vs:=[.agg #[iv x9.1.1,iv x9.1.2.1,iv x9.1.2.2],.agg #[iv x9.2.1.1,iv x9.2.1.2.1,iv x9.2.1.2.2],.agg #[iv f,iv g,iv h]]) call44 rfl rfl rfl,polygon_turn_ok n hC.lt (wrap_I64 hr21) (wrap_I64 hr25) (wrap_I64 hr26) (wrap_I64 hr33) (wrap_I64 hr37) (wrap_I64 hr38) C D G h51⟩) ?_
 rintro _ w53 ⟨rfl,hr52,hK⟩
 replace hM:=hM.none hK.fr
 refine ⟨hM,?_⟩
 replace hC:=hC.merge hK
 clear hK
 refine mp (.pointer (some ((⟨g43,0,none⟩:Addr).add 0))) (pu_field (sz:=3) underlying105 rfl sizeOf23 (by decide) rfl rfl)<|mixE.load hM (v:=.agg #[iv x9.1.1,iv x9.1.2.1,iv x9.1.2.2]) (fun _ hF=>ld_part (o:=0) (hS.bx2 (i:=0) rfl [] (by decide) hF) isAgg23 sizeOf23 rfl rfl rfl)<|mp (.pointer (some ((⟨g43,0,none⟩:Addr).add 3))) (pu_field (sz:=3) underlying105 rfl sizeOf23 (by decide) rfl rfl)<|mixE.load hM (v:=.agg #[iv x9.2.1.1,iv x9.2.1.2.1,iv x9.2.1.2.2]) (fun _ hF=>ld_part (o:=3) (hS.bx2 (i:=0) rfl [] (by decide) hF) isAgg23 sizeOf23 rfl rfl rfl)<|mp (.pointer (some ((⟨x,0,none⟩:Addr).add 3))) (pu_field (sz:=3) underlying105 rfl sizeOf23 (by decide) rfl rfl)<|mixE.load hM (v:=.agg #[iv l,iv m,iv p]) (fun _ hF=>ld_part (o:=3) (hS.bx2 (i:=4) rfl [] (by decide) hF) isAgg23 sizeOf23 rfl rfl rfl) ?_
 obtain ⟨y54,h55,hb⟩:=bd hb
 refine mixE.cl hM (⟨_,_,op_call (vs:=[.agg #[iv x9.1.1,iv x9.1.2.1,iv x9.1.2.2],.agg #[iv x9.2.1.1,iv x9.2.1.2.1,iv x9.2.1.2.2],.agg #[iv l,iv m,iv p]]) call44 rfl rfl rfl,polygon_turn_ok n hC.lt (wrap_I64 hr21) (wrap_I64 hr25) (wrap_I64 hr26) (wrap_I64 hr33) (wrap_I64 hr37) (wrap_I64 hr38) H J K h55⟩) ?_
 rintro _ w57 ⟨rfl,hr56,hK⟩
 replace hM:=hM.none hK.fr
 refine ⟨hM,?_⟩
 replace hC:=hC.merge hK
 clear hK
 refine mp (iv y50) (pu_assign rfl)<|mp (iv y54) (pu_assign rfl)<|mixE.nil ?_
 clear hS hM
 refine hK47 _ _<|Wc.fresh fun E58 hE=>?_
 have e4:E58 4=iv 0:=cg hE 4 rfl
 have e5:E58 5=iv 0:=cg hE 5 rfl
 have e7:E58 7=iv y50:=cg hE 7 rfl
 have e8:E58 8=iv y54:=cg hE 8 rfl
 clear hE
 refine Wc.seq fun _ hK59=>rg<|lp _ (pu_move e7)<|lp _ (pu_move e7) ?_
 obtain ⟨z60,h61,hb⟩:=bd hb
 refine lp (iv z60) (pu_negc (a:=y50) rfl h61)<|lp (iv (max y50 z60)) (pu_max (a:=y50) (b:=z60) rfl rfl)<|lp _ (pu_move e7)<|lp _ (pu_move e8) ?_
 obtain ⟨z62,h63,hb⟩:=bd hb
 refine lp (iv z62) (pu_subc (a:=y50) (b:=y54) rfl rfl h63)<|lp _ (pu_move e8)<|lp _ (pu_move e7) ?_
 obtain ⟨z64,h65,hb⟩:=bd hb
 refine lp (iv z64) (pu_subc (a:=y54) (b:=y50) rfl rfl h65)<|lp (iv (max z62 z64)) (pu_max (a:=z62) (b:=z64) rfl rfl)<|lp (iv (max y50 z60)) (pu_assign rfl)<|lp (iv (max z62 z64)) (pu_assign rfl)<|ln (hK59 _ _ ?_)
 obtain rfl:=os hb
 subst hI
 refine Wc.ret (hKR _ _ ?_)
 refine ⟨_,res2 results80 (tV (iv (max y50 z60)) rfl) (tV (iv (max z62 z64)) rfl),_,rfl,rfl,(I64.max hr52 (chk_rng h61)),(I64.max (chk_rng h63) (chk_rng h65)),hC.sE [3,4]⟩
end Go.Proofs.Yteajmbanlohncaa
