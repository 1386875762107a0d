import Derived.Test.YteajmbanlohncaaS
set_option linter.unusedVariables false
set_option linter.unusedSimpArgs false
namespace Go.Proofs.Yteajmbanlohncaa
open Ev Try
set_option maxRecDepth 100000
set_option maxHeartbeats 4000000
theorem polygon_within_ok (n:Nat) {w:World} {O0:List Nat} (hO: ∀k∈O0,k<w.heap.size) {f:Int} (o:I64 f) {g:Int} (s:I64 g) {j:Int} (u:I64 j) {r:Bool} (hb:F.polygon_within n f g j=some r):
    Calls prog 43 #[.agg #[iv f,iv g,iv j]] w fun e w'=> ∃v,e=.returned v∧v=.bool r∧Cx (fun _=>False) O0 w w' []:=by
 unfold F.polygon_within at hb
 have hC:=Cx.start hO
 clear hO
 refine calls_of_Wc func43 rfl (by rw [ntmps43]; exact nb rfl) fun KR hKR=>?_
 refine Wc.seq fun _ hK1=>rg<|lex.op (hC.box (cs:=[iv f,iv g,iv j]) rfl rfl) ?_
 rintro _ w3 ⟨g2,rfl,hC,hF,-⟩
 refine lp (.bool false) (pu_assign rfl)<|ln (hK1 _ _ ?_)
 refine Wc.seq fun _ hK5=>?_
 refine Wc.seq fun _ hK6=>rg<|lp (.pointer (some ((⟨g2,0,none⟩:Addr).add 0))) (pu_field (sz:=1) underlying23 rfl sizeOf3 (by decide) rfl rfl)<|lv (iv f) (ld_fld (hC.bx (i:=0) rfl) isAgg3 rfl rfl)<|lp (.pointer (some ((⟨g2,0,none⟩:Addr).add 1))) (pu_field (sz:=1) underlying23 rfl sizeOf3 (by decide) rfl rfl)<|lv (iv g) (ld_fld (hC.bx (i:=0) rfl) isAgg3 rfl rfl)<|lp (.pointer (some ((⟨g2,0,none⟩:Addr).add 2))) (pu_field (sz:=1) underlying23 rfl sizeOf3 (by decide) rfl rfl)<|lv (iv j) (ld_fld (hC.bx (i:=0) rfl) isAgg3 rfl rfl)<|lp (.agg #[iv f,iv g,iv j]) (pu_builda (pv:=[(0,iv f),(1,iv g),(2,iv j)]) (sz:=1) type103 underlying103 rfl type3 rfl rfl (by simp [Instr.fill,Value.cells]))<|lp (iv 0) (pu_move rfl)<|ln (hK6 _ _ ?_)
 refine Wc.fresh fun E7 hE=>?_
 have e2:E7 2=.bool false:=cg hE 2 rfl
 have e11:E7 11=.agg #[iv f,iv g,iv j]:=cg hE 11 rfl
 have e12:E7 12=iv 0:=cg hE 12 rfl
 clear hE
 obtain ⟨o8,hl0,hb⟩:=bd hb
 refine Wc.cut (fun E wv=> ∃(c:Int),E 2=.bool false∧I64 c∧Cx (fun _=>False) O0 w wv []∧(some true:Option (Bool))=some r) (fun _ hK9=>?_) ?_
 refine Wc.block ?_
 refine Wc.loop (fun m E wv=> ∃(c:Int),E 2=.bool false∧E 11=.agg #[iv f,iv g,iv j]∧E 12=iv c∧I64 c∧Cx (fun _=>False) O0 w wv []∧loopN m (F.polygon_within_b0 n f g j) c=some o8) n ⟨0,e2,e11,e12,(show I64 0 from by unfold I64; omega),hC.sE [],hl0⟩ ?_
 have hbK0:=hb
 clear hb hC hl0
 rintro m11 E13 w12 ⟨c,e2,e11,e12,l,hC,hl0⟩ K10 hK10
 obtain ⟨m11',o14,rfl,hb,hl0⟩:=loopN_some hl0
 unfold F.polygon_within_b0 at hb
 refine Wc.seq fun _ hK15=>rg<|lp (.bool (decide (c<3))) (pu_lss (k:=.i64) (a:=c) (b:=3) e12 rfl)<|ln (hK15 _ _ ?_)
 refine Wc.seq fun _ hK16=>?_
 refine Wc.cond (t:=(decide (c<3))) (rfl) (fun hq17=>?_) (fun hq17=>?_)
 replace hb:=tt hq17 hb
 refine Wc.skip (hK16 _ _ ?_)
 refine Wc.seq fun _ hK18=>?_
 refine Wc.block<|Wc.seq fun _ hK19=>rg ?_
 obtain ⟨x20,h21,hb⟩:=bd hb
 have hr22:I64 x20:=all_get (p:=fun d=>I64 d) (List.forall_mem_cons.2 ⟨o,List.forall_mem_cons.2 ⟨s,List.forall_mem_cons.2 ⟨u,fun _ h=>absurd h List.not_mem_nil⟩⟩⟩) h21
 refine lp (iv x20) (pu_ix1 (a:=c) (cs:=(([f,g,j]:List Int).map (Value.int .i64)).toArray) underlying103 sizeOf3 isAgg3 e11 e12 (by have h1:=(get_some h21).1; have h2:=(get_nn h21); simp at h1; omega) (ixa_int (get_some h21).2))<|lp (iv x20) (pu_assign rfl)<|ln (hK19 _ _ ?_)
 refine Wc.seq fun _ hK23=>rg<|lp (iv x20) (pu_move rfl)<|lp (.bool (decide (x20<(-1000)))) (pu_lss (k:=.i64) (a:=x20) (b:=(-1000)) rfl rfl)<|lp (.bool (decide (x20<(-1000)))) (pu_move rfl) ?_
 rcases bS (decide (x20<(-1000))) with hq24 | hq24
 replace hb:=tt hq24 hb
 refine gs rfl rfl (decide (x20<(-1000))) rfl hq24<|gs rfl rfl (decide (x20<(-1000))) rfl hq24<|lp (.bool true) (pu_pickT (q:=(decide (x20<(-1000)))) rfl hq24 rfl)<|ln (hK23 _ _ ?_)
 refine Wc.cond_true (rfl) ?_
 refine Wc.seq fun _ hK25=>rg<|lp (.bool false) (pu_assign rfl)<|ln (hK25 _ _ ?_)
 obtain rfl:=os hb
 obtain rfl:=(lX hl0).symm
 replace hb:=hbK0
 obtain rfl:=os hb
 refine Wc.ret (hKR _ _ ?_)
 refine ⟨_,res1 results43 (tV (.bool false) rfl),_,rfl,rfl,hC.sE []⟩
 replace hb:=tf hq24 hb
 refine gp rfl rfl (decide (x20<(-1000))) rfl hq24 (iv x20) (pu_move rfl)<|gp rfl rfl (decide (x20<(-1000))) rfl hq24 (.bool (decide (1000<x20))) (pu_gtr (k:=.i64) (a:=x20) (b:=1000) rfl rfl)<|lp (.bool (decide (1000<x20))) (pu_pickF (q:=(decide (x20<(-1000)))) rfl hq24 rfl)<|ln (hK23 _ _ ?_)
 refine Wc.cond (t:=(decide (1000<x20))) (rfl) (fun hq26=>?_) (fun hq26=>?_)
 replace hb:=tt hq26 hb
 refine Wc.seq fun _ hK27=>rg<|lp (.bool false) (pu_assign rfl)<|ln (hK27 _ _ ?_)
 obtain rfl:=os hb
 obtain rfl:=(lX hl0).symm
 replace hb:=hbK0
 obtain rfl:=os hb
 refine Wc.ret (hKR _ _ ?_)
 refine ⟨_,res1 results43 (tV (.bool false) rfl),_,rfl,rfl,hC.sE []⟩
 replace hb:=tf hq26 hb
 refine Wc.skip (hK18 _ _ ?_)
 refine rg ?_
 obtain ⟨z28,h29,hb⟩:=bd hb
 refine lp (iv z28) (pu_addc (a:=c) (b:=1) e12 rfl h29)<|lp (iv z28) (pu_move rfl)<|ln ?_
 obtain rfl:=os hb
 exact hK10 m11' _ _ (Nat.lt_succ_self _) ⟨z28,e2,e11,rfl,(chk_rng h29),hC.sE [],lN hl0⟩
 replace hb:=tf hq17 hb
 refine Wc.exit rfl ?_
 obtain rfl:=os hb
 obtain rfl:=(lX hl0).symm
 exact hK9 _ _ ⟨c,e2,l,hC.sE [],hbK0⟩
 clear hb hC hl0
 rintro E31 w30 ⟨c,e2,l,hC,hb⟩
 refine hK5 _ _<|Wc.seq fun _ hK32=>rg<|lp (.bool true) (pu_assign rfl)<|ln (hK32 _ _ ?_)
 obtain rfl:=os hb
 refine Wc.ret (hKR _ _ ?_)
 refine ⟨_,res1 results43 (tV (.bool true) rfl),_,rfl,rfl,hC.sE []⟩

theorem polygon_valid_ok (n:Nat) {w:World} {O0:List Nat} (hO: ∀k∈O0,k<w.heap.size) {j:Option Addr} {s g:Nat} {f:List (List (Int×(Int×Int)))} (u:Rep O0 w (.sl (.sl (.pr si (.pr si si)))) [.slice j s g] f) {r:Bool} (hb:F.polygon_valid n f=some r):
    Calls prog 51 #[.slice j s g] w fun e w'=> ∃v,e=.returned v∧v=.bool r∧Cx (fun _=>False) O0 w w' []:=by
 unfold F.polygon_valid at hb
 have hC:=Cx.start hO
 replace hC:=hC.arg rfl u
 clear hO
 obtain ⟨rfl,x,y⟩:=u.sl_len
 refine calls_of_Wc func51 rfl (by rw [ntmps51]; exact nb rfl) fun KR hKR=>?_
 refine Wc.seq fun _ hK2=>rg<|lp (.bool false) (pu_assign rfl)<|ln (hK2 _ _ ?_)
 refine Wc.seq fun _ hK3=>rg<|lp (iv 0) (pu_assign rfl)<|ln (hK3 _ _ ?_)
 refine Wc.seq fun _ hK4=>?_
 refine Wc.seq fun _ hK5=>rg<|lp (.slice j f.length g) (pu_move rfl)<|lp (iv (f.length:Int)) (pu_len (A:=j) (n:=f.length) (m:=g) underlying28 rfl)<|lp (iv 0) (pu_move rfl)<|ln (hK5 _ _ ?_)
 obtain ⟨o6,hl0,hb⟩:=bd hb
 refine Wc.cut (fun E wv=> ∃(h:Int) (c:Int),E 2=.bool false∧I64 h∧I64 c∧Cx (fun _=>False) O0 w wv []∧(some true:Option (Bool))=some r) (fun _ hK7=>?_) ?_
 refine Wc.block ?_
 refine Wc.loop (fun m E wv=> ∃(h:Int) (c:Int),E 2=.bool false∧E 3=iv h∧E 8=.slice j f.length g∧E 9=iv (f.length:Int)∧E 10=iv c∧I64 h∧I64 c∧Cx (fun _=>False) O0 w wv [.ro (.sl (.sl (.pr si (.pr si si)))) [.slice j f.length g] f]∧loopN m (F.polygon_valid_b0 n f) (h,c)=some o6) n ⟨0,0,rfl,rfl,rfl,rfl,rfl,(show I64 0 from by unfold I64; omega),(show I64 0 from by unfold I64; omega),hC.sE [0],hl0⟩ ?_
 have hbK0:=hb
 clear hb hC hl0
 rintro m9 E11 w10 ⟨h,c,e2,e3,e8,e9,e10,p,l,hC,hl0⟩ K8 hK8
 obtain ⟨m9',o12,rfl,hb,hl0⟩:=loopN_some hl0
 unfold F.polygon_valid_b0 at hb
 refine Wc.seq fun _ hK13=>rg<|lp _ (pu_lss e10 e9)<|ln (hK13 _ _ ?_)
 refine Wc.seq fun _ hK14=>?_
 refine Wc.cond (t:=(decide (c<(f.length:Int)))) (rfl) (fun hq15=>?_) (fun hq15=>?_)
 replace hb:=tt hq15 hb
 refine Wc.skip (hK14 _ _ ?_)
 refine Wc.seq fun _ hK16=>?_
 refine Wc.block<|Wc.seq fun _ hK17=>rg ?_
 obtain ⟨x18,h19,hb⟩:=bd hb
 obtain ⟨ad20,cs21,hA,hc22,hr23⟩:=hC.elr (i:=0) rfl (get_some h19).2
 subst hA
 refine lp (.pointer (some (ad20.add (c.toNat*1)))) (pu_index (a:=c) underlying28 sizeOf43 e8 e10 (get_some h19).1) ?_
 have hR:=hr23
 obtain ⟨A24,c25,rfl,hl26,hc27,_⟩:=hr23
 replace hC:=hC.ro hR
 clear hR
 refine lv (.slice A24 x18.length c25) (ld_one isAgg43 rfl (hc22 0 _ rfl))<|lp (.slice A24 x18.length c25) (pu_assign rfl)<|ln (hK17 _ _ ?_)
 refine Wc.seq fun _ hK29=>rg<|lp _ (pu_move e3)<|lp (.slice A24 x18.length c25) (pu_move rfl)<|lp (iv (x18.length:Int)) (pu_len (A:=A24) (n:=x18.length) (m:=c25) underlying43 rfl) ?_
 obtain ⟨z30,h31,hb⟩:=bd hb
 refine lp (iv z30) (pu_addc (a:=h) (b:=(x18.length:Int)) rfl rfl h31)<|lp (iv z30) (pu_assign rfl)<|ln (hK29 _ _ ?_)
 refine Wc.seq fun _ hK32=>?_
 refine Wc.seq fun _ hK33=>rg<|lp (.slice A24 x18.length c25) (pu_move rfl)<|lp (iv (x18.length:Int)) (pu_len (A:=A24) (n:=x18.length) (m:=c25) underlying43 rfl)<|lp (.bool (decide ((x18.length:Int)<3))) (pu_lss (k:=.i64) (a:=(x18.length:Int)) (b:=3) rfl rfl)<|lp (.bool (decide ((x18.length:Int)<3))) (pu_move rfl) ?_
 rcases bS (decide ((x18.length:Int)<3)) with hq34 | hq34
 replace hb:=tt hq34 hb
 refine gs rfl rfl (decide ((x18.length:Int)<3)) rfl hq34<|gs rfl rfl (decide ((x18.length:Int)<3)) rfl hq34<|lp (.bool true) (pu_pickT (q:=(decide ((x18.length:Int)<3))) rfl hq34 rfl)<|ln (hK33 _ _ ?_)
 refine Wc.cond_true (rfl) ?_
 refine Wc.seq fun _ hK35=>rg<|lp (.bool false) (pu_assign rfl)<|ln (hK35 _ _ ?_)
 obtain rfl:=os hb
 obtain rfl:=(lX hl0).symm
 replace hb:=hbK0
 obtain rfl:=os hb
 refine Wc.ret (hKR _ _ ?_)
 refine ⟨_,res1 results51 (tV (.bool false) rfl),_,rfl,rfl,hC.sE []⟩
 replace hb:=tf hq34 hb
 refine gp rfl rfl (decide ((x18.length:Int)<3)) rfl hq34 (iv z30) (pu_move rfl)<|gp rfl rfl (decide ((x18.length:Int)<3)) rfl hq34 (.bool (decide (100<z30))) (pu_gtr (k:=.i64) (a:=z30) (b:=100) rfl rfl)<|lp (.bool (decide (100<z30))) (pu_pickF (q:=(decide ((x18.length:Int)<3))) rfl hq34 rfl)<|ln (hK33 _ _ ?_)
 refine Wc.cond (t:=(decide (100<z30))) (rfl) (fun hq36=>?_) (fun hq36=>?_)
 replace hb:=tt hq36 hb
 refine Wc.seq fun _ hK37=>rg<|lp (.bool false) (pu_assign rfl)<|ln (hK37 _ _ ?_)
 obtain rfl:=os hb
 obtain rfl:=(lX hl0).symm
 replace hb:=hbK0
 obtain rfl:=os hb
 refine Wc.ret (hKR _ _ ?_)
 refine ⟨_,res1 results51 (tV (.bool false) rfl),_,rfl,rfl,hC.sE []⟩
 replace hb:=tf hq36 hb
 refine Wc.skip (hK32 _ _ ?_)
 refine Wc.fresh fun E38 hE=>?_
 have e2:=cg hE 2 e2
 have e3:E38 3=iv z30:=cg hE 3 rfl
 have e5:E38 5=.slice A24 x18.length c25:=cg hE 5 rfl
 have e8:=cg hE 8 e8
 have e9:=cg hE 9 e9
 have e10:=cg hE 10 e10
 have e11:E38 11=.bool (decide (c<(f.length:Int))):=cg hE 11 rfl
 have e24:E38 24=.bool (decide (100<z30)):=cg hE 24 rfl
 clear hE
 refine Wc.seq fun _ hK39=>rg<|lp _ (pu_move e5)<|lp (iv (x18.length:Int)) (pu_len (A:=A24) (n:=x18.length) (m:=c25) underlying43 rfl)<|lp (iv 0) (pu_move rfl)<|ln (hK39 _ _ ?_)
 obtain ⟨o40,hl1,hb⟩:=bd hb
 refine Wc.cut (fun E wv=> ∃(d:Int),E 2=.bool false∧E 3=iv z30∧E 5=.slice A24 x18.length c25∧E 8=.slice (some ad20) f.length g∧E 9=iv (f.length:Int)∧E 10=iv c∧E 11=.bool (decide (c<(f.length:Int)))∧E 24=.bool (decide (100<z30))∧E 25=.slice A24 x18.length c25∧E 26=iv (x18.length:Int)∧E 27=iv d∧I64 d∧Cx (fun _=>False) O0 w wv [.ro (.sl (.pr si (.pr si si))) [.slice A24 x18.length c25] x18,.ro (.sl (.sl (.pr si (.pr si si)))) [.slice (some ad20) f.length g] f]∧((chk (c+1)).bind fun z80=>some (.inl (z30,z80)):Option ((Int×Int)⊕((Int×Int)⊕(Bool))))=some o12) (fun _ hK41=>?_) ?_
 refine Wc.block ?_
 refine Wc.loop (fun m E wv=> ∃(d:Int),E 2=.bool false∧E 3=iv z30∧E 5=.slice A24 x18.length c25∧E 8=.slice (some ad20) f.length g∧E 9=iv (f.length:Int)∧E 10=iv c∧E 11=.bool (decide (c<(f.length:Int)))∧E 24=.bool (decide (100<z30))∧E 25=.slice A24 x18.length c25∧E 26=iv (x18.length:Int)∧E 27=iv d∧I64 d∧Cx (fun _=>False) O0 w wv [.ro (.sl (.pr si (.pr si si))) [.slice A24 x18.length c25] x18,.ro (.sl (.sl (.pr si (.pr si si)))) [.slice (some ad20) f.length g] f]∧loopN m (F.polygon_valid_b1 n x18) d=some o40) n ⟨0,e2,e3,e5,e8,e9,e10,e11,e24,rfl,rfl,rfl,(show I64 0 from by unfold I64; omega),hC.sE [0,1],hl1⟩ ?_
 have hbK1:=hb
 clear hb hC hl1
 rintro m43 E45 w44 ⟨d,e2,e3,e5,e8,e9,e10,e11,e24,e25,e26,e27,o,hC,hl1⟩ K42 hK42
 obtain ⟨m43',o46,rfl,hb,hl1⟩:=loopN_some hl1
 unfold F.polygon_valid_b1 at hb
 refine Wc.seq fun _ hK47=>rg<|lp _ (pu_lss e27 e26)<|ln (hK47 _ _ ?_)
 refine Wc.seq fun _ hK48=>?_
 refine Wc.cond (t:=(decide (d<(x18.length:Int)))) (rfl) (fun hq49=>?_) (fun hq49=>?_)
 replace hb:=tt hq49 hb
 refine Wc.skip (hK48 _ _ ?_)
 refine Wc.seq fun _ hK50=>?_
 refine Wc.block<|Wc.seq fun _ hK51=>rg ?_
 obtain ⟨x52,h53,hb⟩:=bd hb
 obtain ⟨ad54,cs55,hA,hc56,hr57⟩:=hC.elr (i:=0) rfl (get_some h53).2
 subst hA
 refine lp (.pointer (some (ad54.add (d.toNat*3)))) (pu_index (a:=d) underlying43 sizeOf23 e25 e27 (get_some h53).1) ?_
 obtain ⟨k58,k59,rfl,hr60,hr61⟩:=hr57
 obtain ⟨rfl,hr60⟩:=hr60
 obtain ⟨k62,k63,rfl,hr64,hr65⟩:=hr61
 obtain ⟨rfl,hr64⟩:=hr64
 obtain ⟨rfl,hr65⟩:=hr65
 refine lv (.agg #[iv x52.1,iv x52.2.1,iv x52.2.2]) (ld_agg isAgg23 sizeOf23 rfl rfl hc56)<|lex.op (hC.alloc (cs:=[iv 0,iv 0,iv 0]) zeroValue23 rfl) ?_
 rintro _ w67 ⟨g66,rfl,hC,hF,-⟩
 refine lex.sk (hC.seta (i:=0) (ds:=[iv x52.1,iv x52.2.1,iv x52.2.2]) rfl type23 rfl rfl rfl rfl rfl) ?_
 rintro w69 ⟨hC,hF⟩
 refine ln (hK51 _ _ ?_)
 refine Wc.seq fun _ hK70=>rg<|lv (.agg #[iv x52.1,iv x52.2.1,iv x52.2.2]) (ld_blk (hC.bx (i:=0) rfl) isAgg23 sizeOf23 rfl) ?_
 obtain ⟨y71,h72,hb⟩:=bd hb
 refine lex.cl (⟨_,_,op_call (vs:=[.agg #[iv x52.1,iv x52.2.1,iv x52.2.2]]) call43 rfl rfl rfl,polygon_within_ok n hC.lt (wrap_I64 hr60) (wrap_I64 hr64) (wrap_I64 hr65) h72⟩) ?_
 rintro _ w73 ⟨rfl,hK⟩
 replace hC:=hC.merge hK
 clear hK
 refine lp (.bool (!y71)) (pu_not (q:=y71) rfl)<|ln (hK70 _ _ ?_)
 refine Wc.cond (t:=(!y71)) (rfl) (fun hq74=>?_) (fun hq74=>?_)
 replace hb:=tt hq74 hb
 refine Wc.seq fun _ hK75=>rg<|lp (.bool false) (pu_assign rfl)<|ln (hK75 _ _ ?_)
 obtain rfl:=os hb
 obtain rfl:=(lX hl1).symm
 replace hb:=hbK1
 obtain rfl:=os hb
 obtain rfl:=(lX hl0).symm
 replace hb:=hbK0
 obtain rfl:=os hb
 refine Wc.ret (hKR _ _ ?_)
 refine ⟨_,res1 results51 (tV (.bool false) rfl),_,rfl,rfl,hC.sE []⟩
 replace hb:=tf hq74 hb
 refine Wc.skip (hK50 _ _ ?_)
 refine rg ?_
 obtain ⟨z76,h77,hb⟩:=bd hb
 refine lp (iv z76) (pu_addc (a:=d) (b:=1) e27 rfl h77)<|lp (iv z76) (pu_move rfl)<|ln ?_
 obtain rfl:=os hb
 exact hK42 m43' _ _ (Nat.lt_succ_self _) ⟨z76,e2,e3,e5,e8,e9,e10,e11,e24,e25,e26,rfl,(chk_rng h77),hC.sE [1,2],lN hl1⟩
 replace hb:=tf hq49 hb
 refine Wc.exit rfl ?_
 obtain rfl:=os hb
 obtain rfl:=(lX hl1).symm
 exact hK41 _ _ ⟨d,e2,e3,e5,e8,e9,e10,e11,e24,e25,e26,e27,o,hC.sE [0,1],hbK1⟩
 clear hb hC hl1
 rintro E79 w78 ⟨d,e2,e3,e5,e8,e9,e10,e11,e24,e25,e26,e27,o,hC,hb⟩
 refine hK16 _ _<|rg ?_
 obtain ⟨z80,h81,hb⟩:=bd hb
 refine lp (iv z80) (pu_addc (a:=c) (b:=1) e10 rfl h81)<|lp (iv z80) (pu_move rfl)<|ln ?_
 obtain rfl:=os hb
 exact hK8 m9' _ _ (Nat.lt_succ_self _) ⟨z30,z80,e2,e3,e8,e9,rfl,(chk_rng h31),(chk_rng h81),hC.sE [1],lN hl0⟩
 replace hb:=tf hq15 hb
 refine Wc.exit rfl ?_
 obtain rfl:=os hb
 obtain rfl:=(lX hl0).symm
 exact hK7 _ _ ⟨h,c,e2,p,l,hC.sE [],hbK0⟩
 clear hb hC hl0
 rintro E83 w82 ⟨h,c,e2,p,l,hC,hb⟩
 refine hK4 _ _<|Wc.seq fun _ hK84=>rg<|lp (.bool true) (pu_assign rfl)<|ln (hK84 _ _ ?_)
 obtain rfl:=os hb
 refine Wc.ret (hKR _ _ ?_)
 refine ⟨_,res1 results51 (tV (.bool true) rfl),_,rfl,rfl,hC.sE []⟩

theorem polygon_edges_ok (n:Nat) {w:World} {O0:List Nat} (hO: ∀k∈O0,k<w.heap.size) {B:Option Addr} {H x:Nat} {q:List (List (Int×(Int×Int)))} (J:Rep O0 w (.sl (.sl (.pr si (.pr si si)))) [.slice B H x] q) {r:(List ((Int×(Int×Int))×((Int×(Int×Int))×(Int×Int))))} (hb:F.polygon_edges n q=some r):
    Calls prog 52 #[.slice B H x] w fun e w'=> ∃v,e=.returned v∧∃(A0:Option Addr) (m0 c0:Nat),v=.slice A0 m0 c0∧Cx (fun _=>False) O0 w w' [.own 105 (.pr (.pr si (.pr si si)) (.pr (.pr si (.pr si si)) (.pr si si))) (.slice A0 m0 c0) r]:=by
 unfold F.polygon_edges at hb
 have hC:=Cx.start hO
 replace hC:=hC.arg rfl J
 clear hO
 obtain ⟨rfl,P,Q⟩:=J.sl_len
 refine calls_of_Wc func52 rfl (by rw [ntmps52]; exact nb rfl) fun KR hKR=>?_
 refine Wc.seq fun _ hK2=>rg<|lp (.slice none 0 0) (pu_assign rfl)<|ln (hK2 _ _ ?_)
 refine Wc.seq fun _ hK3=>rg<|lp (.slice none 0 0) (pu_assign rfl)<|ln (hK3 _ _ ?_)
 refine Wc.seq fun _ hK4=>?_
 refine Wc.seq fun _ hK5=>rg<|lp (.slice B q.length x) (pu_move rfl)<|lp (iv (q.length:Int)) (pu_len (A:=B) (n:=q.length) (m:=x) underlying28 rfl)<|lp (iv 0) (pu_move rfl)<|ln (hK5 _ _ ?_)
 replace hC:=hC.nil 105 (.pr (.pr si (.pr si si)) (.pr (.pr si (.pr si si)) (.pr si si)))
 obtain ⟨o7,hl0,f7,hf7,hb⟩:=bn hb
 refine Wc.cut (fun E wv=> ∃(d:List ((Int×(Int×Int))×((Int×(Int×Int))×(Int×Int)))) (f:Int) (o:Option Addr) (y p:Nat),E 2=.slice none 0 0∧E 3=.slice o y p∧I64 f∧Cx (fun _=>False) O0 w wv [.own 105 (.pr (.pr si (.pr si si)) (.pr (.pr si (.pr si si)) (.pr si si))) (.slice o y p) d]∧f7 (d,f)=some r) (fun _ hK8=>?_) ?_
 refine Wc.block ?_
 refine Wc.loop (fun m E wv=> ∃(d:List ((Int×(Int×Int))×((Int×(Int×Int))×(Int×Int)))) (f:Int) (o:Option Addr) (y p:Nat),E 2=.slice none 0 0∧E 3=.slice o y p∧E 10=.slice B q.length x∧E 11=iv (q.length:Int)∧E 12=iv f∧I64 f∧Cx (fun _=>False) O0 w wv [.own 105 (.pr (.pr si (.pr si si)) (.pr (.pr si (.pr si si)) (.pr si si))) (.slice o y p) d,.ro (.sl (.sl (.pr si (.pr si si)))) [.slice B q.length x] q]∧loopN m (F.polygon_edges_b0 n q) (d,f)=some o7) n ⟨([]:List ((Int×(Int×Int))×((Int×(Int×Int))×(Int×Int)))),0,none,0,0,rfl,rfl,rfl,rfl,rfl,(show I64 0 from by unfold I64; omega),hC.sE [0,1],hl0⟩ ?_
 have hbK0:=hb
 clear hb hC hl0
 rintro m10 E12 w11 ⟨d,f,o,y,p,e2,e3,e10,e11,e12,C,hC,hl0⟩ K9 hK9
 obtain ⟨m10',o13,rfl,hb,hl0⟩:=loopN_some hl0
 unfold F.polygon_edges_b0 at hb
 obtain ⟨rfl,K,L⟩:=(hC.ow (i:=0) rfl).sl_len
 refine Wc.seq fun _ hK14=>rg<|lp _ (pu_lss e12 e11)<|ln (hK14 _ _ ?_)
 refine Wc.seq fun _ hK15=>?_
 refine Wc.cond (t:=(decide (f<(q.length:Int)))) (rfl) (fun hq16=>?_) (fun hq16=>?_)
 replace hb:=tt hq16 hb
 refine Wc.skip (hK15 _ _ ?_)
 refine Wc.seq fun _ hK17=>?_
 refine Wc.block<|Wc.seq fun _ hK18=>rg ?_
 obtain ⟨x19,h20,hb⟩:=bd hb
 obtain ⟨ad21,cs22,hA,hc23,hr24⟩:=hC.elr (i:=1) rfl (get_some h20).2
 subst hA
 refine lp (.pointer (some (ad21.add (f.toNat*1)))) (pu_index (a:=f) underlying28 sizeOf43 e10 e12 (get_some h20).1) ?_
 have hR:=hr24
 obtain ⟨A25,c26,rfl,hl27,hc28,_⟩:=hr24
 replace hC:=hC.ro hR
 clear hR
 refine lv (.slice A25 x19.length c26) (ld_one isAgg43 rfl (hc23 0 _ rfl))<|lp (.slice A25 x19.length c26) (pu_assign rfl)<|ln (hK18 _ _ ?_)
 refine Wc.seq fun _ hK30=>rg<|lp _ (pu_move e3)<|lp (iv (d.length:Int)) (pu_len (A:=o) (n:=d.length) (m:=p) underlying68 rfl)<|lp (iv (d.length:Int)) (pu_assign rfl)<|ln (hK30 _ _ ?_)
 refine Wc.seq fun _ hK31=>rg<|lp (.slice A25 x19.length c26) (pu_move rfl)<|lp (iv (x19.length:Int)) (pu_len (A:=A25) (n:=x19.length) (m:=c26) underlying43 rfl)<|lp (iv 0) (pu_move rfl)<|ln (hK31 _ _ ?_)
 refine Wc.fresh fun E32 hE=>?_
 have e2:=cg hE 2 e2
 have e3:=cg hE 3 e3
 have e5:E32 5=.slice A25 x19.length c26:=cg hE 5 rfl
 have e6:E32 6=iv (d.length:Int):=cg hE 6 rfl
 have e10:=cg hE 10 e10
 have e11:=cg hE 11 e11
 have e12:=cg hE 12 e12
 have e13:E32 13=.bool (decide (f<(q.length:Int))):=cg hE 13 rfl
 have e18:E32 18=.slice A25 x19.length c26:=cg hE 18 rfl
 have e19:E32 19=iv (x19.length:Int):=cg hE 19 rfl
 have e20:E32 20=iv 0:=cg hE 20 rfl
 clear hE
 obtain ⟨o33,hl1,hb⟩:=bd hb
 refine Wc.cut (fun E wv=> ∃(g:List ((Int×(Int×Int))×((Int×(Int×Int))×(Int×Int)))) (c:Int) (h:Option Addr) (z l:Nat),E 2=.slice none 0 0∧E 3=.slice h z l∧E 5=.slice A25 x19.length c26∧E 6=iv (d.length:Int)∧E 10=.slice (some ad21) q.length x∧E 11=iv (q.length:Int)∧E 12=iv f∧E 13=.bool (decide (f<(q.length:Int)))∧E 18=.slice A25 x19.length c26∧E 19=iv (x19.length:Int)∧E 20=iv c∧I64 c∧Cx (fun _=>False) O0 w wv [.own 105 (.pr (.pr si (.pr si si)) (.pr (.pr si (.pr si si)) (.pr si si))) (.slice h z l) g,.ro (.sl (.pr si (.pr si si))) [.slice A25 x19.length c26] x19,.ro (.sl (.sl (.pr si (.pr si si)))) [.slice (some ad21) q.length x] q]∧((chk (f+1)).bind fun z107=>some (.inl (g,z107)):Option (((List ((Int×(Int×Int))×((Int×(Int×Int))×(Int×Int))))×Int)⊕(((List ((Int×(Int×Int))×((Int×(Int×Int))×(Int×Int))))×Int))))=some o13) (fun _ hK34=>?_) ?_
 refine Wc.block ?_
 refine Wc.loop (fun m E wv=> ∃(g:List ((Int×(Int×Int))×((Int×(Int×Int))×(Int×Int)))) (c:Int) (h:Option Addr) (z l:Nat),E 2=.slice none 0 0∧E 3=.slice h z l∧E 5=.slice A25 x19.length c26∧E 6=iv (d.length:Int)∧E 10=.slice (some ad21) q.length x∧E 11=iv (q.length:Int)∧E 12=iv f∧E 13=.bool (decide (f<(q.length:Int)))∧E 18=.slice A25 x19.length c26∧E 19=iv (x19.length:Int)∧E 20=iv c∧I64 c∧Cx (fun _=>False) O0 w wv [.own 105 (.pr (.pr si (.pr si si)) (.pr (.pr si (.pr si si)) (.pr si si))) (.slice h z l) g,.ro (.sl (.pr si (.pr si si))) [.slice A25 x19.length c26] x19,.ro (.sl (.sl (.pr si (.pr si si)))) [.slice (some ad21) q.length x] q]∧loopN m (F.polygon_edges_b1 n d x19) (g,c)=some o33) n ⟨d,0,o,d.length,p,e2,e3,e5,e6,e10,e11,e12,e13,e18,e19,e20,(show I64 0 from by unfold I64; omega),hC.sE [1,0,2],hl1⟩ ?_
 have hbK1:=hb
 clear hb hC hl1
 rintro m36 E38 w37 ⟨g,c,h,z,l,e2,e3,e5,e6,e10,e11,e12,e13,e18,e19,e20,D,hC,hl1⟩ K35 hK35
 obtain ⟨m36',o39,rfl,hb,hl1⟩:=loopN_some hl1
 unfold F.polygon_edges_b1 at hb
 obtain ⟨rfl,M,N⟩:=(hC.ow (i:=0) rfl).sl_len
 refine Wc.seq fun _ hK40=>rg<|lp _ (pu_lss e20 e19)<|ln (hK40 _ _ ?_)
 refine Wc.seq fun _ hK41=>?_
 refine Wc.cond (t:=(decide (c<(x19.length:Int)))) (rfl) (fun hq42=>?_) (fun hq42=>?_)
 replace hb:=tt hq42 hb
 refine Wc.skip (hK41 _ _ ?_)
 refine Wc.seq fun _ hK43=>?_
 refine Wc.block<|Wc.seq fun _ hK44=>rg<|lp _ (pu_move e20) ?_
 obtain ⟨x45,h46,hb⟩:=bd hb
 obtain ⟨ad47,cs48,hA,hc49,hr50⟩:=hC.elr (i:=1) rfl (get_some h46).2
 subst hA
 refine lp (.pointer (some (ad47.add (c.toNat*3)))) (pu_index (a:=c) underlying43 sizeOf23 e18 e20 (get_some h46).1) ?_
 obtain ⟨k51,k52,rfl,hr53,hr54⟩:=hr50
 obtain ⟨rfl,hr53⟩:=hr53
 obtain ⟨k55,k56,rfl,hr57,hr58⟩:=hr54
 obtain ⟨rfl,hr57⟩:=hr57
 obtain ⟨rfl,hr58⟩:=hr58
 refine lv (.agg #[iv x45.1,iv x45.2.1,iv x45.2.2]) (ld_agg isAgg23 sizeOf23 rfl rfl hc49)<|lex.op (hC.alloc (cs:=[iv 0,iv 0,iv 0]) zeroValue23 rfl) ?_
 rintro _ w60 ⟨g59,rfl,hC,hF,-⟩
 refine lp (iv c) (pu_assign rfl)<|lex.sk (hC.seta (i:=0) (ds:=[iv x45.1,iv x45.2.1,iv x45.2.2]) rfl type23 rfl rfl rfl rfl rfl) ?_
 rintro w62 ⟨hC,hF⟩
 refine ln (hK44 _ _ ?_)
 refine Wc.seq fun _ hK63=>rg<|lp (iv c) (pu_move rfl) ?_
 obtain ⟨z64,h65,hb⟩:=bd hb
 refine lp (iv z64) (pu_addc (a:=c) (b:=1) rfl rfl h65)<|lp _ (pu_move e5)<|lp (iv (x19.length:Int)) (pu_len (A:=(some ad47)) (n:=x19.length) (m:=c26) underlying43 rfl) ?_
 obtain ⟨u66,h67,hb⟩:=bd hb
 refine lp (iv (Int.tmod z64 (x19.length:Int))) (pu_remc (a:=z64) (b:=(x19.length:Int)) rfl rfl h67)<|lp (iv (Int.tmod z64 (x19.length:Int))) (pu_assign rfl)<|ln (hK63 _ _ ?_)
 refine Wc.fresh fun E68 hE=>?_
 have e2:=cg hE 2 e2
 have e3:=cg hE 3 e3
 have e5:=cg hE 5 e5
 have e6:=cg hE 6 e6
 have e7:E68 7=iv c:=cg hE 7 rfl
 have e8:E68 8=pg g59:=cg hE 8 rfl
 have e9:E68 9=iv (Int.tmod z64 (x19.length:Int)):=cg hE 9 rfl
 have e10:=cg hE 10 e10
 have e11:=cg hE 11 e11
 have e12:=cg hE 12 e12
 have e13:=cg hE 13 e13
 have e18:=cg hE 18 e18
 have e19:=cg hE 19 e19
 have e20:=cg hE 20 e20
 have e21:E68 21=.bool (decide (c<(x19.length:Int))):=cg hE 21 rfl
 clear hE
 refine Wc.regionMix [] (frm [] [.own 105 (.pr (.pr si (.pr si si)) (.pr (.pr si (.pr si si)) (.pr si si))) (.slice h g.length l) g] ([]:List Fact)) (fun _=>rfl) mixed (by decide+kernel) (by decide+kernel) fun w70 hw69=>?_
 replace hC:=hC.step (Fr.of_drew hw69)
 have hM:=Fr.refl (fun k=>k∈blocks [.own 105 (.pr (.pr si (.pr si si)) (.pr (.pr si (.pr si si)) (.pr si si))) (.slice h g.length l) g]) w70
 clear hw69
 have hS:=hC
 have G:Beside [.own 105 (.pr (.pr si (.pr si si)) (.pr (.pr si (.pr si si)) (.pr si si))) (.slice h g.length l) g] w70 (.slice h g.length l):=Beside.of (i:=0) rfl
 refine mp (.slice h g.length l) (pu_move e3)<|mixE.load hM (v:=.agg #[iv x45.1,iv x45.2.1,iv x45.2.2]) (fun _ hF=>ld_blk (hS.bx2 (i:=0) rfl [1] (by decide) hF) isAgg23 sizeOf23 e8)<|mp (.slice (some ad47) x19.length c26) (pu_move e5)<|mp (iv (Int.tmod z64 (x19.length:Int))) (pu_move e9) ?_
 obtain ⟨x71,h72,hb⟩:=bd hb
 obtain ⟨ad73,cs74,hA,ho77,hc75,hr76⟩:=hS.elr2 (i:=2) rfl (get_some h72).2 [1]
 obtain rfl:=Option.some.inj hA
 refine mp (.pointer (some (ad47.add ((Int.tmod z64 (x19.length:Int)).toNat*3)))) (pu_index (a:=(Int.tmod z64 (x19.length:Int))) underlying43 sizeOf23 rfl rfl (get_some h72).1) ?_
 obtain ⟨k78,k79,rfl,hr80,hr81⟩:=hr76
 obtain ⟨rfl,hr80⟩:=hr80
 obtain ⟨k82,k83,rfl,hr84,hr85⟩:=hr81
 obtain ⟨rfl,hr84⟩:=hr84
 obtain ⟨rfl,hr85⟩:=hr85
 refine mixE.load hM (v:=.agg #[iv x71.1,iv x71.2.1,iv x71.2.2]) (fun _ hF=>ld_agg isAgg23 sizeOf23 rfl rfl (fun j u hu=>hF.cell (hc75 j u hu) (off2 ho77)))<|mp (iv (d.length:Int)) (pu_move e6)<|mp (iv c) (pu_move e7) ?_
 obtain ⟨z86,h87,hb⟩:=bd hb
 refine mp (iv z86) (pu_addc (a:=(d.length:Int)) (b:=c) rfl rfl h87)<|mp (iv (d.length:Int)) (pu_move e6)<|mp (iv (Int.tmod z64 (x19.length:Int))) (pu_move e9) ?_
 obtain ⟨z88,h89,hb⟩:=bd hb
 refine mp (iv z88) (pu_addc (a:=(d.length:Int)) (b:=(Int.tmod z64 (x19.length:Int))) rfl rfl h89)<|mp (.agg #[iv x45.1,iv x45.2.1,iv x45.2.2,iv x71.1,iv x71.2.1,iv x71.2.2,iv z86,iv z88]) (pu_builds (places:=[(0,3),(3,3),(6,1),(7,1)]) (pv:=[(0,.agg #[iv x45.1,iv x45.2.1,iv x45.2.2]),(1,.agg #[iv x71.1,iv x71.2.1,iv x71.2.2]),(2,iv z86),(3,iv z88)]) type105 underlying105 rfl (mp_cons type23 (mp_cons type23 (mp_cons type3 (mp_cons type3 mp_nil rfl rfl) rfl rfl) rfl rfl) rfl rfl) rfl (by simp [Instr.fill,Value.cells]))<|mixE.op hM (hC.lit (s:=(.pr (.pr si (.pr si si)) (.pr (.pr si (.pr si si)) (.pr si si)))) (vs:=[.agg #[iv x45.1,iv x45.2.1,iv x45.2.2,iv x71.1,iv x71.2.1,iv x71.2.2,iv z86,iv z88]]) (xs:=[((x45.1,(x45.2.1,x45.2.2)),((x71.1,(x71.2.1,x71.2.2)),(z86,z88)))]) underlying68 type105 rfl rfl (nb rfl) rfl rfl (by simp [Value.cells,Sh.n]) rfl (show Elems _ _ (.pr (.pr si (.pr si si)) (.pr (.pr si (.pr si si)) (.pr si si))) ([iv x45.1,iv x45.2.1,iv x45.2.2,iv x71.1,iv x71.2.1,iv x71.2.2,iv z86,iv z88]++([])) ([((x45.1,(x45.2.1,x45.2.2)),((x71.1,(x71.2.1,x71.2.2)),(z86,z88)))]:List ((Int×(Int×Int))×((Int×(Int×Int))×(Int×Int)))) from Elems.cons (⟨[iv x45.1,iv x45.2.1,iv x45.2.2],[iv x71.1,iv x71.2.1,iv x71.2.2,iv z86,iv z88],rfl,⟨[iv x45.1],[iv x45.2.1,iv x45.2.2],rfl,⟨rfl,I64.wr (wrap_I64 hr53)⟩,⟨[iv x45.2.1],[iv x45.2.2],rfl,⟨rfl,I64.wr (wrap_I64 hr57)⟩,⟨rfl,I64.wr (wrap_I64 hr58)⟩⟩⟩,⟨[iv x71.1,iv x71.2.1,iv x71.2.2],[iv z86,iv z88],rfl,⟨[iv x71.1],[iv x71.2.1,iv x71.2.2],rfl,⟨rfl,I64.wr (wrap_I64 hr80)⟩,⟨[iv x71.2.1],[iv x71.2.2],rfl,⟨rfl,I64.wr (wrap_I64 hr84)⟩,⟨rfl,I64.wr (wrap_I64 hr85)⟩⟩⟩,⟨[iv z86],[iv z88],rfl,⟨rfl,I64.wr (chk_rng h87)⟩,⟨rfl,I64.wr (chk_rng h89)⟩⟩⟩⟩) (Elems.nil _ _ _))) ?_
 rintro _ w94 ⟨A90,c91,rfl,hl92,hc93,hC,hF,hN⟩
 have hBf95:=Beside.new hM hN
 replace hM:=hM.none hF
 refine ⟨hM,?_⟩
 clear hF hN
 obtain ⟨u96,h97,hb⟩:=bd hb
 refine mixE.op hM (hC.app (i:=2) (s:=(.pr (.pr si (.pr si si)) (.pr (.pr si (.pr si si)) (.pr si si)))) (xs:=g) (ys:=([((x45.1,(x45.2.1,x45.2.2)),((x71.1,(x71.2.1,x71.2.2)),(z86,z88)))]:List ((Int×(Int×Int))×((Int×(Int×Int))×(Int×Int))))) (m:=((([((x45.1,(x45.2.1,x45.2.2)),((x71.1,(x71.2.1,x71.2.2)),(z86,z88)))]:List ((Int×(Int×Int))×((Int×(Int×Int))×(Int×Int))))).length)) rfl underlying68 underlying68 type105 rfl rfl rfl (hC.srco (i:=0) rfl) rfl rfl (by have:=lim_some h97; simp at this⊢ <;>omega) (by decide)) ?_
 rintro _ w102 ⟨A98,c99,rfl,hl100,hc101,hC,hF,hN⟩
 have hB:=G
 replace G:=hB.app hM hN
 replace hM:=hM.beside hB hF
 clear hB
 refine ⟨hM,?_⟩
 clear hF hN
 refine mp (.slice A98 ((g++([((x45.1,(x45.2.1,x45.2.2)),((x71.1,(x71.2.1,x71.2.2)),(z86,z88)))]:List ((Int×(Int×Int))×((Int×(Int×Int))×(Int×Int))))).length) c99) (pu_assign rfl)<|mixE.nil ?_
 clear hS hM
 refine hK43 _ _<|rg ?_
 obtain ⟨z103,h104,hb⟩:=bd hb
 refine lp (iv z103) (pu_addc (a:=c) (b:=1) e20 rfl h104)<|lp (iv z103) (pu_move rfl)<|ln ?_
 obtain rfl:=os hb
 exact hK35 m36' _ _ (Nat.lt_succ_self _) ⟨(g++([((x45.1,(x45.2.1,x45.2.2)),((x71.1,(x71.2.1,x71.2.2)),(z86,z88)))]:List ((Int×(Int×Int))×((Int×(Int×Int))×(Int×Int))))),z103,A98,(g++([((x45.1,(x45.2.1,x45.2.2)),((x71.1,(x71.2.1,x71.2.2)),(z86,z88)))]:List ((Int×(Int×Int))×((Int×(Int×Int))×(Int×Int))))).length,c99,e2,rfl,e5,e6,e10,e11,e12,e13,e18,e19,rfl,(chk_rng h104),hC.sE [2,3,4],lN hl1⟩
 replace hb:=tf hq42 hb
 refine Wc.exit rfl ?_
 obtain rfl:=os hb
 obtain rfl:=(lX hl1).symm
 exact hK34 _ _ ⟨g,c,h,g.length,l,e2,e3,e5,e6,e10,e11,e12,e13,e18,e19,e20,D,hC.sE [0,1,2],hbK1⟩
 clear hb hC hl1
 rintro E106 w105 ⟨g,c,h,z,l,e2,e3,e5,e6,e10,e11,e12,e13,e18,e19,e20,D,hC,hb⟩
 obtain ⟨rfl,M,N⟩:=(hC.ow (i:=0) rfl).sl_len
 refine hK17 _ _<|rg ?_
 obtain ⟨z107,h108,hb⟩:=bd hb
 refine lp (iv z107) (pu_addc (a:=f) (b:=1) e12 rfl h108)<|lp (iv z107) (pu_move rfl)<|ln ?_
 obtain rfl:=os hb
 exact hK9 m10' _ _ (Nat.lt_succ_self _) ⟨g,z107,h,g.length,l,e2,e3,e10,e11,rfl,(chk_rng h108),hC.sE [0,2],lN hl0⟩
 replace hb:=tf hq16 hb
 refine Wc.exit rfl ?_
 obtain rfl:=os hb
 obtain rfl:=(lX hl0).symm
 exact hK8 _ _ ⟨d,f,o,d.length,p,e2,e3,C,hC.sE [0],hbK0⟩
 clear hb hC hl0
 rintro E110 w109 ⟨d,f,o,y,p,e2,e3,C,hC,hb⟩
 subst hf7
 obtain ⟨rfl,K,L⟩:=(hC.ow (i:=0) rfl).sl_len
 refine hK4 _ _<|Wc.seq fun _ hK111=>rg<|lp _ (pu_move e3)<|lp (.slice o d.length p) (pu_assign rfl)<|ln (hK111 _ _ ?_)
 obtain rfl:=os hb
 refine Wc.ret (hKR _ _ ?_)
 refine ⟨_,res1 results52 (tV (.slice o d.length p) rfl),_,rfl,o,d.length,p,rfl,hC.sE [0]⟩

theorem polygon_turn_ok (n:Nat) {w:World} {O0:List Nat} (hO: ∀k∈O0,k<w.heap.size) {c:Int} (p:I64 c) {d:Int} (q:I64 d) {l:Int} (s:I64 l) {f:Int} (t:I64 f) {g:Int} (u:I64 g) {m:Int} (x:I64 m) {h:Int} (y:I64 h) {j:Int} (z:I64 j) {o:Int} (A:I64 o) {r:Int} (hb:F.polygon_turn n c d l f g m h j o=some r):
    Calls prog 44 #[.agg #[iv c,iv d,iv l],.agg #[iv f,iv g,iv m],.agg #[iv h,iv j,iv o]] w fun e w'=> ∃v,e=.returned v∧v=iv r∧I64 r∧Cx (fun _=>False) O0 w w' []:=by
 unfold F.polygon_turn at hb
 have hC:=Cx.start hO
 clear hO
 refine calls_of_Wc func44 rfl (by rw [ntmps44]; exact nb rfl) fun KR hKR=>?_
 refine Wc.seq fun _ hK1=>rg<|lex.op (hC.box (cs:=[iv c,iv d,iv l]) rfl rfl) ?_
 rintro _ w3 ⟨g2,rfl,hC,hF,-⟩
 refine lex.op (hC.box (cs:=[iv f,iv g,iv m]) rfl rfl) ?_
 rintro _ w6 ⟨g5,rfl,hC,hF,-⟩
 refine lex.op (hC.box (cs:=[iv h,iv j,iv o]) rfl rfl) ?_
 rintro _ w9 ⟨g8,rfl,hC,hF,-⟩
 refine lp (iv 0) (pu_assign rfl)<|ln (hK1 _ _ ?_)
 refine Wc.seq fun _ hK11=>rg<|lp (.pointer (some ((⟨g5,0,none⟩:Addr).add 0))) (pu_field (sz:=1) underlying23 rfl sizeOf3 (by decide) rfl rfl)<|lv (iv f) (ld_fld (hC.bx (i:=1) rfl) isAgg3 rfl rfl)<|lp (.pointer (some ((⟨g2,0,none⟩:Addr).add 0))) (pu_field (sz:=1) underlying23 rfl sizeOf3 (by decide) rfl rfl)<|lv (iv c) (ld_fld (hC.bx (i:=2) rfl) isAgg3 rfl rfl) ?_
 obtain ⟨z12,h13,hb⟩:=bd hb
 refine lp (iv z12) (pu_subc (a:=f) (b:=c) rfl rfl h13)<|lp (.pointer (some ((⟨g8,0,none⟩:Addr).add 1))) (pu_field (sz:=1) underlying23 rfl sizeOf3 (by decide) rfl rfl)<|lv (iv j) (ld_fld (hC.bx (i:=0) rfl) isAgg3 rfl rfl)<|lp (.pointer (some ((⟨g2,0,none⟩:Addr).add 1))) (pu_field (sz:=1) underlying23 rfl sizeOf3 (by decide) rfl rfl)<|lv (iv d) (ld_fld (hC.bx (i:=2) rfl) isAgg3 rfl rfl) ?_
 obtain ⟨z14,h15,hb⟩:=bd hb
 refine lp (iv z14) (pu_subc (a:=j) (b:=d) rfl rfl h15) ?_
 obtain ⟨z16,h17,hb⟩:=bd hb
 refine lp (iv z16) (pu_mulc (a:=z12) (b:=z14) rfl rfl h17)<|lp (.pointer (some ((⟨g5,0,none⟩:Addr).add 1))) (pu_field (sz:=1) underlying23 rfl sizeOf3 (by decide) rfl rfl)<|lv (iv g) (ld_fld (hC.bx (i:=1) rfl) isAgg3 rfl rfl)<|lp (.pointer (some ((⟨g2,0,none⟩:Addr).add 1))) (pu_field (sz:=1) underlying23 rfl sizeOf3 (by decide) rfl rfl)<|lv (iv d) (ld_fld (hC.bx (i:=2) rfl) isAgg3 rfl rfl) ?_
 obtain ⟨z18,h19,hb⟩:=bd hb
 refine lp (iv z18) (pu_subc (a:=g) (b:=d) rfl rfl h19)<|lp (.pointer (some ((⟨g8,0,none⟩:Addr).add 0))) (pu_field (sz:=1) underlying23 rfl sizeOf3 (by decide) rfl rfl)<|lv (iv h) (ld_fld (hC.bx (i:=0) rfl) isAgg3 rfl rfl)<|lp (.pointer (some ((⟨g2,0,none⟩:Addr).add 0))) (pu_field (sz:=1) underlying23 rfl sizeOf3 (by decide) rfl rfl)<|lv (iv c) (ld_fld (hC.bx (i:=2) rfl) isAgg3 rfl rfl) ?_
 obtain ⟨z20,h21,hb⟩:=bd hb
 refine lp (iv z20) (pu_subc (a:=h) (b:=c) rfl rfl h21) ?_
 obtain ⟨z22,h23,hb⟩:=bd hb
 refine lp (iv z22) (pu_mulc (a:=z18) (b:=z20) rfl rfl h23) ?_
 obtain ⟨z24,h25,hb⟩:=bd hb
 refine lp (iv z24) (pu_subc (a:=z16) (b:=z22) rfl rfl h25)<|lp (iv z24) (pu_assign rfl)<|ln (hK11 _ _ ?_)
 obtain rfl:=os hb
 refine Wc.ret (hKR _ _ ?_)
 refine ⟨_,res1 results44 (tV (iv z24) rfl),_,rfl,rfl,(chk_rng h25),hC.sE []⟩

theorem polygon_on_ok (n:Nat) {w:World} {O0:List Nat} (hO: ∀k∈O0,k<w.heap.size) {c:Int} (p:I64 c) {g:Int} (s:I64 g) {l:Int} (t:I64 l) {d:Int} (u:I64 d) {h:Int} (x:I64 h) {m:Int} (y:I64 m) {f:Int} (z:I64 f) {j:Int} (A:I64 j) {o:Int} (B:I64 o) {r:Bool} (hb:F.polygon_on n c g l d h m f j o=some r):
    Calls prog 46 #[.agg #[iv c,iv g,iv l],.agg #[iv d,iv h,iv m],.agg #[iv f,iv j,iv o]] w fun e w'=> ∃v,e=.returned v∧v=.bool r∧Cx (fun _=>False) O0 w w' []:=by
 unfold F.polygon_on at hb
 have hC:=Cx.start hO
 clear hO
 refine calls_of_Wc func46 rfl (by rw [ntmps46]; exact nb rfl) fun KR hKR=>?_
 refine Wc.seq fun _ hK1=>rg<|lex.op (hC.box (cs:=[iv c,iv g,iv l]) rfl rfl) ?_
 rintro _ w3 ⟨g2,rfl,hC,hF,-⟩
 refine lex.op (hC.box (cs:=[iv d,iv h,iv m]) rfl rfl) ?_
 rintro _ w6 ⟨g5,rfl,hC,hF,-⟩
 refine lex.op (hC.box (cs:=[iv f,iv j,iv o]) rfl rfl) ?_
 rintro _ w9 ⟨g8,rfl,hC,hF,-⟩
 refine lp (.bool false) (pu_assign rfl)<|ln (hK1 _ _ ?_)
 refine Wc.seq fun _ hK11=>rg<|lv (.agg #[iv c,iv g,iv l]) (ld_blk (hC.bx (i:=2) rfl) isAgg23 sizeOf23 rfl)<|lv (.agg #[iv d,iv h,iv m]) (ld_blk (hC.bx (i:=1) rfl) isAgg23 sizeOf23 rfl)<|lv (.agg #[iv f,iv j,iv o]) (ld_blk (hC.bx (i:=0) rfl) isAgg23 sizeOf23 rfl) ?_
 obtain ⟨y12,h13,hb⟩:=bd hb
 refine lex.cl (⟨_,_,op_call (vs:=[.agg #[iv c,iv g,iv l],.agg #[iv d,iv h,iv m],.agg #[iv f,iv j,iv o]]) call44 rfl rfl rfl,polygon_turn_ok n hC.lt p s t u x y z A B h13⟩) ?_
 rintro _ w15 ⟨rfl,hr14,hK⟩
 replace hC:=hC.merge hK
 clear hK
 refine lp (.bool (decide (y12=0))) (pu_eql (k:=.i64) (a:=y12) (b:=0) rfl rfl)<|lp (.bool (decide (y12=0))) (pu_move rfl) ?_
 rcases bS (decide (y12=0)) with hq16 | hq16
 replace hb:=tt hq16 hb
 refine gp rfl rfl (decide (y12=0)) rfl hq16 (.pointer (some ((⟨g2,0,none⟩:Addr).add 0))) (pu_field (sz:=1) underlying23 rfl sizeOf3 (by decide) rfl rfl)<|gv rfl rfl (decide (y12=0)) rfl hq16 (iv c) (ld_fld (hC.bx (i:=2) rfl) isAgg3 rfl rfl)<|gp rfl rfl (decide (y12=0)) rfl hq16 (.pointer (some ((⟨g5,0,none⟩:Addr).add 0))) (pu_field (sz:=1) underlying23 rfl sizeOf3 (by decide) rfl rfl)<|gv rfl rfl (decide (y12=0)) rfl hq16 (iv d) (ld_fld (hC.bx (i:=1) rfl) isAgg3 rfl rfl)<|gp rfl rfl (decide (y12=0)) rfl hq16 (iv (min c d)) (pu_min (a:=c) (b:=d) rfl rfl)<|gp rfl rfl (decide (y12=0)) rfl hq16 (.pointer (some ((⟨g8,0,none⟩:Addr).add 0))) (pu_field (sz:=1) underlying23 rfl sizeOf3 (by decide) rfl rfl)<|gv rfl rfl (decide (y12=0)) rfl hq16 (iv f) (ld_fld (hC.bx (i:=0) rfl) isAgg3 rfl rfl)<|gp rfl rfl (decide (y12=0)) rfl hq16 (.bool (decide ((min c d)≤f))) (pu_leq (k:=.i64) (a:=(min c d)) (b:=f) rfl rfl)<|lp (.bool (decide ((min c d)≤f))) (pu_pickT (q:=(decide (y12=0))) rfl hq16 rfl)<|lp (.bool (decide ((min c d)≤f))) (pu_move rfl) ?_
 rcases bS (decide ((min c d)≤f)) with hq17 | hq17
 replace hb:=tt hq17 hb
 refine gp rfl rfl (decide ((min c d)≤f)) rfl hq17 (.pointer (some ((⟨g8,0,none⟩:Addr).add 0))) (pu_field (sz:=1) underlying23 rfl sizeOf3 (by decide) rfl rfl)<|gv rfl rfl (decide ((min c d)≤f)) rfl hq17 (iv f) (ld_fld (hC.bx (i:=0) rfl) isAgg3 rfl rfl)<|gp rfl rfl (decide ((min c d)≤f)) rfl hq17 (.pointer (some ((⟨g2,0,none⟩:Addr).add 0))) (pu_field (sz:=1) underlying23 rfl sizeOf3 (by decide) rfl rfl)<|gv rfl rfl (decide ((min c d)≤f)) rfl hq17 (iv c) (ld_fld (hC.bx (i:=2) rfl) isAgg3 rfl rfl)<|gp rfl rfl (decide ((min c d)≤f)) rfl hq17 (.pointer (some ((⟨g5,0,none⟩:Addr).add 0))) (pu_field (sz:=1) underlying23 rfl sizeOf3 (by decide) rfl rfl)<|gv rfl rfl (decide ((min c d)≤f)) rfl hq17 (iv d) (ld_fld (hC.bx (i:=1) rfl) isAgg3 rfl rfl)<|gp rfl rfl (decide ((min c d)≤f)) rfl hq17 (iv (max c d)) (pu_max (a:=c) (b:=d) rfl rfl)<|gp rfl rfl (decide ((min c d)≤f)) rfl hq17 (.bool (decide (f≤(max c d)))) (pu_leq (k:=.i64) (a:=f) (b:=(max c d)) rfl rfl)<|lp (.bool (decide (f≤(max c d)))) (pu_pickT (q:=(decide ((min c d)≤f))) rfl hq17 rfl)<|lp (.bool (decide (f≤(max c d)))) (pu_move rfl) ?_
 rcases bS (decide (f≤(max c d))) with hq18 | hq18
 replace hb:=tt hq18 hb
 refine gp rfl rfl (decide (f≤(max c d))) rfl hq18 (.pointer (some ((⟨g2,0,none⟩:Addr).add 1))) (pu_field (sz:=1) underlying23 rfl sizeOf3 (by decide) rfl rfl)<|gv rfl rfl (decide (f≤(max c d))) rfl hq18 (iv g) (ld_fld (hC.bx (i:=2) rfl) isAgg3 rfl rfl)<|gp rfl rfl (decide (f≤(max c d))) rfl hq18 (.pointer (some ((⟨g5,0,none⟩:Addr).add 1))) (pu_field (sz:=1) underlying23 rfl sizeOf3 (by decide) rfl rfl)<|gv rfl rfl (decide (f≤(max c d))) rfl hq18 (iv h) (ld_fld (hC.bx (i:=1) rfl) isAgg3 rfl rfl)<|gp rfl rfl (decide (f≤(max c d))) rfl hq18 (iv (min g h)) (pu_min (a:=g) (b:=h) rfl rfl)<|gp rfl rfl (decide (f≤(max c d))) rfl hq18 (.pointer (some ((⟨g8,0,none⟩:Addr).add 1))) (pu_field (sz:=1) underlying23 rfl sizeOf3 (by decide) rfl rfl)<|gv rfl rfl (decide (f≤(max c d))) rfl hq18 (iv j) (ld_fld (hC.bx (i:=0) rfl) isAgg3 rfl rfl)<|gp rfl rfl (decide (f≤(max c d))) rfl hq18 (.bool (decide ((min g h)≤j))) (pu_leq (k:=.i64) (a:=(min g h)) (b:=j) rfl rfl)<|lp (.bool (decide ((min g h)≤j))) (pu_pickT (q:=(decide (f≤(max c d)))) rfl hq18 rfl)<|lp (.bool (decide ((min g h)≤j))) (pu_move rfl) ?_
 rcases bS (decide ((min g h)≤j)) with hq19 | hq19
 replace hb:=tt hq19 hb
 refine gp rfl rfl (decide ((min g h)≤j)) rfl hq19 (.pointer (some ((⟨g8,0,none⟩:Addr).add 1))) (pu_field (sz:=1) underlying23 rfl sizeOf3 (by decide) rfl rfl)<|gv rfl rfl (decide ((min g h)≤j)) rfl hq19 (iv j) (ld_fld (hC.bx (i:=0) rfl) isAgg3 rfl rfl)<|gp rfl rfl (decide ((min g h)≤j)) rfl hq19 (.pointer (some ((⟨g2,0,none⟩:Addr).add 1))) (pu_field (sz:=1) underlying23 rfl sizeOf3 (by decide) rfl rfl)<|gv rfl rfl (decide ((min g h)≤j)) rfl hq19 (iv g) (ld_fld (hC.bx (i:=2) rfl) isAgg3 rfl rfl)<|gp rfl rfl (decide ((min g h)≤j)) rfl hq19 (.pointer (some ((⟨g5,0,none⟩:Addr).add 1))) (pu_field (sz:=1) underlying23 rfl sizeOf3 (by decide) rfl rfl)<|gv rfl rfl (decide ((min g h)≤j)) rfl hq19 (iv h) (ld_fld (hC.bx (i:=1) rfl) isAgg3 rfl rfl)<|gp rfl rfl (decide ((min g h)≤j)) rfl hq19 (iv (max g h)) (pu_max (a:=g) (b:=h) rfl rfl)<|gp rfl rfl (decide ((min g h)≤j)) rfl hq19 (.bool (decide (j≤(max g h)))) (pu_leq (k:=.i64) (a:=j) (b:=(max g h)) rfl rfl)<|lp (.bool (decide (j≤(max g h)))) (pu_pickT (q:=(decide ((min g h)≤j))) rfl hq19 rfl)<|lp (.bool (decide (j≤(max g h)))) (pu_assign rfl)<|ln (hK11 _ _ ?_)
 obtain rfl:=os hb
 refine Wc.ret (hKR _ _ ?_)
 refine ⟨_,res1 results46 (tV (.bool (decide (j≤(max g h)))) rfl),_,rfl,rfl,hC.sE []⟩
 replace hb:=tf hq19 hb
 refine gs rfl rfl (decide ((min g h)≤j)) rfl hq19<|gs rfl rfl (decide ((min g h)≤j)) rfl hq19<|gs rfl rfl (decide ((min g h)≤j)) rfl hq19<|gs rfl rfl (decide ((min g h)≤j)) rfl hq19<|gs rfl rfl (decide ((min g h)≤j)) rfl hq19<|gs rfl rfl (decide ((min g h)≤j)) rfl hq19<|gs rfl rfl (decide ((min g h)≤j)) rfl hq19<|gs rfl rfl (decide ((min g h)≤j)) rfl hq19<|lp (.bool false) (pu_pickF (q:=(decide ((min g h)≤j))) rfl hq19 rfl)<|lp (.bool false) (pu_assign rfl)<|ln (hK11 _ _ ?_)
 obtain rfl:=os hb
 refine Wc.ret (hKR _ _ ?_)
 refine ⟨_,res1 results46 (tV (.bool false) rfl),_,rfl,rfl,hC.sE []⟩
 replace hb:=tf hq18 hb
 refine gs rfl rfl (decide (f≤(max c d))) rfl hq18<|gs rfl rfl (decide (f≤(max c d))) rfl hq18<|gs rfl rfl (decide (f≤(max c d))) rfl hq18<|gs rfl rfl (decide (f≤(max c d))) rfl hq18<|gs rfl rfl (decide (f≤(max c d))) rfl hq18<|gs rfl rfl (decide (f≤(max c d))) rfl hq18<|gs rfl rfl (decide (f≤(max c d))) rfl hq18<|gs rfl rfl (decide (f≤(max c d))) rfl hq18<|lp (.bool false) (pu_pickF (q:=(decide (f≤(max c d)))) rfl hq18 rfl)<|lp (.bool false) (pu_move rfl)<|gs rfl rfl false rfl rfl<|gs rfl rfl false rfl rfl<|gs rfl rfl false rfl rfl<|gs rfl rfl false rfl rfl<|gs rfl rfl false rfl rfl<|gs rfl rfl false rfl rfl<|gs rfl rfl false rfl rfl<|gs rfl rfl false rfl rfl<|lp (.bool false) (pu_pickF (q:=false) rfl rfl rfl)<|lp (.bool false) (pu_assign rfl)<|ln (hK11 _ _ ?_)
 obtain rfl:=os hb
 refine Wc.ret (hKR _ _ ?_)
 refine ⟨_,res1 results46 (tV (.bool false) rfl),_,rfl,rfl,hC.sE []⟩
 replace hb:=tf hq17 hb
 refine gs rfl rfl (decide ((min c d)≤f)) rfl hq17<|gs rfl rfl (decide ((min c d)≤f)) rfl hq17<|gs rfl rfl (decide ((min c d)≤f)) rfl hq17<|gs rfl rfl (decide ((min c d)≤f)) rfl hq17<|gs rfl rfl (decide ((min c d)≤f)) rfl hq17<|gs rfl rfl (decide ((min c d)≤f)) rfl hq17<|gs rfl rfl (decide ((min c d)≤f)) rfl hq17<|gs rfl rfl (decide ((min c d)≤f)) rfl hq17<|lp (.bool false) (pu_pickF (q:=(decide ((min c d)≤f))) rfl hq17 rfl)<|lp (.bool false) (pu_move rfl)<|gs rfl rfl false rfl rfl<|gs rfl rfl false rfl rfl<|gs rfl rfl false rfl rfl<|gs rfl rfl false rfl rfl<|gs rfl rfl false rfl rfl<|gs rfl rfl false rfl rfl<|gs rfl rfl false rfl rfl<|gs rfl rfl false rfl rfl<|lp (.bool false) (pu_pickF (q:=false) rfl rfl rfl)<|lp (.bool false) (pu_move rfl)<|gs rfl rfl false rfl rfl<|gs rfl rfl false rfl rfl<|gs rfl rfl false rfl rfl<|gs rfl rfl false rfl rfl<|gs rfl rfl false rfl rfl<|gs rfl rfl false rfl rfl<|gs rfl rfl false rfl rfl<|gs rfl rfl false rfl rfl<|lp (.bool false) (pu_pickF (q:=false) rfl rfl rfl)<|lp (.bool false) (pu_assign rfl)<|ln (hK11 _ _ ?_)
 obtain rfl:=os hb
 refine Wc.ret (hKR _ _ ?_)
 refine ⟨_,res1 results46 (tV (.bool false) rfl),_,rfl,rfl,hC.sE []⟩
 replace hb:=tf hq16 hb
 refine gs rfl rfl (decide (y12=0)) rfl hq16<|gs rfl rfl (decide (y12=0)) rfl hq16<|gs rfl rfl (decide (y12=0)) rfl hq16<|gs rfl rfl (decide (y12=0)) rfl hq16<|gs rfl rfl (decide (y12=0)) rfl hq16<|gs rfl rfl (decide (y12=0)) rfl hq16<|gs rfl rfl (decide (y12=0)) rfl hq16<|gs rfl rfl (decide (y12=0)) rfl hq16<|lp (.bool false) (pu_pickF (q:=(decide (y12=0))) rfl hq16 rfl)<|lp (.bool false) (pu_move rfl)<|gs rfl rfl false rfl rfl<|gs rfl rfl false rfl rfl<|gs rfl rfl false rfl rfl<|gs rfl rfl false rfl rfl<|gs rfl rfl false rfl rfl<|gs rfl rfl false rfl rfl<|gs rfl rfl false rfl rfl<|gs rfl rfl false rfl rfl<|lp (.bool false) (pu_pickF (q:=false) rfl rfl rfl)<|lp (.bool false) (pu_move rfl)<|gs rfl rfl false rfl rfl<|gs rfl rfl false rfl rfl<|gs rfl rfl false rfl rfl<|gs rfl rfl false rfl rfl<|gs rfl rfl false rfl rfl<|gs rfl rfl false rfl rfl<|gs rfl rfl false rfl rfl<|gs rfl rfl false rfl rfl<|lp (.bool false) (pu_pickF (q:=false) rfl rfl rfl)<|lp (.bool false) (pu_move rfl)<|gs rfl rfl false rfl rfl<|gs rfl rfl false rfl rfl<|gs rfl rfl false rfl rfl<|gs rfl rfl false rfl rfl<|gs rfl rfl false rfl rfl<|gs rfl rfl false rfl rfl<|gs rfl rfl false rfl rfl<|gs rfl rfl false rfl rfl<|lp (.bool false) (pu_pickF (q:=false) rfl rfl rfl)<|lp (.bool false) (pu_assign rfl)<|ln (hK11 _ _ ?_)
 obtain rfl:=os hb
 refine Wc.ret (hKR _ _ ?_)
 refine ⟨_,res1 results46 (tV (.bool false) rfl),_,rfl,rfl,hC.sE []⟩
end Go.Proofs.Yteajmbanlohncaa
