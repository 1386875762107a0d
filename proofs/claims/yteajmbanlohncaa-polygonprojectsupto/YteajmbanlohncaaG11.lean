import Derived.Test.YteajmbanlohncaaS
import Derived.Test.YteajmbanlohncaaG7
set_option linter.unusedVariables false
set_option linter.unusedSimpArgs false
namespace Go.Proofs.Yteajmbanlohncaa
open Ev Try
set_option maxRecDepth 100000
set_option maxHeartbeats 4000000
theorem ref46_Valid_ok (n:Nat) {w:World} {O0:List Nat} (hO: ∀k∈O0,k<w.heap.size) {j:Option Addr} {s h:Nat} {d:List (List (Int×(Int×Int)))} (u:Rep O0 w (.sl (.sl (.pr si (.pr si si)))) [.slice j s h] d) {r:Bool} (hb:F.ref46_Valid n d=some r):
    Calls prog 16 #[.slice j s h] w fun e w'=> ∃v,e=.returned v∧v=.bool r∧Cx (fun _=>False) O0 w w' []:=by
 unfold F.ref46_Valid at hb
 have hC:=Cx.start hO
 replace hC:=hC.arg rfl u
 clear hO
 obtain ⟨rfl,x,y⟩:=u.sl_len
 refine calls_of_Wc func16 rfl (by rw [ntmps16]; exact nb rfl) fun KR hKR=>?_
 refine Wc.seq fun _ hK2=>rg<|lp (.bool false) (pu_assign rfl)<|ln (hK2 _ _ ?_)
 refine Wc.seq fun _ hK3=>rg<|lp (iv 0) (pu_assign rfl)<|ln (hK3 _ _ ?_)
 refine Wc.seq fun _ hK4=>?_
 refine Wc.seq fun _ hK5=>rg<|lp (iv 0) (pu_assign rfl)<|ln (hK5 _ _ ?_)
 obtain ⟨o6,hl0,hb⟩:=bd hb
 refine Wc.cut (fun E wv=> ∃(f:Int) (c:Int),E 2=.bool false∧E 3=iv f∧I64 f∧I64 c∧Cx (fun _=>False) O0 w wv []∧(some (decide (f≤100)):Option (Bool))=some r) (fun _ hK7=>?_) ?_
 refine Wc.block ?_
 refine Wc.loop (fun m E wv=> ∃(f:Int) (c:Int),E 0=.slice j d.length h∧E 2=.bool false∧E 3=iv f∧E 4=iv c∧I64 f∧I64 c∧Cx (fun _=>False) O0 w wv [.ro (.sl (.sl (.pr si (.pr si si)))) [.slice j d.length h] d]∧loopN m (F.ref46_Valid_b0 n d) (f,c)=some o6) n ⟨0,0,rfl,rfl,rfl,rfl,(show I64 0 from by unfold I64; omega),(show I64 0 from by unfold I64; omega),hC.sE [0],hl0⟩ ?_
 have hbK0:=hb
 clear hb hC hl0
 rintro m9 E11 w10 ⟨f,c,e0,e2,e3,e4,l,o,hC,hl0⟩ K8 hK8
 obtain ⟨m9',o12,rfl,hb,hl0⟩:=loopN_some hl0
 unfold F.ref46_Valid_b0 at hb
 refine Wc.seq fun _ hK13=>?_
 refine Wc.seq fun _ hK14=>rg<|lp _ (pu_move e4)<|lp _ (pu_move e0)<|lp (iv (d.length:Int)) (pu_len (A:=j) (n:=d.length) (m:=h) underlying28 rfl)<|lp (.bool (decide (c<(d.length:Int)))) (pu_lss (k:=.i64) (a:=c) (b:=(d.length:Int)) rfl rfl)<|ln (hK14 _ _ ?_)
 refine Wc.cond (t:=(decide (c<(d.length:Int)))) (rfl) (fun hq15=>?_) (fun hq15=>?_)
 replace hb:=tt hq15 hb
 refine Wc.skip (hK13 _ _ ?_)
 refine Wc.seq fun _ hK16=>?_
 refine Wc.block ?_
 refine Wc.seq fun _ hK17=>?_
 refine Wc.seq fun _ hK18=>rg<|lp _ (pu_move e0)<|lp _ (pu_move e4) ?_
 obtain ⟨x19,h20,hb⟩:=bd hb
 obtain ⟨ad21,cs22,hA,hc23,hr24⟩:=hC.elr (i:=0) rfl (get_some h20).2
 subst hA
 refine lp (.pointer (some (ad21.add (c.toNat*1)))) (pu_index (a:=c) underlying28 sizeOf43 rfl rfl (get_some h20).1) ?_
 have hR:=hr24
 obtain ⟨A25,c26,rfl,hl27,hc28,_⟩:=hr24
 replace hC:=hC.ro hR
 clear hR
 refine lv (.slice A25 x19.length c26) (ld_one isAgg43 rfl (hc23 0 _ rfl))<|lp (iv (x19.length:Int)) (pu_len (A:=A25) (n:=x19.length) (m:=c26) underlying43 rfl)<|lp (.bool (decide ((x19.length:Int)<3))) (pu_lss (k:=.i64) (a:=(x19.length:Int)) (b:=3) rfl rfl)<|ln (hK18 _ _ ?_)
 refine Wc.cond (t:=(decide ((x19.length:Int)<3))) (rfl) (fun hq30=>?_) (fun hq30=>?_)
 replace hb:=tt hq30 hb
 refine Wc.seq fun _ hK31=>rg<|lp (.bool false) (pu_assign rfl)<|ln (hK31 _ _ ?_)
 obtain rfl:=os hb
 obtain rfl:=(lX hl0).symm
 replace hb:=hbK0
 obtain rfl:=os hb
 refine Wc.ret (hKR _ _ ?_)
 refine ⟨_,res1 results16 (tV (.bool false) rfl),_,rfl,rfl,hC.sE []⟩
 replace hb:=tf hq30 hb
 refine Wc.skip (hK17 _ _ ?_)
 refine Wc.fresh fun E32 hE=>?_
 have e0:=cg hE 0 e0
 have e2:=cg hE 2 e2
 have e3:=cg hE 3 e3
 have e4:=cg hE 4 e4
 have e9:E32 9=.bool (decide (c<(d.length:Int))):=cg hE 9 rfl
 have e17:E32 17=.bool (decide ((x19.length:Int)<3)):=cg hE 17 rfl
 clear hE
 refine Wc.seq fun _ hK33=>rg<|lp _ (pu_move e3)<|lp _ (pu_move e0)<|lp _ (pu_move e4) ?_
 obtain ⟨x34,h35,hb⟩:=bd hb
 obtain ⟨ad36,cs37,hA,hc38,hr39⟩:=hC.elr (i:=1) rfl (get_some h35).2
 obtain rfl:=Option.some.inj hA
 refine lp (.pointer (some (ad21.add (c.toNat*1)))) (pu_index (a:=c) underlying28 sizeOf43 rfl rfl (get_some h35).1) ?_
 have hR:=hr39
 obtain ⟨A40,c41,rfl,hl42,hc43,_⟩:=hr39
 replace hC:=hC.ro hR
 clear hR
 refine lv (.slice A40 x34.length c41) (ld_one isAgg43 rfl (hc38 0 _ rfl))<|lp (iv (x34.length:Int)) (pu_len (A:=A40) (n:=x34.length) (m:=c41) underlying43 rfl) ?_
 obtain ⟨z45,h46,hb⟩:=bd hb
 refine lp (iv z45) (pu_addc (a:=f) (b:=(x34.length:Int)) rfl rfl h46)<|lp (iv z45) (pu_assign rfl)<|ln (hK33 _ _ ?_)
 refine Wc.seq fun _ hK47=>rg<|lp (iv 0) (pu_assign rfl)<|ln (hK47 _ _ ?_)
 obtain ⟨o48,hl1,hb⟩:=bd hb
 refine Wc.cut (fun E wv=> ∃(g:Int),E 0=.slice (some ad21) d.length h∧E 2=.bool false∧E 3=iv z45∧E 4=iv c∧E 5=iv g∧E 9=.bool (decide (c<(d.length:Int)))∧E 17=.bool (decide ((x19.length:Int)<3))∧I64 g∧Cx (fun _=>False) O0 w wv [.ro (.sl (.sl (.pr si (.pr si si)))) [.slice (some ad21) d.length h] d]∧((chk (c+1)).bind fun z105=>some (.inl (z45,z105)):Option ((Int×Int)⊕((Int×Int)⊕(Bool))))=some o12) (fun _ hK49=>?_) ?_
 refine Wc.block ?_
 refine Wc.loop (fun m E wv=> ∃(g:Int),E 0=.slice (some ad21) d.length h∧E 2=.bool false∧E 3=iv z45∧E 4=iv c∧E 5=iv g∧E 9=.bool (decide (c<(d.length:Int)))∧E 17=.bool (decide ((x19.length:Int)<3))∧I64 g∧Cx (fun _=>False) O0 w wv [.ro (.sl (.sl (.pr si (.pr si si)))) [.slice (some ad21) d.length h] d]∧loopN m (F.ref46_Valid_b1 n d c) g=some o48) n ⟨0,e0,e2,rfl,e4,rfl,e9,e17,(show I64 0 from by unfold I64; omega),hC.sE [2],hl1⟩ ?_
 have hbK1:=hb
 clear hb hC hl1
 rintro m51 E53 w52 ⟨g,e0,e2,e3,e4,e5,e9,e17,p,hC,hl1⟩ K50 hK50
 obtain ⟨m51',o54,rfl,hb,hl1⟩:=loopN_some hl1
 unfold F.ref46_Valid_b1 at hb
 refine Wc.seq fun _ hK55=>?_
 refine Wc.seq fun _ hK56=>rg<|lp _ (pu_move e5)<|lp _ (pu_move e0)<|lp _ (pu_move e4) ?_
 obtain ⟨x57,h58,hb⟩:=bd hb
 obtain ⟨ad59,cs60,hA,hc61,hr62⟩:=hC.elr (i:=0) rfl (get_some h58).2
 obtain rfl:=Option.some.inj hA
 refine lp (.pointer (some (ad21.add (c.toNat*1)))) (pu_index (a:=c) underlying28 sizeOf43 rfl rfl (get_some h58).1) ?_
 have hR:=hr62
 obtain ⟨A63,c64,rfl,hl65,hc66,_⟩:=hr62
 replace hC:=hC.ro hR
 clear hR
 refine lv (.slice A63 x57.length c64) (ld_one isAgg43 rfl (hc61 0 _ rfl))<|lp (iv (x57.length:Int)) (pu_len (A:=A63) (n:=x57.length) (m:=c64) underlying43 rfl)<|lp (.bool (decide (g<(x57.length:Int)))) (pu_lss (k:=.i64) (a:=g) (b:=(x57.length:Int)) rfl rfl)<|ln (hK56 _ _ ?_)
 refine Wc.cond (t:=(decide (g<(x57.length:Int)))) (rfl) (fun hq68=>?_) (fun hq68=>?_)
 replace hb:=tt hq68 hb
 refine Wc.skip (hK55 _ _ ?_)
 refine Wc.seq fun _ hK69=>?_
 refine Wc.block<|Wc.seq fun _ hK70=>rg<|lp _ (pu_move e0)<|lp _ (pu_move e4) ?_
 obtain ⟨x71,h72,hb⟩:=bd hb
 obtain ⟨ad73,cs74,hA,hc75,hr76⟩:=hC.elr (i:=1) rfl (get_some h72).2
 obtain rfl:=Option.some.inj hA
 refine lp (.pointer (some (ad21.add (c.toNat*1)))) (pu_index (a:=c) underlying28 sizeOf43 rfl rfl (get_some h72).1) ?_
 have hR:=hr76
 obtain ⟨A77,c78,rfl,hl79,hc80,_⟩:=hr76
 replace hC:=hC.ro hR
 clear hR
 refine lv (.slice A77 x71.length c78) (ld_one isAgg43 rfl (hc75 0 _ rfl))<|lp _ (pu_move e5) ?_
 obtain ⟨x82,h83,hb⟩:=bd hb
 obtain ⟨ad84,cs85,hA,hc86,hr87⟩:=hC.elr (i:=0) rfl (get_some h83).2
 subst hA
 refine lp (.pointer (some (ad84.add (g.toNat*3)))) (pu_index (a:=g) underlying43 sizeOf23 rfl rfl (get_some h83).1) ?_
 obtain ⟨k88,k89,rfl,hr90,hr91⟩:=hr87
 obtain ⟨rfl,hr90⟩:=hr90
 obtain ⟨k92,k93,rfl,hr94,hr95⟩:=hr91
 obtain ⟨rfl,hr94⟩:=hr94
 obtain ⟨rfl,hr95⟩:=hr95
 refine lv (.agg #[iv x82.1,iv x82.2.1,iv x82.2.2]) (ld_agg isAgg23 sizeOf23 rfl rfl hc86) ?_
 obtain ⟨y96,h97,hb⟩:=bd hb
 refine lex.cl (⟨_,_,op_call (vs:=[.agg #[iv x82.1,iv x82.2.1,iv x82.2.2]]) call47 rfl rfl rfl,ref46_fits_ok n hC.lt (wrap_I64 hr90) (wrap_I64 hr94) (wrap_I64 hr95) h97⟩) ?_
 rintro _ w98 ⟨rfl,hK⟩
 replace hC:=hC.merge hK
 clear hK
 refine lp (.bool (!y96)) (pu_not (q:=y96) rfl)<|ln (hK70 _ _ ?_)
 refine Wc.cond (t:=(!y96)) (rfl) (fun hq99=>?_) (fun hq99=>?_)
 replace hb:=tt hq99 hb
 refine Wc.seq fun _ hK100=>rg<|lp (.bool false) (pu_assign rfl)<|ln (hK100 _ _ ?_)
 obtain rfl:=os hb
 obtain rfl:=(lX hl1).symm
 replace hb:=hbK1
 obtain rfl:=os hb
 obtain rfl:=(lX hl0).symm
 replace hb:=hbK0
 obtain rfl:=os hb
 refine Wc.ret (hKR _ _ ?_)
 refine ⟨_,res1 results16 (tV (.bool false) rfl),_,rfl,rfl,hC.sE []⟩
 replace hb:=tf hq99 hb
 refine Wc.skip (hK69 _ _ ?_)
 refine rg<|lp _ (pu_move e5) ?_
 obtain ⟨z101,h102,hb⟩:=bd hb
 refine lp (iv z101) (pu_addc (a:=g) (b:=1) rfl rfl h102)<|lp (iv z101) (pu_assign rfl)<|ln ?_
 obtain rfl:=os hb
 exact hK50 m51' _ _ (Nat.lt_succ_self _) ⟨z101,e0,e2,e3,e4,rfl,e9,e17,(chk_rng h102),hC.sE [2],lN hl1⟩
 replace hb:=tf hq68 hb
 refine Wc.exit rfl ?_
 obtain rfl:=os hb
 obtain rfl:=(lX hl1).symm
 exact hK49 _ _ ⟨g,e0,e2,e3,e4,e5,e9,e17,p,hC.sE [1],hbK1⟩
 clear hb hC hl1
 rintro E104 w103 ⟨g,e0,e2,e3,e4,e5,e9,e17,p,hC,hb⟩
 refine hK16 _ _<|rg<|lp _ (pu_move e4) ?_
 obtain ⟨z105,h106,hb⟩:=bd hb
 refine lp (iv z105) (pu_addc (a:=c) (b:=1) rfl rfl h106)<|lp (iv z105) (pu_assign rfl)<|ln ?_
 obtain rfl:=os hb
 exact hK8 m9' _ _ (Nat.lt_succ_self _) ⟨z45,z105,e0,e2,e3,rfl,(chk_rng h46),(chk_rng h106),hC.sE [0],lN hl0⟩
 replace hb:=tf hq15 hb
 refine Wc.exit rfl ?_
 obtain rfl:=os hb
 obtain rfl:=(lX hl0).symm
 exact hK7 _ _ ⟨f,c,e2,e3,l,o,hC.sE [],hbK0⟩
 clear hb hC hl0
 rintro E108 w107 ⟨f,c,e2,e3,l,o,hC,hb⟩
 refine hK4 _ _<|Wc.seq fun _ hK109=>rg<|lp _ (pu_move e3)<|lp (.bool (decide (f≤100))) (pu_leq (k:=.i64) (a:=f) (b:=100) rfl rfl)<|lp (.bool (decide (f≤100))) (pu_assign rfl)<|ln (hK109 _ _ ?_)
 obtain rfl:=os hb
 refine Wc.ret (hKR _ _ ?_)
 refine ⟨_,res1 results16 (tV (.bool (decide (f≤100))) rfl),_,rfl,rfl,hC.sE []⟩
end Go.Proofs.Yteajmbanlohncaa
