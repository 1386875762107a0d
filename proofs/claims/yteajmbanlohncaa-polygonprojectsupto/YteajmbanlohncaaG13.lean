import Derived.Test.YteajmbanlohncaaS
import Derived.Test.YteajmbanlohncaaG8
set_option linter.unusedVariables false
set_option linter.unusedSimpArgs false
namespace Go.Proofs.Yteajmbanlohncaa
open Ev Try
set_option maxRecDepth 100000
set_option maxHeartbeats 4000000
theorem ref46_Edges_ok (n:Nat) {w:World} {O0:List Nat} (hO: ∀k∈O0,k<w.heap.size) {y:Option Addr} {H x:Nat} {l:List (List (Int×(Int×Int)))} (J:Rep O0 w (.sl (.sl (.pr si (.pr si si)))) [.slice y H x] l) {r:(List (Int×(Int×((Int×(Int×Int))×(Int×(Int×Int))))))} (hb:F.ref46_Edges n l=some r):
    Calls prog 56 #[.slice y H x] w fun e w'=> ∃v,e=.returned v∧∃(A0:Option Addr) (m0 c0:Nat),v=.slice A0 m0 c0∧Cx (fun _=>False) O0 w w' [.own 82 (.pr si (.pr si (.pr (.pr si (.pr si si)) (.pr si (.pr si si))))) (.slice A0 m0 c0) r]:=by
 unfold F.ref46_Edges at hb
 have hC:=Cx.start hO
 replace hC:=hC.arg rfl J
 clear hO
 obtain ⟨rfl,P,Q⟩:=J.sl_len
 refine calls_of_Wc func56 rfl (by rw [ntmps56]; exact nb rfl) fun KR hKR=>?_
 refine Wc.seq fun _ hK2=>rg<|lp (.slice none 0 0) (pu_assign rfl)<|ln (hK2 _ _ ?_)
 refine Wc.seq fun _ hK3=>rg<|lp (.slice none 0 0) (pu_assign rfl)<|ln (hK3 _ _ ?_)
 refine Wc.seq fun _ hK4=>?_
 refine Wc.seq fun _ hK5=>rg<|lp (iv 0) (pu_assign rfl)<|ln (hK5 _ _ ?_)
 replace hC:=hC.nil 82 (.pr si (.pr si (.pr (.pr si (.pr si si)) (.pr si (.pr si si)))))
 obtain ⟨o7,hl0,f7,hf7,hb⟩:=bn hb
 refine Wc.cut (fun E wv=> ∃(q:List (Int×(Int×((Int×(Int×Int))×(Int×(Int×Int)))))) (c:Int) (o:Option Addr) (z p:Nat),E 2=.slice none 0 0∧E 3=.slice o z p∧I64 c∧Cx (fun _=>False) O0 w wv [.own 82 (.pr si (.pr si (.pr (.pr si (.pr si si)) (.pr si (.pr si si))))) (.slice o z p) q]∧f7 (q,c)=some r) (fun _ hK8=>?_) ?_
 refine Wc.block ?_
 refine Wc.loop (fun m E wv=> ∃(q:List (Int×(Int×((Int×(Int×Int))×(Int×(Int×Int)))))) (c:Int) (o:Option Addr) (z p:Nat),E 0=.slice y l.length x∧E 2=.slice none 0 0∧E 3=.slice o z p∧E 4=iv c∧I64 c∧Cx (fun _=>False) O0 w wv [.ro (.sl (.sl (.pr si (.pr si si)))) [.slice y l.length x] l,.own 82 (.pr si (.pr si (.pr (.pr si (.pr si si)) (.pr si (.pr si si))))) (.slice o z p) q]∧loopN m (F.ref46_Edges_b0 n l) (q,c)=some o7) n ⟨([]:List (Int×(Int×((Int×(Int×Int))×(Int×(Int×Int)))))),0,none,0,0,rfl,rfl,rfl,rfl,(show I64 0 from by unfold I64; omega),hC.sE [1,0],hl0⟩ ?_
 have hbK0:=hb
 clear hb hC hl0
 rintro m10 E12 w11 ⟨q,c,o,z,p,e0,e2,e3,e4,C,hC,hl0⟩ K9 hK9
 obtain ⟨m10',o13,rfl,hb,hl0⟩:=loopN_some hl0
 unfold F.ref46_Edges_b0 at hb
 obtain ⟨rfl,K,L⟩:=(hC.ow (i:=1) rfl).sl_len
 refine Wc.seq fun _ hK14=>?_
 refine Wc.seq fun _ hK15=>rg<|lp _ (pu_move e4)<|lp _ (pu_move e0)<|lp (iv (l.length:Int)) (pu_len (A:=y) (n:=l.length) (m:=x) underlying28 rfl)<|lp (.bool (decide (c<(l.length:Int)))) (pu_lss (k:=.i64) (a:=c) (b:=(l.length:Int)) rfl rfl)<|ln (hK15 _ _ ?_)
 refine Wc.cond (t:=(decide (c<(l.length:Int)))) (rfl) (fun hq16=>?_) (fun hq16=>?_)
 replace hb:=tt hq16 hb
 refine Wc.skip (hK14 _ _ ?_)
 refine Wc.seq fun _ hK17=>?_
 refine Wc.block<|Wc.seq fun _ hK18=>rg<|lp (iv 0) (pu_assign rfl)<|ln (hK18 _ _ ?_)
 obtain ⟨o19,hl1,hb⟩:=bd hb
 refine Wc.cut (fun E wv=> ∃(f:List (Int×(Int×((Int×(Int×Int))×(Int×(Int×Int)))))) (d:Int) (g:Option Addr) (B h:Nat),E 0=.slice y l.length x∧E 2=.slice none 0 0∧E 3=.slice g B h∧E 4=iv c∧E 5=iv d∧E 9=.bool (decide (c<(l.length:Int)))∧I64 d∧Cx (fun _=>False) O0 w wv [.ro (.sl (.sl (.pr si (.pr si si)))) [.slice y l.length x] l,.own 82 (.pr si (.pr si (.pr (.pr si (.pr si si)) (.pr si (.pr si si))))) (.slice g B h) f]∧((chk (c+1)).bind fun z130=>some (.inl (f,z130)):Option (((List (Int×(Int×((Int×(Int×Int))×(Int×(Int×Int))))))×Int)⊕(((List (Int×(Int×((Int×(Int×Int))×(Int×(Int×Int))))))×Int))))=some o13) (fun _ hK20=>?_) ?_
 refine Wc.block ?_
 refine Wc.loop (fun m E wv=> ∃(f:List (Int×(Int×((Int×(Int×Int))×(Int×(Int×Int)))))) (d:Int) (g:Option Addr) (B h:Nat),E 0=.slice y l.length x∧E 2=.slice none 0 0∧E 3=.slice g B h∧E 4=iv c∧E 5=iv d∧E 9=.bool (decide (c<(l.length:Int)))∧I64 d∧Cx (fun _=>False) O0 w wv [.ro (.sl (.sl (.pr si (.pr si si)))) [.slice y l.length x] l,.own 82 (.pr si (.pr si (.pr (.pr si (.pr si si)) (.pr si (.pr si si))))) (.slice g B h) f]∧loopN m (F.ref46_Edges_b1 n l c) (f,d)=some o19) n ⟨q,0,o,q.length,p,e0,e2,e3,e4,rfl,rfl,(show I64 0 from by unfold I64; omega),hC.sE [0,1],hl1⟩ ?_
 have hbK1:=hb
 clear hb hC hl1
 rintro m22 E24 w23 ⟨f,d,g,B,h,e0,e2,e3,e4,e5,e9,D,hC,hl1⟩ K21 hK21
 obtain ⟨m22',o25,rfl,hb,hl1⟩:=loopN_some hl1
 unfold F.ref46_Edges_b1 at hb
 obtain ⟨rfl,M,N⟩:=(hC.ow (i:=1) rfl).sl_len
 refine Wc.seq fun _ hK26=>?_
 refine Wc.seq fun _ hK27=>rg<|lp _ (pu_move e5)<|lp _ (pu_move e0)<|lp _ (pu_move e4) ?_
 obtain ⟨x28,h29,hb⟩:=bd hb
 obtain ⟨ad30,cs31,hA,hc32,hr33⟩:=hC.elr (i:=0) rfl (get_some h29).2
 subst hA
 refine lp (.pointer (some (ad30.add (c.toNat*1)))) (pu_index (a:=c) underlying28 sizeOf43 rfl rfl (get_some h29).1) ?_
 have hR:=hr33
 obtain ⟨A34,c35,rfl,hl36,hc37,_⟩:=hr33
 replace hC:=hC.ro hR
 clear hR
 refine lv (.slice A34 x28.length c35) (ld_one isAgg43 rfl (hc32 0 _ rfl))<|lp (iv (x28.length:Int)) (pu_len (A:=A34) (n:=x28.length) (m:=c35) underlying43 rfl)<|lp (.bool (decide (d<(x28.length:Int)))) (pu_lss (k:=.i64) (a:=d) (b:=(x28.length:Int)) rfl rfl)<|ln (hK27 _ _ ?_)
 refine Wc.cond (t:=(decide (d<(x28.length:Int)))) (rfl) (fun hq39=>?_) (fun hq39=>?_)
 replace hb:=tt hq39 hb
 refine Wc.skip (hK26 _ _ ?_)
 refine Wc.seq fun _ hK40=>?_
 refine Wc.block ?_
 refine Wc.regionMix [] (frm [] [.own 82 (.pr si (.pr si (.pr (.pr si (.pr si si)) (.pr si (.pr si si))))) (.slice g f.length h) f] ([]:List Fact)) (fun _=>rfl) mixed (by decide+kernel) (by decide+kernel) fun w42 hw41=>?_
 replace hC:=hC.step (Fr.of_drew hw41)
 have hM:=Fr.refl (fun k=>k∈blocks [.own 82 (.pr si (.pr si (.pr (.pr si (.pr si si)) (.pr si (.pr si si))))) (.slice g f.length h) f]) w42
 clear hw41
 have hS:=hC
 have G:Beside [.own 82 (.pr si (.pr si (.pr (.pr si (.pr si si)) (.pr si (.pr si si))))) (.slice g f.length h) f] w42 (.slice g f.length h):=Beside.of (i:=0) rfl
 refine mp (.slice g f.length h) (pu_move e3)<|mp (iv c) (pu_move e4)<|mp (iv d) (pu_move e5)<|mp (.slice (some ad30) l.length x) (pu_move e0)<|mp (iv c) (pu_move e4) ?_
 obtain ⟨x43,h44,hb⟩:=bd hb
 obtain ⟨ad45,cs46,hA,ho49,hc47,hr48⟩:=hS.elr2 (i:=1) rfl (get_some h44).2 [2]
 obtain rfl:=Option.some.inj hA
 refine mp (.pointer (some (ad30.add (c.toNat*1)))) (pu_index (a:=c) underlying28 sizeOf43 rfl rfl (get_some h44).1) ?_
 have hR:=hr48
 obtain ⟨A50,c51,rfl,hl52,hc53,_⟩:=hr48
 replace hS:=hS.ro hR
 replace hC:=hC.ro hR
 clear hR
 refine mixE.load hM (v:=.slice A50 x43.length c51) (fun _ hF=>ld_one isAgg43 rfl (hF.cell (hc47 0 _ rfl) (off1 ho49)))<|mp (iv d) (pu_move e5) ?_
 obtain ⟨x55,h56,hb⟩:=bd hb
 obtain ⟨ad57,cs58,hA,ho61,hc59,hr60⟩:=hS.elr2 (i:=0) rfl (get_some h56).2 [3]
 subst hA
 refine mp (.pointer (some (ad57.add (d.toNat*3)))) (pu_index (a:=d) underlying43 sizeOf23 rfl rfl (get_some h56).1) ?_
 obtain ⟨k62,k63,rfl,hr64,hr65⟩:=hr60
 obtain ⟨rfl,hr64⟩:=hr64
 obtain ⟨k66,k67,rfl,hr68,hr69⟩:=hr65
 obtain ⟨rfl,hr68⟩:=hr68
 obtain ⟨rfl,hr69⟩:=hr69
 refine mixE.load hM (v:=.agg #[iv x55.1,iv x55.2.1,iv x55.2.2]) (fun _ hF=>ld_agg isAgg23 sizeOf23 rfl rfl (fun j u hu=>hF.cell (hc59 j u hu) (off2 ho61)))<|mp (.slice (some ad30) l.length x) (pu_move e0)<|mp (iv c) (pu_move e4) ?_
 obtain ⟨x70,h71,hb⟩:=bd hb
 obtain ⟨ad72,cs73,hA,ho76,hc74,hr75⟩:=hS.elr2 (i:=2) rfl (get_some h71).2 [3]
 obtain rfl:=Option.some.inj hA
 refine mp (.pointer (some (ad30.add (c.toNat*1)))) (pu_index (a:=c) underlying28 sizeOf43 rfl rfl (get_some h71).1) ?_
 have hR:=hr75
 obtain ⟨A77,c78,rfl,hl79,hc80,_⟩:=hr75
 replace hS:=hS.ro hR
 replace hC:=hC.ro hR
 clear hR
 refine mixE.load hM (v:=.slice A77 x70.length c78) (fun _ hF=>ld_one isAgg43 rfl (hF.cell (hc74 0 _ rfl) (off1 ho76)))<|mp (iv d) (pu_move e5) ?_
 obtain ⟨z82,h83,hb⟩:=bd hb
 refine mp (iv z82) (pu_addc (a:=d) (b:=1) rfl rfl h83)<|mp (.slice (some ad30) l.length x) (pu_move e0)<|mp (iv c) (pu_move e4) ?_
 obtain ⟨x84,h85,hb⟩:=bd hb
 obtain ⟨ad86,cs87,hA,ho90,hc88,hr89⟩:=hS.elr2 (i:=3) rfl (get_some h85).2 [4]
 obtain rfl:=Option.some.inj hA
 refine mp (.pointer (some (ad30.add (c.toNat*1)))) (pu_index (a:=c) underlying28 sizeOf43 rfl rfl (get_some h85).1) ?_
 have hR:=hr89
 obtain ⟨A91,c92,rfl,hl93,hc94,_⟩:=hr89
 replace hS:=hS.ro hR
 replace hC:=hC.ro hR
 clear hR
 refine mixE.load hM (v:=.slice A91 x84.length c92) (fun _ hF=>ld_one isAgg43 rfl (hF.cell (hc88 0 _ rfl) (off1 ho90)))<|mp (iv (x84.length:Int)) (pu_len (A:=A91) (n:=x84.length) (m:=c92) underlying43 rfl) ?_
 obtain ⟨u96,h97,hb⟩:=bd hb
 refine mp (iv (Int.tmod z82 (x84.length:Int))) (pu_remc (a:=z82) (b:=(x84.length:Int)) rfl rfl h97) ?_
 obtain ⟨x98,h99,hb⟩:=bd hb
 obtain ⟨ad100,cs101,hA,ho104,hc102,hr103⟩:=hS.elr2 (i:=1) rfl (get_some h99).2 [5]
 subst hA
 refine mp (.pointer (some (ad100.add ((Int.tmod z82 (x84.length:Int)).toNat*3)))) (pu_index (a:=(Int.tmod z82 (x84.length:Int))) underlying43 sizeOf23 rfl rfl (get_some h99).1) ?_
 obtain ⟨k105,k106,rfl,hr107,hr108⟩:=hr103
 obtain ⟨rfl,hr107⟩:=hr107
 obtain ⟨k109,k110,rfl,hr111,hr112⟩:=hr108
 obtain ⟨rfl,hr111⟩:=hr111
 obtain ⟨rfl,hr112⟩:=hr112
 refine mixE.load hM (v:=.agg #[iv x98.1,iv x98.2.1,iv x98.2.2]) (fun _ hF=>ld_agg isAgg23 sizeOf23 rfl rfl (fun j u hu=>hF.cell (hc102 j u hu) (off2 ho104)))<|mp (.agg #[iv c,iv d,iv x55.1,iv x55.2.1,iv x55.2.2,iv x98.1,iv x98.2.1,iv x98.2.2]) (pu_builds (places:=[(0,1),(1,1),(2,3),(5,3)]) (pv:=[(0,iv c),(1,iv d),(2,.agg #[iv x55.1,iv x55.2.1,iv x55.2.2]),(3,.agg #[iv x98.1,iv x98.2.1,iv x98.2.2])]) type82 underlying82 rfl (mp_cons type3 (mp_cons type3 (mp_cons type23 (mp_cons type23 mp_nil rfl rfl) rfl rfl) rfl rfl) rfl rfl) rfl (by simp [Instr.fill,Value.cells]))<|mixE.op hM (hC.lit (s:=(.pr si (.pr si (.pr (.pr si (.pr si si)) (.pr si (.pr si si)))))) (vs:=[.agg #[iv c,iv d,iv x55.1,iv x55.2.1,iv x55.2.2,iv x98.1,iv x98.2.1,iv x98.2.2]]) (xs:=[(c,(d,((x55.1,(x55.2.1,x55.2.2)),(x98.1,(x98.2.1,x98.2.2)))))]) underlying79 type82 rfl rfl (nb rfl) rfl rfl (by simp [Value.cells,Sh.n]) rfl (show Elems _ _ (.pr si (.pr si (.pr (.pr si (.pr si si)) (.pr si (.pr si si))))) ([iv c,iv d,iv x55.1,iv x55.2.1,iv x55.2.2,iv x98.1,iv x98.2.1,iv x98.2.2]++([])) ([(c,(d,((x55.1,(x55.2.1,x55.2.2)),(x98.1,(x98.2.1,x98.2.2)))))]:List (Int×(Int×((Int×(Int×Int))×(Int×(Int×Int)))))) from Elems.cons (⟨[iv c],[iv d,iv x55.1,iv x55.2.1,iv x55.2.2,iv x98.1,iv x98.2.1,iv x98.2.2],rfl,⟨rfl,I64.wr C⟩,⟨[iv d],[iv x55.1,iv x55.2.1,iv x55.2.2,iv x98.1,iv x98.2.1,iv x98.2.2],rfl,⟨rfl,I64.wr D⟩,⟨[iv x55.1,iv x55.2.1,iv x55.2.2],[iv x98.1,iv x98.2.1,iv x98.2.2],rfl,⟨[iv x55.1],[iv x55.2.1,iv x55.2.2],rfl,⟨rfl,I64.wr (wrap_I64 hr64)⟩,⟨[iv x55.2.1],[iv x55.2.2],rfl,⟨rfl,I64.wr (wrap_I64 hr68)⟩,⟨rfl,I64.wr (wrap_I64 hr69)⟩⟩⟩,⟨[iv x98.1],[iv x98.2.1,iv x98.2.2],rfl,⟨rfl,I64.wr (wrap_I64 hr107)⟩,⟨[iv x98.2.1],[iv x98.2.2],rfl,⟨rfl,I64.wr (wrap_I64 hr111)⟩,⟨rfl,I64.wr (wrap_I64 hr112)⟩⟩⟩⟩⟩⟩) (Elems.nil _ _ _))) ?_
 rintro _ w117 ⟨A113,c114,rfl,hl115,hc116,hC,hF,hN⟩
 have hBf118:=Beside.new hM hN
 replace hM:=hM.none hF
 refine ⟨hM,?_⟩
 clear hF hN
 obtain ⟨u119,h120,hb⟩:=bd hb
 refine mixE.op hM (hC.app (i:=6) (s:=(.pr si (.pr si (.pr (.pr si (.pr si si)) (.pr si (.pr si si)))))) (xs:=f) (ys:=([(c,(d,((x55.1,(x55.2.1,x55.2.2)),(x98.1,(x98.2.1,x98.2.2)))))]:List (Int×(Int×((Int×(Int×Int))×(Int×(Int×Int))))))) (m:=((([(c,(d,((x55.1,(x55.2.1,x55.2.2)),(x98.1,(x98.2.1,x98.2.2)))))]:List (Int×(Int×((Int×(Int×Int))×(Int×(Int×Int))))))).length)) rfl underlying79 underlying79 type82 rfl rfl rfl (hC.srco (i:=0) rfl) rfl rfl (by have:=lim_some h120; simp at this⊢ <;>omega) (by decide)) ?_
 rintro _ w125 ⟨A121,c122,rfl,hl123,hc124,hC,hF,hN⟩
 have hB:=G
 replace G:=hB.app hM hN
 replace hM:=hM.beside hB hF
 clear hB
 refine ⟨hM,?_⟩
 clear hF hN
 refine mp (.slice A121 ((f++([(c,(d,((x55.1,(x55.2.1,x55.2.2)),(x98.1,(x98.2.1,x98.2.2)))))]:List (Int×(Int×((Int×(Int×Int))×(Int×(Int×Int))))))).length) c122) (pu_assign rfl)<|mixE.nil ?_
 clear hS hM
 refine hK40 _ _<|rg<|lp _ (pu_move e5) ?_
 obtain ⟨z126,h127,hb⟩:=bd hb
 refine lp (iv z126) (pu_addc (a:=d) (b:=1) rfl rfl h127)<|lp (iv z126) (pu_assign rfl)<|ln ?_
 obtain rfl:=os hb
 exact hK21 m22' _ _ (Nat.lt_succ_self _) ⟨(f++([(c,(d,((x55.1,(x55.2.1,x55.2.2)),(x98.1,(x98.2.1,x98.2.2)))))]:List (Int×(Int×((Int×(Int×Int))×(Int×(Int×Int))))))),z126,A121,(f++([(c,(d,((x55.1,(x55.2.1,x55.2.2)),(x98.1,(x98.2.1,x98.2.2)))))]:List (Int×(Int×((Int×(Int×Int))×(Int×(Int×Int))))))).length,c122,e0,e2,rfl,e4,rfl,e9,(chk_rng h127),hC.sE [5,6],lN hl1⟩
 replace hb:=tf hq39 hb
 refine Wc.exit rfl ?_
 obtain rfl:=os hb
 obtain rfl:=(lX hl1).symm
 exact hK20 _ _ ⟨f,d,g,f.length,h,e0,e2,e3,e4,e5,e9,D,hC.sE [1,2],hbK1⟩
 clear hb hC hl1
 rintro E129 w128 ⟨f,d,g,B,h,e0,e2,e3,e4,e5,e9,D,hC,hb⟩
 obtain ⟨rfl,M,N⟩:=(hC.ow (i:=1) rfl).sl_len
 refine hK17 _ _<|rg<|lp _ (pu_move e4) ?_
 obtain ⟨z130,h131,hb⟩:=bd hb
 refine lp (iv z130) (pu_addc (a:=c) (b:=1) rfl rfl h131)<|lp (iv z130) (pu_assign rfl)<|ln ?_
 obtain rfl:=os hb
 exact hK9 m10' _ _ (Nat.lt_succ_self _) ⟨f,z130,g,f.length,h,e0,e2,e3,rfl,(chk_rng h131),hC.sE [0,1],lN hl0⟩
 replace hb:=tf hq16 hb
 refine Wc.exit rfl ?_
 obtain rfl:=os hb
 obtain rfl:=(lX hl0).symm
 exact hK8 _ _ ⟨q,c,o,q.length,p,e2,e3,C,hC.sE [1],hbK0⟩
 clear hb hC hl0
 rintro E133 w132 ⟨q,c,o,z,p,e2,e3,C,hC,hb⟩
 subst hf7
 obtain ⟨rfl,K,L⟩:=(hC.ow (i:=0) rfl).sl_len
 refine hK4 _ _<|Wc.seq fun _ hK134=>rg<|lp _ (pu_move e3)<|lp (.slice o q.length p) (pu_assign rfl)<|ln (hK134 _ _ ?_)
 obtain rfl:=os hb
 refine Wc.ret (hKR _ _ ?_)
 refine ⟨_,res1 results56 (tV (.slice o q.length p) rfl),_,rfl,o,q.length,p,rfl,hC.sE [0]⟩

theorem ref46_flat_ok (n:Nat) {w:World} {O0:List Nat} (hO: ∀k∈O0,k<w.heap.size) {c:Int} (l:I64 c) {f:Int} (m:I64 f) {h:Int} (o:I64 h) {d:Int} (p:I64 d) {g:Int} (s:I64 g) {j:Int} (t:I64 j) {r:Bool} (hb:F.ref46_flat n c f h d g j=some r):
    Calls prog 57 #[.agg #[iv c,iv f,iv h],.agg #[iv d,iv g,iv j]] w fun e w'=> ∃v,e=.returned v∧v=.bool r∧Cx (fun _=>False) O0 w w' []:=by
 unfold F.ref46_flat at hb
 have hC:=Cx.start hO
 clear hO
 refine calls_of_Wc func57 rfl (by rw [ntmps57]; exact nb rfl) fun KR hKR=>?_
 refine Wc.seq fun _ hK1=>rg<|lex.op (hC.box (cs:=[iv c,iv f,iv h]) rfl rfl) ?_
 rintro _ w3 ⟨g2,rfl,hC,hF,-⟩
 refine lex.op (hC.box (cs:=[iv d,iv g,iv j]) rfl rfl) ?_
 rintro _ w6 ⟨g5,rfl,hC,hF,-⟩
 refine lp (.bool false) (pu_assign rfl)<|ln (hK1 _ _ ?_)
 refine Wc.seq fun _ hK8=>rg<|lp (.pointer (some ((⟨g2,0,none⟩:Addr).add 0))) (pu_field (sz:=1) underlying23 rfl sizeOf3 (by decide) rfl rfl)<|lv (iv c) (ld_fld (hC.bx (i:=1) rfl) isAgg3 rfl rfl)<|lp (.pointer (some ((⟨g5,0,none⟩:Addr).add 0))) (pu_field (sz:=1) underlying23 rfl sizeOf3 (by decide) rfl rfl)<|lv (iv d) (ld_fld (hC.bx (i:=0) rfl) isAgg3 rfl rfl)<|lp (.bool (decide (c=d))) (pu_eql (k:=.i64) (a:=c) (b:=d) rfl rfl)<|lp (.bool (decide (c=d))) (pu_move rfl) ?_
 rcases bS (decide (c=d)) with hq9 | hq9
 replace hb:=tt hq9 hb
 refine gp rfl rfl (decide (c=d)) rfl hq9 (.pointer (some ((⟨g2,0,none⟩:Addr).add 1))) (pu_field (sz:=1) underlying23 rfl sizeOf3 (by decide) rfl rfl)<|gv rfl rfl (decide (c=d)) rfl hq9 (iv f) (ld_fld (hC.bx (i:=1) rfl) isAgg3 rfl rfl)<|gp rfl rfl (decide (c=d)) rfl hq9 (.pointer (some ((⟨g5,0,none⟩:Addr).add 1))) (pu_field (sz:=1) underlying23 rfl sizeOf3 (by decide) rfl rfl)<|gv rfl rfl (decide (c=d)) rfl hq9 (iv g) (ld_fld (hC.bx (i:=0) rfl) isAgg3 rfl rfl)<|gp rfl rfl (decide (c=d)) rfl hq9 (.bool (decide (f=g))) (pu_eql (k:=.i64) (a:=f) (b:=g) rfl rfl)<|lp (.bool (decide (f=g))) (pu_pickT (q:=(decide (c=d))) rfl hq9 rfl)<|lp (.bool (decide (f=g))) (pu_assign rfl)<|ln (hK8 _ _ ?_)
 obtain rfl:=os hb
 refine Wc.ret (hKR _ _ ?_)
 refine ⟨_,res1 results57 (tV (.bool (decide (f=g))) rfl),_,rfl,rfl,hC.sE []⟩
 replace hb:=tf hq9 hb
 refine gs rfl rfl (decide (c=d)) rfl hq9<|gs rfl rfl (decide (c=d)) rfl hq9<|gs rfl rfl (decide (c=d)) rfl hq9<|gs rfl rfl (decide (c=d)) rfl hq9<|gs rfl rfl (decide (c=d)) rfl hq9<|lp (.bool false) (pu_pickF (q:=(decide (c=d))) rfl hq9 rfl)<|lp (.bool false) (pu_assign rfl)<|ln (hK8 _ _ ?_)
 obtain rfl:=os hb
 refine Wc.ret (hKR _ _ ?_)
 refine ⟨_,res1 results57 (tV (.bool false) rfl),_,rfl,rfl,hC.sE []⟩

theorem ref46_adjacent_ok (n:Nat) {w:World} {O0:List Nat} (hO: ∀k∈O0,k<w.heap.size) {C:Option Addr} {G D:Nat} {H:List (List (Int×(Int×Int)))} (J:Rep O0 w (.sl (.sl (.pr si (.pr si si)))) [.slice C G D] H) {c:Int} (K:I64 c) {g:Int} (L:I64 g) {h:Int} (M:I64 h) {j:Int} (N:I64 j) {l:Int} (P:I64 l) {o:Int} (Q:I64 o) {p:Int} (R:I64 p) {s:Int} (S:I64 s) {d:Int} (T:I64 d) {f:Int} (U:I64 f) {t:Int} (V:I64 t) {u:Int} (X:I64 u) {x:Int} (Y:I64 x) {y:Int} (Z:I64 y) {z:Int} (a0:I64 z) {B:Int} (a1:I64 B) {r:Bool} (hb:F.ref46_adjacent n H c g h j l o p s d f t u x y z B=some r):
    Calls prog 58 #[.slice C G D,.agg #[iv c,iv g,iv h,iv j,iv l,iv o,iv p,iv s],.agg #[iv d,iv f,iv t,iv u,iv x,iv y,iv z,iv B]] w fun e w'=> ∃v,e=.returned v∧v=.bool r∧Cx (fun _=>False) O0 w w' []:=by
 unfold F.ref46_adjacent at hb
 have hC:=Cx.start hO
 replace hC:=hC.arg rfl J
 clear hO
 obtain ⟨rfl,a2,a3⟩:=J.sl_len
 refine calls_of_Wc func58 rfl (by rw [ntmps58]; exact nb rfl) fun KR hKR=>?_
 refine Wc.seq fun _ hK2=>rg<|lex.op (hC.box (cs:=[iv c,iv g,iv h,iv j,iv l,iv o,iv p,iv s]) rfl rfl) ?_
 rintro _ w4 ⟨g3,rfl,hC,hF,-⟩
 refine lex.op (hC.box (cs:=[iv d,iv f,iv t,iv u,iv x,iv y,iv z,iv B]) rfl rfl) ?_
 rintro _ w7 ⟨g6,rfl,hC,hF,-⟩
 refine lp (.bool false) (pu_assign rfl)<|ln (hK2 _ _ ?_)
 refine Wc.seq fun _ hK9=>rg<|lp (.slice C H.length D) (pu_move rfl)<|lp (.pointer (some ((⟨g3,0,none⟩:Addr).add 0))) (pu_field (sz:=1) underlying82 rfl sizeOf3 (by decide) rfl rfl)<|lv (iv c) (ld_fld (hC.bx (i:=1) rfl) isAgg3 rfl rfl) ?_
 obtain ⟨x10,h11,hb⟩:=bd hb
 obtain ⟨ad12,cs13,hA,hc14,hr15⟩:=hC.elr (i:=2) rfl (get_some h11).2
 subst hA
 refine lp (.pointer (some (ad12.add (c.toNat*1)))) (pu_index (a:=c) underlying28 sizeOf43 rfl rfl (get_some h11).1) ?_
 have hR:=hr15
 obtain ⟨A16,c17,rfl,hl18,hc19,_⟩:=hr15
 replace hC:=hC.ro hR
 clear hR
 refine lv (.slice A16 x10.length c17) (ld_one isAgg43 rfl (hc14 0 _ rfl))<|lp (iv (x10.length:Int)) (pu_len (A:=A16) (n:=x10.length) (m:=c17) underlying43 rfl)<|lp (iv (x10.length:Int)) (pu_assign rfl)<|ln (hK9 _ _ ?_)
 refine Wc.fresh fun E21 hE=>?_
 have e4:E21 4=pg g3:=cg hE 4 rfl
 have e5:E21 5=pg g6:=cg hE 5 rfl
 have e6:E21 6=.bool false:=cg hE 6 rfl
 have e7:E21 7=iv (x10.length:Int):=cg hE 7 rfl
 clear hE
 refine Wc.seq fun _ hK22=>?_
 refine Wc.regionMix [] (frm [] ([]:List Fact) ([]:List Fact)) (fun _=>rfl) mixed (by decide+kernel) (by decide+kernel) fun w24 hw23=>?_
 replace hC:=hC.step (Fr.of_drew hw23)
 have hM:=Fr.refl (fun k=>k∈blocks ([]:List Fact)) w24
 clear hw23
 have hS:=hC
 refine mp (.pointer (some ((⟨g3,0,none⟩:Addr).add 0))) (pu_field (sz:=1) underlying82 rfl sizeOf3 (by decide) rfl e4)<|mixE.load hM (v:=iv c) (fun _ hF=>ld_fld (hS.bx2 (i:=2) rfl [] (by decide) hF) isAgg3 rfl rfl)<|mp (.pointer (some ((⟨g6,0,none⟩:Addr).add 0))) (pu_field (sz:=1) underlying82 rfl sizeOf3 (by decide) rfl e5)<|mixE.load hM (v:=iv d) (fun _ hF=>ld_fld (hS.bx2 (i:=1) rfl [] (by decide) hF) isAgg3 rfl rfl)<|mp (.bool (decide (c=d))) (pu_eql (k:=.i64) (a:=c) (b:=d) rfl rfl)<|mp (.bool (decide (c=d))) (pu_move rfl) ?_
 rcases bS (decide (c=d)) with hq25 | hq25
 replace hb:=tt hq25 hb
 refine mixE.gpure rfl (want_t rfl rfl (show _=Value.bool (decide (c=d)) from rfl) hq25) (v:=.pointer (some ((⟨g3,0,none⟩:Addr).add 1))) (pu_field (sz:=1) underlying82 rfl sizeOf3 (by decide) rfl e4)<|mixE.gload rfl (want_t rfl rfl (show _=Value.bool (decide (c=d)) from rfl) hq25) hM (v:=iv g) (fun _ hF=>ld_fld (hS.bx2 (i:=2) rfl [] (by decide) hF) isAgg3 rfl rfl) ?_
 obtain ⟨z26,h27,hb⟩:=bd hb
 refine mixE.gpure rfl (want_t rfl rfl (show _=Value.bool (decide (c=d)) from rfl) hq25) (v:=iv z26) (pu_addc (a:=g) (b:=1) rfl rfl h27)<|mixE.gpure rfl (want_t rfl rfl (show _=Value.bool (decide (c=d)) from rfl) hq25) (v:=iv (x10.length:Int)) (pu_move e7) ?_
 obtain ⟨u28,h29,hb⟩:=bd hb
 refine mixE.gpure rfl (want_t rfl rfl (show _=Value.bool (decide (c=d)) from rfl) hq25) (v:=iv (Int.tmod z26 (x10.length:Int))) (pu_remc (a:=z26) (b:=(x10.length:Int)) rfl rfl h29)<|mixE.gpure rfl (want_t rfl rfl (show _=Value.bool (decide (c=d)) from rfl) hq25) (v:=.pointer (some ((⟨g6,0,none⟩:Addr).add 1))) (pu_field (sz:=1) underlying82 rfl sizeOf3 (by decide) rfl e5)<|mixE.gload rfl (want_t rfl rfl (show _=Value.bool (decide (c=d)) from rfl) hq25) hM (v:=iv f) (fun _ hF=>ld_fld (hS.bx2 (i:=1) rfl [] (by decide) hF) isAgg3 rfl rfl)<|mixE.gpure rfl (want_t rfl rfl (show _=Value.bool (decide (c=d)) from rfl) hq25) (v:=.bool (decide ((Int.tmod z26 (x10.length:Int))=f))) (pu_eql (k:=.i64) (a:=(Int.tmod z26 (x10.length:Int))) (b:=f) rfl rfl)<|mixE.gpure rfl (want_t rfl rfl (show _=Value.bool (decide (c=d)) from rfl) hq25) (v:=.bool (decide ((Int.tmod z26 (x10.length:Int))=f))) (pu_move rfl) ?_
 rcases bS (decide ((Int.tmod z26 (x10.length:Int))=f)) with hq30 | hq30
 replace hb:=tt hq30 hb
 refine mixE.gskip (want_f rfl rfl (show _=Value.bool (decide ((Int.tmod z26 (x10.length:Int))=f)) from rfl) hq30)<|mixE.gskip (want_f rfl rfl (show _=Value.bool (decide ((Int.tmod z26 (x10.length:Int))=f)) from rfl) hq30)<|mixE.gskip (want_f rfl rfl (show _=Value.bool (decide ((Int.tmod z26 (x10.length:Int))=f)) from rfl) hq30)<|mixE.gskip (want_f rfl rfl (show _=Value.bool (decide ((Int.tmod z26 (x10.length:Int))=f)) from rfl) hq30)<|mixE.gskip (want_f rfl rfl (show _=Value.bool (decide ((Int.tmod z26 (x10.length:Int))=f)) from rfl) hq30)<|mixE.gskip (want_f rfl rfl (show _=Value.bool (decide ((Int.tmod z26 (x10.length:Int))=f)) from rfl) hq30)<|mixE.gskip (want_f rfl rfl (show _=Value.bool (decide ((Int.tmod z26 (x10.length:Int))=f)) from rfl) hq30)<|mixE.gskip (want_f rfl rfl (show _=Value.bool (decide ((Int.tmod z26 (x10.length:Int))=f)) from rfl) hq30)<|mixE.gpure rfl (want_t rfl rfl (show _=Value.bool (decide (c=d)) from rfl) hq25) (v:=.bool true) (pu_pickT (q:=(decide ((Int.tmod z26 (x10.length:Int))=f))) rfl hq30 rfl)<|mp (.bool true) (pu_pickT (q:=(decide (c=d))) rfl hq25 rfl)<|mp (.bool true) (pu_assign rfl)<|mixE.nil ?_
 clear hS hM
 refine hK22 _ _ ?_
 obtain rfl:=os hb
 refine Wc.ret (hKR _ _ ?_)
 refine ⟨_,res1 results58 (tV (.bool true) rfl),_,rfl,rfl,hC.sE []⟩
 replace hb:=tf hq30 hb
 refine mixE.gpure rfl (want_t rfl rfl (show _=Value.bool (decide ((Int.tmod z26 (x10.length:Int))=f)) from rfl) hq30) (v:=.pointer (some ((⟨g6,0,none⟩:Addr).add 1))) (pu_field (sz:=1) underlying82 rfl sizeOf3 (by decide) rfl e5)<|mixE.gload rfl (want_t rfl rfl (show _=Value.bool (decide ((Int.tmod z26 (x10.length:Int))=f)) from rfl) hq30) hM (v:=iv f) (fun _ hF=>ld_fld (hS.bx2 (i:=1) rfl [] (by decide) hF) isAgg3 rfl rfl) ?_
 obtain ⟨z31,h32,hb⟩:=bd hb
 refine mixE.gpure rfl (want_t rfl rfl (show _=Value.bool (decide ((Int.tmod z26 (x10.length:Int))=f)) from rfl) hq30) (v:=iv z31) (pu_addc (a:=f) (b:=1) rfl rfl h32)<|mixE.gpure rfl (want_t rfl rfl (show _=Value.bool (decide ((Int.tmod z26 (x10.length:Int))=f)) from rfl) hq30) (v:=iv (x10.length:Int)) (pu_move e7) ?_
 obtain ⟨u33,h34,hb⟩:=bd hb
 refine mixE.gpure rfl (want_t rfl rfl (show _=Value.bool (decide ((Int.tmod z26 (x10.length:Int))=f)) from rfl) hq30) (v:=iv (Int.tmod z31 (x10.length:Int))) (pu_remc (a:=z31) (b:=(x10.length:Int)) rfl rfl h34)<|mixE.gpure rfl (want_t rfl rfl (show _=Value.bool (decide ((Int.tmod z26 (x10.length:Int))=f)) from rfl) hq30) (v:=.pointer (some ((⟨g3,0,none⟩:Addr).add 1))) (pu_field (sz:=1) underlying82 rfl sizeOf3 (by decide) rfl e4)<|mixE.gload rfl (want_t rfl rfl (show _=Value.bool (decide ((Int.tmod z26 (x10.length:Int))=f)) from rfl) hq30) hM (v:=iv g) (fun _ hF=>ld_fld (hS.bx2 (i:=2) rfl [] (by decide) hF) isAgg3 rfl rfl)<|mixE.gpure rfl (want_t rfl rfl (show _=Value.bool (decide ((Int.tmod z26 (x10.length:Int))=f)) from rfl) hq30) (v:=.bool (decide ((Int.tmod z31 (x10.length:Int))=g))) (pu_eql (k:=.i64) (a:=(Int.tmod z31 (x10.length:Int))) (b:=g) rfl rfl)<|mixE.gpure rfl (want_t rfl rfl (show _=Value.bool (decide (c=d)) from rfl) hq25) (v:=.bool (decide ((Int.tmod z31 (x10.length:Int))=g))) (pu_pickF (q:=(decide ((Int.tmod z26 (x10.length:Int))=f))) rfl hq30 rfl)<|mp (.bool (decide ((Int.tmod z31 (x10.length:Int))=g))) (pu_pickT (q:=(decide (c=d))) rfl hq25 rfl)<|mp (.bool (decide ((Int.tmod z31 (x10.length:Int))=g))) (pu_assign rfl)<|mixE.nil ?_
 clear hS hM
 refine hK22 _ _ ?_
 obtain rfl:=os hb
 refine Wc.ret (hKR _ _ ?_)
 refine ⟨_,res1 results58 (tV (.bool (decide ((Int.tmod z31 (x10.length:Int))=g))) rfl),_,rfl,rfl,hC.sE []⟩
 replace hb:=tf hq25 hb
 refine mixE.gskip (want_f rfl rfl (show _=Value.bool (decide (c=d)) from rfl) hq25)<|mixE.gskip (want_f rfl rfl (show _=Value.bool (decide (c=d)) from rfl) hq25)<|mixE.gskip (want_f rfl rfl (show _=Value.bool (decide (c=d)) from rfl) hq25)<|mixE.gskip (want_f rfl rfl (show _=Value.bool (decide (c=d)) from rfl) hq25)<|mixE.gskip (want_f rfl rfl (show _=Value.bool (decide (c=d)) from rfl) hq25)<|mixE.gskip (want_f rfl rfl (show _=Value.bool (decide (c=d)) from rfl) hq25)<|mixE.gskip (want_f rfl rfl (show _=Value.bool (decide (c=d)) from rfl) hq25)<|mixE.gskip (want_f rfl rfl (show _=Value.bool (decide (c=d)) from rfl) hq25)<|mixE.gskip (want_f rfl rfl (show _=Value.bool (decide (c=d)) from rfl) hq25)<|mixE.gskip (want_n rfl rfl rfl)<|mixE.gskip (want_n rfl rfl rfl)<|mixE.gskip (want_n rfl rfl rfl)<|mixE.gskip (want_n rfl rfl rfl)<|mixE.gskip (want_n rfl rfl rfl)<|mixE.gskip (want_n rfl rfl rfl)<|mixE.gskip (want_n rfl rfl rfl)<|mixE.gskip (want_n rfl rfl rfl)<|mixE.gskip (want_f rfl rfl (show _=Value.bool (decide (c=d)) from rfl) hq25)<|mp (.bool false) (pu_pickF (q:=(decide (c=d))) rfl hq25 rfl)<|mp (.bool false) (pu_assign rfl)<|mixE.nil ?_
 clear hS hM
 refine hK22 _ _ ?_
 obtain rfl:=os hb
 refine Wc.ret (hKR _ _ ?_)
 refine ⟨_,res1 results58 (tV (.bool false) rfl),_,rfl,rfl,hC.sE []⟩

theorem ref46_crossers_ok (n:Nat) {w:World} {O0:List Nat} (hO: ∀k∈O0,k<w.heap.size) {z:Option Addr} {K B:Nat} {C:List (List (Int×(Int×Int)))} (L:Rep O0 w (.sl (.sl (.pr si (.pr si si)))) [.slice z K B] C) {x:Option Addr} {H p:Nat} {g:List (Int×(Int×((Int×(Int×Int))×(Int×(Int×Int)))))} (J:Rep O0 w (.sl (.pr si (.pr si (.pr (.pr si (.pr si si)) (.pr si (.pr si si)))))) [.slice x H p] g) {d:Int} (T:I64 d) {r:(List Int)} (hb:F.ref46_crossers n C g d=some r):
    Calls prog 59 #[.slice z K B,.slice x H p,iv d] w fun e w'=> ∃v,e=.returned v∧∃(A0:Option Addr) (m0 c0:Nat),v=.slice A0 m0 c0∧Cx (fun _=>False) O0 w w' [.own 3 si (.slice A0 m0 c0) r]:=by
 unfold F.ref46_crossers at hb
 have hC:=Cx.start hO
 replace hC:=hC.arg rfl L
 replace hC:=hC.arg rfl J
 clear hO
 obtain ⟨rfl,R,S⟩:=L.sl_len
 obtain ⟨rfl,P,Q⟩:=J.sl_len
 refine calls_of_Wc func59 rfl (by rw [ntmps59]; exact nb rfl) fun KR hKR=>?_
 refine Wc.seq fun _ hK3=>rg<|lp (.slice none 0 0) (pu_assign rfl)<|ln (hK3 _ _ ?_)
 refine Wc.seq fun _ hK4=>rg<|lp (.slice none 0 0) (pu_assign rfl)<|ln (hK4 _ _ ?_)
 refine Wc.seq fun _ hK5=>?_
 refine Wc.seq fun _ hK6=>rg<|lp (iv 0) (pu_assign rfl)<|ln (hK6 _ _ ?_)
 replace hC:=hC.nil 3 si
 obtain ⟨o8,hl0,hb⟩:=bd hb
 refine Wc.cut (fun E wv=> ∃(f:List Int) (c:Int) (h:Option Addr) (y l:Nat),E 6=.slice none 0 0∧E 7=.slice h y l∧I64 c∧Cx (fun _=>False) O0 w wv [.own 3 si (.slice h y l) f]∧(some f:Option ((List Int)))=some r) (fun _ hK9=>?_) ?_
 refine Wc.block ?_
 refine Wc.loop (fun m E wv=> ∃(f:List Int) (c:Int) (h:Option Addr) (y l:Nat),E 0=.slice z C.length B∧E 1=.slice x g.length p∧E 2=iv d∧E 6=.slice none 0 0∧E 7=.slice h y l∧E 8=iv c∧I64 c∧Cx (fun _=>False) O0 w wv [.ro (.sl (.sl (.pr si (.pr si si)))) [.slice z C.length B] C,.ro (.sl (.pr si (.pr si (.pr (.pr si (.pr si si)) (.pr si (.pr si si)))))) [.slice x g.length p] g,.own 3 si (.slice h y l) f]∧loopN m (F.ref46_crossers_b0 n C g d) (f,c)=some o8) n ⟨([]:List Int),0,none,0,0,rfl,rfl,rfl,rfl,rfl,rfl,(show I64 0 from by unfold I64; omega),hC.sE [2,1,0],hl0⟩ ?_
 have hbK0:=hb
 clear hb hC hl0
 rintro m11 E13 w12 ⟨f,c,h,y,l,e0,e1,e2,e6,e7,e8,G,hC,hl0⟩ K10 hK10
 obtain ⟨m11',o14,rfl,hb,hl0⟩:=loopN_some hl0
 unfold F.ref46_crossers_b0 at hb
 obtain ⟨rfl,M,N⟩:=(hC.ow (i:=2) rfl).sl_len
 refine Wc.seq fun _ hK15=>?_
 refine Wc.seq fun _ hK16=>rg<|lp _ (pu_move e8)<|lp _ (pu_move e1)<|lp (iv (g.length:Int)) (pu_len (A:=x) (n:=g.length) (m:=p) underlying79 rfl)<|lp (.bool (decide (c<(g.length:Int)))) (pu_lss (k:=.i64) (a:=c) (b:=(g.length:Int)) rfl rfl)<|ln (hK16 _ _ ?_)
 refine Wc.cond (t:=(decide (c<(g.length:Int)))) (rfl) (fun hq17=>?_) (fun hq17=>?_)
 replace hb:=tt hq17 hb
 refine Wc.skip (hK15 _ _ ?_)
 refine Wc.seq fun _ hK18=>?_
 refine Wc.block ?_
 refine Wc.seqJ (fun E wv=> ∃(D:Bool),E 0=.slice z C.length B∧E 1=.slice x g.length p∧E 2=iv d∧E 6=.slice none 0 0∧E 7=.slice h f.length l∧E 8=iv c∧E 14=.bool (decide (c<(g.length:Int)))∧E 32=.bool D∧Cx (fun _=>False) O0 w wv [.ro (.sl (.sl (.pr si (.pr si si)))) [.slice z C.length B] C,.ro (.sl (.pr si (.pr si (.pr (.pr si (.pr si si)) (.pr si (.pr si si)))))) [.slice x g.length p] g,.own 3 si (.slice h f.length l) f]∧F.ref46_crossers_j1 n g d f c D=some o14) (fun _ hK19=>?_) ?_
 refine Wc.regionMix [] (frm [] ([]:List Fact) ([]:List Fact)) (fun _=>rfl) mixed (by decide+kernel) (by decide+kernel) fun w21 hw20=>?_
 replace hC:=hC.step (Fr.of_drew hw20)
 have hM:=Fr.refl (fun k=>k∈blocks ([]:List Fact)) w21
 clear hw20
 have hS:=hC
 refine mp (iv c) (pu_move e8)<|mp (iv d) (pu_move e2)<|mp (.bool (!(decide (c=d)))) (pu_neq (k:=.i64) (a:=c) (b:=d) rfl rfl)<|mp (.bool (!(decide (c=d)))) (pu_move rfl) ?_
 rcases bS (!(decide (c=d))) with hq22 | hq22
 replace hb:=tt hq22 hb
 refine mixE.gpure rfl (want_t rfl rfl (show _=Value.bool (!(decide (c=d))) from rfl) hq22) (v:=.slice z C.length B) (pu_move e0)<|mixE.gpure rfl (want_t rfl rfl (show _=Value.bool (!(decide (c=d))) from rfl) hq22) (v:=.slice x g.length p) (pu_move e1)<|mixE.gpure rfl (want_t rfl rfl (show _=Value.bool (!(decide (c=d))) from rfl) hq22) (v:=iv d) (pu_move e2) ?_
 obtain ⟨x23,h24,hb⟩:=bd hb
 obtain ⟨ad25,cs26,hA,ho29,hc27,hr28⟩:=hS.elr2 (i:=1) rfl (get_some h24).2 []
 subst hA
 refine mixE.gpure rfl (want_t rfl rfl (show _=Value.bool (!(decide (c=d))) from rfl) hq22) (v:=.pointer (some (ad25.add (d.toNat*8)))) (pu_index (a:=d) underlying79 sizeOf82 rfl rfl (get_some h24).1) ?_
 obtain ⟨k30,k31,rfl,hr32,hr33⟩:=hr28
 obtain ⟨rfl,hr32⟩:=hr32
 obtain ⟨k34,k35,rfl,hr36,hr37⟩:=hr33
 obtain ⟨rfl,hr36⟩:=hr36
 obtain ⟨k38,k39,rfl,hr40,hr41⟩:=hr37
 obtain ⟨k42,k43,rfl,hr44,hr45⟩:=hr40
 obtain ⟨rfl,hr44⟩:=hr44
 obtain ⟨k46,k47,rfl,hr48,hr49⟩:=hr45
 obtain ⟨rfl,hr48⟩:=hr48
 obtain ⟨rfl,hr49⟩:=hr49
 obtain ⟨k50,k51,rfl,hr52,hr53⟩:=hr41
 obtain ⟨rfl,hr52⟩:=hr52
 obtain ⟨k54,k55,rfl,hr56,hr57⟩:=hr53
 obtain ⟨rfl,hr56⟩:=hr56
 obtain ⟨rfl,hr57⟩:=hr57
 refine mixE.gload rfl (want_t rfl rfl (show _=Value.bool (!(decide (c=d))) from rfl) hq22) hM (v:=.agg #[iv x23.1,iv x23.2.1,iv x23.2.2.1.1,iv x23.2.2.1.2.1,iv x23.2.2.1.2.2,iv x23.2.2.2.1,iv x23.2.2.2.2.1,iv x23.2.2.2.2.2]) (fun _ hF=>ld_agg isAgg82 sizeOf82 rfl rfl (fun j u hu=>hF.cell (hc27 j u hu) (off2 ho29)))<|mixE.gpure rfl (want_t rfl rfl (show _=Value.bool (!(decide (c=d))) from rfl) hq22) (v:=.slice (some ad25) g.length p) (pu_move e1)<|mixE.gpure rfl (want_t rfl rfl (show _=Value.bool (!(decide (c=d))) from rfl) hq22) (v:=iv c) (pu_move e8) ?_
 obtain ⟨x58,h59,hb⟩:=bd hb
 obtain ⟨ad60,cs61,hA,ho64,hc62,hr63⟩:=hS.elr2 (i:=1) rfl (get_some h59).2 []
 obtain rfl:=Option.some.inj hA
 refine mixE.gpure rfl (want_t rfl rfl (show _=Value.bool (!(decide (c=d))) from rfl) hq22) (v:=.pointer (some (ad25.add (c.toNat*8)))) (pu_index (a:=c) underlying79 sizeOf82 rfl rfl (get_some h59).1) ?_
 obtain ⟨k65,k66,rfl,hr67,hr68⟩:=hr63
 obtain ⟨rfl,hr67⟩:=hr67
 obtain ⟨k69,k70,rfl,hr71,hr72⟩:=hr68
 obtain ⟨rfl,hr71⟩:=hr71
 obtain ⟨k73,k74,rfl,hr75,hr76⟩:=hr72
 obtain ⟨k77,k78,rfl,hr79,hr80⟩:=hr75
 obtain ⟨rfl,hr79⟩:=hr79
 obtain ⟨k81,k82,rfl,hr83,hr84⟩:=hr80
 obtain ⟨rfl,hr83⟩:=hr83
 obtain ⟨rfl,hr84⟩:=hr84
 obtain ⟨k85,k86,rfl,hr87,hr88⟩:=hr76
 obtain ⟨rfl,hr87⟩:=hr87
 obtain ⟨k89,k90,rfl,hr91,hr92⟩:=hr88
 obtain ⟨rfl,hr91⟩:=hr91
 obtain ⟨rfl,hr92⟩:=hr92
 refine mixE.gload rfl (want_t rfl rfl (show _=Value.bool (!(decide (c=d))) from rfl) hq22) hM (v:=.agg #[iv x58.1,iv x58.2.1,iv x58.2.2.1.1,iv x58.2.2.1.2.1,iv x58.2.2.1.2.2,iv x58.2.2.2.1,iv x58.2.2.2.2.1,iv x58.2.2.2.2.2]) (fun _ hF=>ld_agg isAgg82 sizeOf82 rfl rfl (fun j u hu=>hF.cell (hc62 j u hu) (off2 ho64))) ?_
 obtain ⟨y93,h94,hb⟩:=bd hb
 refine mixE.gcl rfl (want_t rfl rfl (show _=Value.bool (!(decide (c=d))) from rfl) hq22) hM (⟨_,_,op_call (vs:=[.slice z C.length B,.agg #[iv x23.1,iv x23.2.1,iv x23.2.2.1.1,iv x23.2.2.1.2.1,iv x23.2.2.1.2.2,iv x23.2.2.2.1,iv x23.2.2.2.2.1,iv x23.2.2.2.2.2],.agg #[iv x58.1,iv x58.2.1,iv x58.2.2.1.1,iv x58.2.2.1.2.1,iv x58.2.2.1.2.2,iv x58.2.2.2.1,iv x58.2.2.2.2.1,iv x58.2.2.2.2.2]]) call58 rfl rfl rfl,ref46_adjacent_ok n hC.lt (hC.rd (i:=0) rfl) (wrap_I64 hr32) (wrap_I64 hr36) (wrap_I64 hr44) (wrap_I64 hr48) (wrap_I64 hr49) (wrap_I64 hr52) (wrap_I64 hr56) (wrap_I64 hr57) (wrap_I64 hr67) (wrap_I64 hr71) (wrap_I64 hr79) (wrap_I64 hr83) (wrap_I64 hr84) (wrap_I64 hr87) (wrap_I64 hr91) (wrap_I64 hr92) h94⟩) ?_
 rintro _ w95 ⟨rfl,hK⟩
 replace hM:=hM.none hK.fr
 refine ⟨hM,?_⟩
 replace hC:=hC.merge hK
 clear hK
 refine mixE.gpure rfl (want_t rfl rfl (show _=Value.bool (!(decide (c=d))) from rfl) hq22) (v:=.bool (!y93)) (pu_not (q:=y93) rfl)<|mp (.bool (!y93)) (pu_pickT (q:=(!(decide (c=d)))) rfl hq22 rfl)<|mixE.nil ?_
 clear hS hM
 exact hK19 _ _ ⟨(!y93),e0,e1,e2,e6,e7,e8,rfl,rfl,hC.sE [0,1,2],hb⟩
 replace hb:=tf hq22 hb
 refine mixE.gskip (want_f rfl rfl (show _=Value.bool (!(decide (c=d))) from rfl) hq22)<|mixE.gskip (want_f rfl rfl (show _=Value.bool (!(decide (c=d))) from rfl) hq22)<|mixE.gskip (want_f rfl rfl (show _=Value.bool (!(decide (c=d))) from rfl) hq22)<|mixE.gskip (want_f rfl rfl (show _=Value.bool (!(decide (c=d))) from rfl) hq22)<|mixE.gskip (want_f rfl rfl (show _=Value.bool (!(decide (c=d))) from rfl) hq22)<|mixE.gskip (want_f rfl rfl (show _=Value.bool (!(decide (c=d))) from rfl) hq22)<|mixE.gskip (want_f rfl rfl (show _=Value.bool (!(decide (c=d))) from rfl) hq22)<|mixE.gskip (want_f rfl rfl (show _=Value.bool (!(decide (c=d))) from rfl) hq22)<|mixE.gskip (want_f rfl rfl (show _=Value.bool (!(decide (c=d))) from rfl) hq22)<|mixE.gskip (want_f rfl rfl (show _=Value.bool (!(decide (c=d))) from rfl) hq22)<|mixE.gskip (want_f rfl rfl (show _=Value.bool (!(decide (c=d))) from rfl) hq22)<|mp (.bool false) (pu_pickF (q:=(!(decide (c=d)))) rfl hq22 rfl)<|mixE.nil ?_
 clear hS hM
 exact hK19 _ _ ⟨false,e0,e1,e2,e6,e7,e8,rfl,rfl,hC.sE [0,1,2],hb⟩
 clear hb hC
 rintro E97 w96 ⟨D,e0,e1,e2,e6,e7,e8,e14,e32,hC,hb⟩
 unfold F.ref46_crossers_j1 at hb
 refine Wc.cond (t:=D) (e32) (fun hq98=>?_) (fun hq98=>?_)
 replace hb:=tt hq98 hb
 refine Wc.seq fun _ hK99=>?_
 refine Wc.regionMix [] (frm [] ([]:List Fact) ([]:List Fact)) (fun _=>rfl) mixed (by decide+kernel) (by decide+kernel) fun w101 hw100=>?_
 replace hC:=hC.step (Fr.of_drew hw100)
 have hM:=Fr.refl (fun k=>k∈blocks ([]:List Fact)) w101
 clear hw100
 have hS:=hC
 refine mp (.slice x g.length p) (pu_move e1)<|mp (iv d) (pu_move e2) ?_
 obtain ⟨x102,h103,hb⟩:=bd hb
 obtain ⟨ad104,cs105,hA,ho108,hc106,hr107⟩:=hS.elr2 (i:=1) rfl (get_some h103).2 []
 subst hA
 refine mp (.pointer (some (ad104.add (d.toNat*8)))) (pu_index (a:=d) underlying79 sizeOf82 rfl rfl (get_some h103).1) ?_
 obtain ⟨k109,k110,rfl,hr111,hr112⟩:=hr107
 obtain ⟨rfl,hr111⟩:=hr111
 obtain ⟨k113,k114,rfl,hr115,hr116⟩:=hr112
 obtain ⟨rfl,hr115⟩:=hr115
 obtain ⟨k117,k118,rfl,hr119,hr120⟩:=hr116
 obtain ⟨k121,k122,rfl,hr123,hr124⟩:=hr119
 obtain ⟨rfl,hr123⟩:=hr123
 obtain ⟨k125,k126,rfl,hr127,hr128⟩:=hr124
 obtain ⟨rfl,hr127⟩:=hr127
 obtain ⟨rfl,hr128⟩:=hr128
 obtain ⟨k129,k130,rfl,hr131,hr132⟩:=hr120
 obtain ⟨rfl,hr131⟩:=hr131
 obtain ⟨k133,k134,rfl,hr135,hr136⟩:=hr132
 obtain ⟨rfl,hr135⟩:=hr135
 obtain ⟨rfl,hr136⟩:=hr136
 refine mp (.pointer (some ((ad104.add (d.toNat*8)).add 2))) (pu_field (A:=(ad104.add (d.toNat*8))) (off:=2) (sz:=3) underlying82 rfl sizeOf23 (by decide) rfl rfl)<|mixE.load hM (v:=.agg #[iv x102.2.2.1.1,iv x102.2.2.1.2.1,iv x102.2.2.1.2.2]) (fun _ hF=>ld_agg isAgg23 sizeOf23 rfl rfl (sub_cells (o:=2) (n:=3) (fun j u hu=>hF.cell (hc106 j u hu) (off2 ho108)) rfl rfl))<|mp (.slice (some ad104) g.length p) (pu_move e1)<|mp (iv d) (pu_move e2) ?_
 obtain ⟨x137,h138,hb⟩:=bd hb
 obtain ⟨ad139,cs140,hA,ho143,hc141,hr142⟩:=hS.elr2 (i:=1) rfl (get_some h138).2 []
 obtain rfl:=Option.some.inj hA
 refine mp (.pointer (some (ad104.add (d.toNat*8)))) (pu_index (a:=d) underlying79 sizeOf82 rfl rfl (get_some h138).1) ?_
 obtain ⟨k144,k145,rfl,hr146,hr147⟩:=hr142
 obtain ⟨rfl,hr146⟩:=hr146
 obtain ⟨k148,k149,rfl,hr150,hr151⟩:=hr147
 obtain ⟨rfl,hr150⟩:=hr150
 obtain ⟨k152,k153,rfl,hr154,hr155⟩:=hr151
 obtain ⟨k156,k157,rfl,hr158,hr159⟩:=hr154
 obtain ⟨rfl,hr158⟩:=hr158
 obtain ⟨k160,k161,rfl,hr162,hr163⟩:=hr159
 obtain ⟨rfl,hr162⟩:=hr162
 obtain ⟨rfl,hr163⟩:=hr163
 obtain ⟨k164,k165,rfl,hr166,hr167⟩:=hr155
 obtain ⟨rfl,hr166⟩:=hr166
 obtain ⟨k168,k169,rfl,hr170,hr171⟩:=hr167
 obtain ⟨rfl,hr170⟩:=hr170
 obtain ⟨rfl,hr171⟩:=hr171
 refine mp (.pointer (some ((ad104.add (d.toNat*8)).add 5))) (pu_field (A:=(ad104.add (d.toNat*8))) (off:=5) (sz:=3) underlying82 rfl sizeOf23 (by decide) rfl rfl)<|mixE.load hM (v:=.agg #[iv x137.2.2.2.1,iv x137.2.2.2.2.1,iv x137.2.2.2.2.2]) (fun _ hF=>ld_agg isAgg23 sizeOf23 rfl rfl (sub_cells (o:=5) (n:=3) (fun j u hu=>hF.cell (hc141 j u hu) (off2 ho143)) rfl rfl))<|mp (.slice (some ad104) g.length p) (pu_move e1)<|mp (iv c) (pu_move e8) ?_
 obtain ⟨x172,h173,hb⟩:=bd hb
 obtain ⟨ad174,cs175,hA,ho178,hc176,hr177⟩:=hS.elr2 (i:=1) rfl (get_some h173).2 []
 obtain rfl:=Option.some.inj hA
 refine mp (.pointer (some (ad104.add (c.toNat*8)))) (pu_index (a:=c) underlying79 sizeOf82 rfl rfl (get_some h173).1) ?_
 obtain ⟨k179,k180,rfl,hr181,hr182⟩:=hr177
 obtain ⟨rfl,hr181⟩:=hr181
 obtain ⟨k183,k184,rfl,hr185,hr186⟩:=hr182
 obtain ⟨rfl,hr185⟩:=hr185
 obtain ⟨k187,k188,rfl,hr189,hr190⟩:=hr186
 obtain ⟨k191,k192,rfl,hr193,hr194⟩:=hr189
 obtain ⟨rfl,hr193⟩:=hr193
 obtain ⟨k195,k196,rfl,hr197,hr198⟩:=hr194
 obtain ⟨rfl,hr197⟩:=hr197
 obtain ⟨rfl,hr198⟩:=hr198
 obtain ⟨k199,k200,rfl,hr201,hr202⟩:=hr190
 obtain ⟨rfl,hr201⟩:=hr201
 obtain ⟨k203,k204,rfl,hr205,hr206⟩:=hr202
 obtain ⟨rfl,hr205⟩:=hr205
 obtain ⟨rfl,hr206⟩:=hr206
 refine mp (.pointer (some ((ad104.add (c.toNat*8)).add 2))) (pu_field (A:=(ad104.add (c.toNat*8))) (off:=2) (sz:=3) underlying82 rfl sizeOf23 (by decide) rfl rfl)<|mixE.load hM (v:=.agg #[iv x172.2.2.1.1,iv x172.2.2.1.2.1,iv x172.2.2.1.2.2]) (fun _ hF=>ld_agg isAgg23 sizeOf23 rfl rfl (sub_cells (o:=2) (n:=3) (fun j u hu=>hF.cell (hc176 j u hu) (off2 ho178)) rfl rfl))<|mp (.slice (some ad104) g.length p) (pu_move e1)<|mp (iv c) (pu_move e8) ?_
 obtain ⟨x207,h208,hb⟩:=bd hb
 obtain ⟨ad209,cs210,hA,ho213,hc211,hr212⟩:=hS.elr2 (i:=1) rfl (get_some h208).2 []
 obtain rfl:=Option.some.inj hA
 refine mp (.pointer (some (ad104.add (c.toNat*8)))) (pu_index (a:=c) underlying79 sizeOf82 rfl rfl (get_some h208).1) ?_
 obtain ⟨k214,k215,rfl,hr216,hr217⟩:=hr212
 obtain ⟨rfl,hr216⟩:=hr216
 obtain ⟨k218,k219,rfl,hr220,hr221⟩:=hr217
 obtain ⟨rfl,hr220⟩:=hr220
 obtain ⟨k222,k223,rfl,hr224,hr225⟩:=hr221
 obtain ⟨k226,k227,rfl,hr228,hr229⟩:=hr224
 obtain ⟨rfl,hr228⟩:=hr228
 obtain ⟨k230,k231,rfl,hr232,hr233⟩:=hr229
 obtain ⟨rfl,hr232⟩:=hr232
 obtain ⟨rfl,hr233⟩:=hr233
 obtain ⟨k234,k235,rfl,hr236,hr237⟩:=hr225
 obtain ⟨rfl,hr236⟩:=hr236
 obtain ⟨k238,k239,rfl,hr240,hr241⟩:=hr237
 obtain ⟨rfl,hr240⟩:=hr240
 obtain ⟨rfl,hr241⟩:=hr241
 refine mp (.pointer (some ((ad104.add (c.toNat*8)).add 5))) (pu_field (A:=(ad104.add (c.toNat*8))) (off:=5) (sz:=3) underlying82 rfl sizeOf23 (by decide) rfl rfl)<|mixE.load hM (v:=.agg #[iv x207.2.2.2.1,iv x207.2.2.2.2.1,iv x207.2.2.2.2.2]) (fun _ hF=>ld_agg isAgg23 sizeOf23 rfl rfl (sub_cells (o:=5) (n:=3) (fun j u hu=>hF.cell (hc211 j u hu) (off2 ho213)) rfl rfl)) ?_
 obtain ⟨y242,h243,hb⟩:=bd hb
 refine mixE.cl hM (⟨_,_,op_call (vs:=[.agg #[iv x102.2.2.1.1,iv x102.2.2.1.2.1,iv x102.2.2.1.2.2],.agg #[iv x137.2.2.2.1,iv x137.2.2.2.2.1,iv x137.2.2.2.2.2],.agg #[iv x172.2.2.1.1,iv x172.2.2.1.2.1,iv x172.2.2.1.2.2],.agg #[iv x207.2.2.2.1,iv x207.2.2.2.2.1,iv x207.2.2.2.2.2]]) call13 rfl rfl rfl,ref46_Cross_ok n hC.lt (wrap_I64 hr123) (wrap_I64 hr127) (wrap_I64 hr128) (wrap_I64 hr166) (wrap_I64 hr170) (wrap_I64 hr171) (wrap_I64 hr193) (wrap_I64 hr197) (wrap_I64 hr198) (wrap_I64 hr236) (wrap_I64 hr240) (wrap_I64 hr241) h243⟩) ?_
 rintro _ w245 ⟨rfl,hr244,hK⟩
 replace hM:=hM.none hK.fr
 refine ⟨hM,?_⟩
 replace hC:=hC.merge hK
 clear hK
 refine mp (.tuple #[iv y242.1,.bool y242.2]) (pu_move rfl)<|mp (iv y242.1) (pu_extract rfl rfl)<|mp (.bool y242.2) (pu_extract rfl rfl)<|mp (iv y242.1) (pu_assign rfl)<|mp (.bool y242.2) (pu_assign rfl)<|mixE.nil ?_
 clear hS hM
 refine hK99 _ _<|Wc.fresh fun E246 hE=>?_
 have e0:=cg hE 0 e0
 have e1:=cg hE 1 e1
 have e2:=cg hE 2 e2
 have e6:=cg hE 6 e6
 have e7:=cg hE 7 e7
 have e8:=cg hE 8 e8
 have e9:E246 9=iv y242.1:=cg hE 9 rfl
 have e14:=cg hE 14 e14
 have e32:=cg hE 32 e32
 clear hE
 refine Wc.seq fun _ hK247=>rg<|lp _ (pu_move e9)<|lp (.bool (decide (y242.1=1))) (pu_eql (k:=.i64) (a:=y242.1) (b:=1) rfl rfl)<|ln (hK247 _ _ ?_)
 refine Wc.cond (t:=(decide (y242.1=1))) (rfl) (fun hq248=>?_) (fun hq248=>?_)
 replace hb:=tt hq248 hb
 refine rg<|lp _ (pu_move e7)<|lp _ (pu_move e8)<|lex.op (hC.lit (s:=si) (vs:=[iv c]) (xs:=[c]) underlying30 type3 rfl rfl (nb rfl) rfl rfl (by simp [Value.cells,Sh.n]) rfl (show Elems _ _ si ([iv c]++([])) ([c]:List Int) from Elems.cons (⟨rfl,I64.wr G⟩) (Elems.nil _ _ _))) ?_
 rintro _ w253 ⟨A249,c250,rfl,hl251,hc252,hC,-,-⟩
 obtain ⟨u255,h256,hb⟩:=bd hb
 refine lex.op (hC.app (i:=3) (s:=si) (xs:=f) (ys:=([c]:List Int)) (m:=((([c]:List Int)).length)) rfl underlying30 underlying30 type3 rfl rfl rfl (hC.srco (i:=0) rfl) rfl rfl (by have:=lim_some h256; simp at this⊢ <;>omega) (by decide)) ?_
 rintro _ w261 ⟨A257,c258,rfl,hl259,hc260,hC,-,-⟩
 refine lp (.slice A257 ((f++([c]:List Int)).length) c258) (pu_assign rfl)<|ln (hK18 _ _ ?_)
 refine rg<|lp _ (pu_move e8) ?_
 obtain ⟨z262,h263,hb⟩:=bd hb
 refine lp (iv z262) (pu_addc (a:=c) (b:=1) rfl rfl h263)<|lp (iv z262) (pu_assign rfl)<|ln ?_
 obtain rfl:=os hb
 exact hK10 m11' _ _ (Nat.lt_succ_self _) ⟨(f++([c]:List Int)),z262,A257,(f++([c]:List Int)).length,c258,e0,e1,e2,e6,rfl,rfl,(chk_rng h263),hC.sE [1,2,3],lN hl0⟩
 replace hb:=tf hq248 hb
 refine Wc.skip (hK18 _ _ ?_)
 refine rg<|lp _ (pu_move e8) ?_
 obtain ⟨z264,h265,hb⟩:=bd hb
 refine lp (iv z264) (pu_addc (a:=c) (b:=1) rfl rfl h265)<|lp (iv z264) (pu_assign rfl)<|ln ?_
 obtain rfl:=os hb
 exact hK10 m11' _ _ (Nat.lt_succ_self _) ⟨f,z264,h,f.length,l,e0,e1,e2,e6,e7,rfl,(chk_rng h265),hC.sE [0,1,2],lN hl0⟩
 replace hb:=tf hq98 hb
 refine Wc.skip (hK18 _ _ ?_)
 refine rg<|lp _ (pu_move e8) ?_
 obtain ⟨z266,h267,hb⟩:=bd hb
 refine lp (iv z266) (pu_addc (a:=c) (b:=1) rfl rfl h267)<|lp (iv z266) (pu_assign rfl)<|ln ?_
 obtain rfl:=os hb
 exact hK10 m11' _ _ (Nat.lt_succ_self _) ⟨f,z266,h,f.length,l,e0,e1,e2,e6,e7,rfl,(chk_rng h267),hC.sE [0,1,2],lN hl0⟩
 replace hb:=tf hq17 hb
 refine Wc.exit rfl ?_
 obtain rfl:=os hb
 obtain rfl:=(lX hl0).symm
 exact hK9 _ _ ⟨f,c,h,f.length,l,e6,e7,G,hC.sE [2],hbK0⟩
 clear hb hC hl0
 rintro E269 w268 ⟨f,c,h,y,l,e6,e7,G,hC,hb⟩
 obtain ⟨rfl,M,N⟩:=(hC.ow (i:=0) rfl).sl_len
 refine hK5 _ _<|Wc.seq fun _ hK270=>rg<|lp _ (pu_move e7)<|lp (.slice h f.length l) (pu_assign rfl)<|ln (hK270 _ _ ?_)
 obtain rfl:=os hb
 refine Wc.ret (hKR _ _ ?_)
 refine ⟨_,res1 results59 (tV (.slice h f.length l) rfl),_,rfl,h,f.length,l,rfl,hC.sE [0]⟩
end Go.Proofs.Yteajmbanlohncaa
