import Derived.Test.YtpnppjlnfhlmpaaS
import Derived.Test.YtpnppjlnfhlmpaaG1
import Derived.Test.YtpnppjlnfhlmpaaG2
import Derived.Test.YtpnppjlnfhlmpaaG3
set_option linter.all false
namespace Go.Proofs.Ytpnppjlnfhlmpaa
open Ev Try
set_option maxRecDepth 100000
set_option maxHeartbeats 4000000
theorem slices_Backward_Lint_int_it {gb:Nat} {A:Option Addr} {c:Nat} {xs:List Int}:IterOk prog 35 #[pg gb] xs.length (fun k=>#[iv ((xs.length:Int)-1-(k:Int)),iv (xs.getD (xs.length-1-k) 0)]) (RdBack gb 22 A c xs):=by
  intro l A' B W hrd hround hA0
  refine qao func35 rfl (by rw [ntmps35]; exact nb rfl) fun KR hKR=>?_
  have fin: ∀E w,(A' xs.length w∨B w)→KR E w:=fun E w h=>hKR _ _ ⟨_,res0 results35,⟨_,rfl⟩,h⟩
  refine Wc.seq fun _ hK1=>?_
  refine rg ?_
  obtain ⟨hb,hl,hx⟩:=hrd 0 W hA0
  refine lv (.slice A xs.length c) (qaw isAgg22 rfl (hb.cell (j:=0) rfl)) ?_
  refine lp (iv (xs.length:Int)) (qay (A:=A) (n:=xs.length) (m:=c) underlying22 rfl) ?_
  refine lp (iv ((xs.length:Int)-1)) (pu_sub (a:=(xs.length:Int)) (b:=1) rfl rfl (by unfold I64; omega)) ?_
  refine lp (iv ((xs.length:Int)-1)) (qab rfl) ?_
  refine ln ?_
  refine hK1 _ _ ?_
  refine Wc.block ?_
  refine Wc.loop (fun m E wv=> ∃k:Nat,m=xs.length-k∧k≤xs.length∧E 0=.func (.yield l) #[] #[]∧E 1=pg gb∧E 3=iv ((xs.length:Int)-1-(k:Int))∧A' k wv) xs.length ⟨0,by omega,by omega,rfl,rfl,by rw [show (xs.length:Int)-1-((0:Nat):Int)=(xs.length:Int)-1 by omega]; rfl,hA0⟩ ?_
  clear hb hx hA0
  rintro m E1 w1 ⟨k,rfl,hk,e0,e1,e3,hA⟩ K hK
  obtain ⟨hb,_,hx⟩:=hrd k w1 hA
  refine Wc.seq fun _ hK2=>?_
  refine Wc.seq fun _ hK3=>?_
  refine rg ?_
  refine lp _ (qaa e3) ?_
  refine lp (.bool (decide (0≤(xs.length:Int)-1-(k:Int)))) (pu_geq (k:=.i64) (a:=(xs.length:Int)-1-(k:Int)) (b:=0) rfl rfl) ?_
  refine ln ?_
  refine hK3 _ _ ?_
  refine Wc.cond (t:=decide (0≤(xs.length:Int)-1-(k:Int))) rfl (fun hq=>?_) (fun hq=>?_)
  · refine Wc.skip ?_
    refine hK2 _ _ ?_
    have hkl:k<xs.length:=by have:=of_decide_eq_true hq; omega
    have hi:xs[xs.length-1-k]? =some (xs.getD (xs.length-1-k) 0):=by
      rw [List.getD_eq_getElem?_getD,List.getElem?_eq_getElem (by omega)]; rfl
    obtain ⟨ad,hA1,hcell⟩:=hx _ _ hi
    subst hA1
    refine Wc.seq fun _ hK4=>?_
    refine Wc.block ?_
    refine Wc.seq fun _ hK5=>?_
    refine rg ?_
    refine lp _ (qaa e0) ?_
    refine lp _ (qaa e3) ?_
    refine lv (.slice (some ad) xs.length c) (qaw isAgg22 e1 (hb.cell (j:=0) rfl)) ?_
    refine lp _ (qaa e3) ?_
    refine lp (.pointer (some (ad.add (((xs.length:Int)-1-(k:Int)).toNat*1)))) (qar (a:=(xs.length:Int)-1-(k:Int)) underlying22 sizeOf3 rfl rfl (by omega)) ?_
    refine lv (iv (xs.getD (xs.length-1-k) 0)) (qaw isAgg3 rfl (by rw [show ((xs.length:Int)-1-(k:Int)).toNat*1=xs.length-1-k by omega]; exact hcell)) ?_
    obtain ⟨fn,tmps,assign,body,hy,hR⟩:=hround k w1 hkl hA
    refine lex.yield (op_yield (vs:=[iv ((xs.length:Int)-1-(k:Int)),iv (xs.getD (xs.length-1-k) 0)]) rfl rfl rfl hy) hR ?_
    rintro e w2 (⟨rfl,hA2⟩ | ⟨rfl,hB⟩)
    · refine ⟨_,rfl,?_⟩
      refine lp (.bool (!true)) (qbt rfl) ?_
      refine ln ?_
      refine hK5 _ _ ?_
      refine Wc.cond_false rfl ?_
      refine Wc.skip ?_
      refine hK4 _ _ ?_
      refine rg ?_
      refine lp _ (qaa e3) ?_
      refine lp (iv ((xs.length:Int)-1-(k:Int)-1)) (pu_sub (a:=(xs.length:Int)-1-(k:Int)) (b:=1) rfl rfl (by unfold I64; omega)) ?_
      refine lp (iv ((xs.length:Int)-1-(k:Int)-1)) (qab rfl) ?_
      refine ln ?_
      exact hK (xs.length-(k+1)) _ _ (by omega) ⟨k+1,rfl,by omega,e0,e1,by rw [show (xs.length:Int)-1-((k+1:Nat):Int)=(xs.length:Int)-1-(k:Int)-1 by omega]; rfl,hA2⟩
    · refine ⟨_,rfl,?_⟩
      refine lp (.bool (!false)) (qbt rfl) ?_
      refine ln ?_
      refine hK5 _ _ ?_
      refine Wc.cond_true rfl ?_
      refine Wc.ret ?_
      exact fin _ _ (.inr hB)
  · refine Wc.exit rfl ?_
    have:k=xs.length:=by have:=of_decide_eq_false hq; omega
    subst this
    exact fin _ _ (.inl hA)
theorem slices_Backward_Lint_int_ok {w:World} {O0:List Nat} {A:Option Addr} {m c:Nat} (hO: ∀k∈O0,k<w.heap.size):Calls prog 15 #[.slice A m c] w fun e w'=> ∃v,e=.returned v∧∃gb,v=.func (.func 35) #[] #[pg gb]∧Cx (fun _=>False) O0 w w' [.box gb 22 [.slice A m c]]:=by
  have hC:=Cx.start hO
  refine qao func15 rfl (by rw [ntmps15]; exact nb rfl) fun KR hKR=>?_
  refine Wc.seq fun _ hK1=>?_
  refine rg ?_
  refine lex.op (hC.box (cs:=[.slice A m c]) rfl rfl) ?_
  rintro _ w2 ⟨g1,rfl,hC,hF,hG⟩
  refine lp (.nilFunc) (qab rfl) ?_
  refine ln ?_
  refine hK1 _ _ ?_
  refine Wc.seq fun _ hK2=>?_
  refine rg ?_
  refine lp (.func (.func 35) #[] #[pg g1]) (qga (l:=[pg g1]) rfl) ?_
  refine lp (.func (.func 35) #[] #[pg g1]) (qab rfl) ?_
  refine ln ?_
  refine hK2 _ _ ?_
  refine Wc.ret ?_
  refine hKR _ _ ?_
  exact ⟨_,res1 results15 (tV (.func (.func 35) #[] #[pg g1]) rfl),_,rfl,g1,rfl,hC⟩

theorem braid_Inverse_ok (n:Nat) {w:World} {O0:List Nat} (hO: ∀k∈O0,k<w.heap.size) {u:Int} (C:I64 u) {f:Option Addr} {D g:Nat} {b:List Int} (G:Rep O0 w (.sl si) [.slice f D g] b) {r:Int×(List Int)} (hb:F.qhf n u b=some r):
    Calls prog 7 #[.agg #[iv u,.slice f D g]] w fun e w'=> ∃v,e=.returned v∧∃(A1:Option Addr) (m1 c1:Nat),v=.agg #[iv r.1,.slice A1 m1 c1]∧I64 r.1∧Cx (fun _=>False) O0 w w' [.own 3 si (.slice A1 m1 c1) r.2]:=by
 unfold F.qhf at hb
 have hC:=Cx.start hO
 replace hC:=hC.arg rfl G
 clear hO
 obtain ⟨rfl,K,M⟩:=G.qae
 replace hC:Cx (fun _=>False) O0 w w ([.ro (.sl si) [.slice f b.length g] b]++marksF ([]:List Nat)):=hC
 refine calls_of_WcM func7 rfl (by rw [ntmps7]; exact nb rfl) fun KR hKR=>?_
 refine Wc.seq fun _ hK2=>rg ?_
 replace hC:Cx (fun _=>False) O0 w w ([.ro (.sl si) [.slice f b.length g] b]++marksF ([]:List Nat)):=hC
 refine lex.op (hC.box (cs:=[iv u,.slice f b.length g]) rfl rfl) ?_
 rintro _ w4 ⟨g3,rfl,hC,hF,-⟩
 replace hC:Cx (fun _=>False) O0 w w4 ([.box g3 24 [iv u,.slice f b.length g],.ro (.sl si) [.slice f b.length g] b]++marksF ([]:List Nat)):=hC
 refine lex.op (hC.alloc (cs:=[iv 0,.slice none 0 0]) zeroValue24 rfl) ?_
 rintro _ w7 ⟨g6,rfl,hC,hF,-⟩
 refine ln (hK2 _ _ ?_)
 refine Wc.seq fun _ hK9=>?_
 refine Wc.seq fun _ hK10=>rg ?_
 replace hC:Cx (fun _=>False) O0 w w7 ([.box g6 24 [iv 0,.slice none 0 0],.box g3 24 [iv u,.slice f b.length g],.ro (.sl si) [.slice f b.length g] b]++marksF ([]:List Nat)):=hC
 refine lv (.agg #[iv u,.slice f b.length g]) (qaq (hC.bx (i:=1) rfl) isAgg24 sizeOf24 rfl) ?_
 obtain ⟨y11,h12,hb⟩:=bd hb
 refine lex.cl (⟨_,_,qam (vs:=[.agg #[iv u,.slice f b.length g]]) call5 rfl rfl rfl,qgh n hC.lt C (hC.rd (i:=2) rfl) h12⟩) ?_
 rintro _ w13 ⟨rfl,hK⟩
 replace hC:=hC.merge hK
 clear hK
 replace hC:Cx (fun _=>False) O0 w w13 ([.box g6 24 [iv 0,.slice none 0 0],.box g3 24 [iv u,.slice f b.length g],.ro (.sl si) [.slice f b.length g] b]++marksF ([]:List Nat)):=hC
 refine lp (.bool (!y11)) (qbt (q:=y11) rfl)<|ln (hK10 _ _ ?_)
 refine Wc.cond (t:=(!y11)) (rfl) (fun hq14=>?_) (fun hq14=>?_)
 replace hb:=tt hq14 hb
 refine Wc.seq fun _ hK15=>rg<|lp (.agg #[iv 0,.slice none 0 0]) (qat (places:=[(0,1),(1,1)]) (pv:=[]) type24 underlying24 rfl (qag type3 (qag type22 qbb rfl rfl) rfl rfl) rfl (by simp [Instr.fill,Value.cells]))<|lex.sk (hC.seta (i:=0) (ds:=[iv 0,.slice none 0 0]) rfl type24 rfl rfl rfl rfl rfl) ?_
 rintro w16 ⟨hC,hF⟩
 refine ln (hK15 _ _ ?_)
 replace hC:=hC.nil 3 si
 replace hC:Cx (fun _=>False) O0 w w16 ([.own 3 si (.slice none 0 0) ([]:List Int),.box g6 24 [iv 0,.slice none 0 0],.box g3 24 [iv u,.slice f b.length g],.ro (.sl si) [.slice f b.length g] b]++marksF ([]:List Nat)):=hC
 obtain rfl:=os hb
 refine Wc.ret ?_
 replace hC:Cx (fun _=>False) O0 w w16 (marksF ([]:List Nat)++[.own 3 si (.slice none 0 0) ([]:List Int),.box g6 24 [iv 0,.slice none 0 0],.box g3 24 [iv u,.slice f b.length g],.ro (.sl si) [.slice f b.length g] b]):=hC.perm List.perm_append_comm
 refine hKR _ _ _ _ _ _ _ rfl hC fun w18 hC=>?_
 refine ⟨_,res1 results7 ⟨_,rfl,qai (hC.bx (i:=1) rfl) isAgg24 sizeOf24⟩,_,rfl,none,0,0,rfl,(show I64 0 from by unfold I64; omega),hC.sE [0]⟩
 replace hb:=tf hq14 hb
 refine Wc.skip (hK9 _ _ ?_)
 refine Wc.seq fun _ hK19=>rg<|lp (.pointer (some ((⟨g3,0,none⟩:Addr).add 1))) (qaf (sz:=1) underlying24 rfl sizeOf22 (by decide) rfl rfl)<|lv (.slice f b.length g) (qal (hC.bx (i:=1) rfl) isAgg22 rfl rfl)<|lp (iv (b.length:Int)) (qay (A:=f) (n:=b.length) (m:=g) underlying22 rfl) ?_
 obtain ⟨u20,h21,hb⟩:=bd hb
 refine lex.op (hC.make0 (s:=si) (n:=(b.length:Int)) underlying22 type3 rfl rfl rfl rfl (qaj h21).1 (qaj h21).2 (by decide)) ?_
 rintro _ w26 ⟨A22,c23,rfl,hl24,hc25,hC,-,-⟩
 replace hC:Cx (fun _=>False) O0 w w26 ([.own 3 si (.slice A22 ((([]:List Int)).length) c23) ([]:List Int),.box g6 24 [iv 0,.slice none 0 0],.box g3 24 [iv u,.slice f b.length g],.ro (.sl si) [.slice f b.length g] b]++marksF ([]:List Nat)):=hC
 refine lex.op (hC.alloc (cs:=[.slice none 0 0]) zeroValue22 rfl) ?_
 rintro _ w29 ⟨g28,rfl,hC,hF,-⟩
 replace hC:Cx (fun _=>False) O0 w w29 ([.box g28 22 [.slice none 0 0],.own 3 si (.slice A22 ((([]:List Int)).length) c23) ([]:List Int),.box g6 24 [iv 0,.slice none 0 0],.box g3 24 [iv u,.slice f b.length g],.ro (.sl si) [.slice f b.length g] b]++marksF ([]:List Nat)):=hC
 refine lex.sk (hC.setf (i:=0) (k:=0) (v:=.slice A22 ((([]:List Int)).length) c23) rfl sizeOf22 rfl (by rw [Addr.add_zero']; exact rfl) rfl rfl) ?_
 rintro w31 ⟨hC,hF⟩
 refine ln (hK19 _ _ ?_)
 refine Wc.fresh fun E32 hE=>?_
 have e1:E32 1=pg g3:=cg hE 1 rfl
 have e2:E32 2=pg g6:=cg hE 2 rfl
 have e3:E32 3=pg g28:=cg hE 3 rfl
 clear hE
 refine Wc.seq fun _ hK33=>?_
 refine Wc.seq fun _ hK34=>rg ?_
 replace hC:Cx (fun _=>False) O0 w w31 ([.box g28 22 [.slice A22 ((([]:List Int)).length) c23],.own 3 si (.slice A22 ((([]:List Int)).length) c23) ([]:List Int),.box g6 24 [iv 0,.slice none 0 0],.box g3 24 [iv u,.slice f b.length g],.ro (.sl si) [.slice f b.length g] b]++marksF ([]:List Nat)):=hC
 refine lp (.pointer (some ((⟨g3,0,none⟩:Addr).add 1))) (qaf (sz:=1) underlying24 rfl sizeOf22 (by decide) rfl e1)<|lv (.slice f b.length g) (qal (hC.bx (i:=3) rfl) isAgg22 rfl rfl)<|lex.cl (⟨_,_,qam (vs:=[.slice f b.length g]) call15 rfl rfl rfl,slices_Backward_Lint_int_ok (m:=b.length) hC.lt⟩) ?_
 rintro _ w37 ⟨g35,rfl,hK⟩
 replace hC:=hC.merge hK
 clear hK
 refine ln (hK34 _ _ ?_)
 replace hC:Cx (fun _=>False) O0 w w37 ([.box g35 22 [.slice f b.length g],.box g28 22 [.slice A22 ((([]:List Int)).length) c23],.own 3 si (.slice A22 ((([]:List Int)).length) c23) ([]:List Int),.box g6 24 [iv 0,.slice none 0 0],.box g3 24 [iv u,.slice f b.length g],.ro (.sl si) [.slice f b.length g] b]++marksF ([]:List Nat)):=hC
 obtain ⟨o38,hl0,hb⟩:=bd hb
 refine Wc.cut (fun E wv=> ∃(B:List Nat) (d:List Int) (o:Option Addr) (x p:Nat),E 1=pg g3∧E 2=pg g6∧E 3=pg g28∧E.ms=B∧Cx (fun _=>False) O0 w wv ([.box g3 24 [iv u,.slice f b.length g],.ro (.sl si) [.slice f b.length g] b,.box g6 24 [iv 0,.slice none 0 0],.box g28 22 [.slice o x p],.own 3 si (.slice o x p) d]++marksF B)∧(some (u,d):Option (Int×(List Int)))=some r) (fun _ hK39=>?_) ?_
 refine Wc.block ?_
 replace hC:=hC.selT [4,5,3,1,2,0] (by decide)
 replace hC:Cx (fun _=>False) O0 w w37 ([.box g3 24 [iv u,.slice f b.length g],.ro (.sl si) [.slice f b.length g] b,.box g6 24 [iv 0,.slice none 0 0],.box g28 22 [.slice A22 ((([]:List Int)).length) c23],.own 3 si (.slice A22 ((([]:List Int)).length) c23) ([]:List Int),.box g35 22 [.slice f b.length g]]++marksF ([]:List Nat)):=hC
 refine Wc.range (fun kk L=> ∃(m:Nat) (d:List Int) (o:Option Addr) (x p:Nat),L=([.box g3 24 [iv u,.slice f b.length g],.ro (.sl si) [.slice f b.length g] b,.box g6 24 [iv 0,.slice none 0 0],.box g28 22 [.slice o x p],.own 3 si (.slice o x p) d,.box g35 22 [.slice f b.length g]]++marksF ([]:List Nat))∧loopN m (F.qdo n b) (kk,d)=some o38) (fun _=>False) ([]:List Nat) (fun id L=> ∃(d:List Int) (o:Option Addr) (x p:Nat),L=([.box g3 24 [iv u,.slice f b.length g],.ro (.sl si) [.slice f b.length g] b,.box g6 24 [iv 0,.slice none 0 0],.box g28 22 [.slice o x p],.own 3 si (.slice o x p) d,.box g35 22 [.slice f b.length g]]++marksF ([]:List Nat))∧o38=d) rfl call35 (slices_Backward_Lint_int_it (A:=f) (c:=g) (xs:=b)) (fun _=>rfl) (by simp) (fun kk=>[(17,iv ((b.length:Int)-1-(kk:Int))),(18,iv (b.getD (b.length-1-kk) 0))]) (fun kk=>by simp) hC ⟨n,([]:List Int),A22,(([]:List Int)).length,c23,rfl,hl0⟩ ?_ _ (fun l kk W=>Wc.region (by decide+kernel) (lex.pure (v:=iv (b.getD (b.length-1-kk) 0)) (qab rfl) (lex.nil ⟨rfl,rfl⟩))) ?_ ?_ ?_ ?_
 rintro k L W f1 f2 ⟨m,d,o,x,p,rfl,hl0⟩ hC
 exact rdBackR hC (i:=7) (j:=3) rfl rfl
 have hbK0:=hb
 clear hb hC hl0
 rintro P l44 D45 oB46 oK47 L w41 hk ⟨m40,d,o,x,p,rfl,hl0⟩ hC Kn Kr Kx hKn hKr hKx
 obtain ⟨m40',o43,rfl,hb,hl0⟩:=qax hl0
 unfold F.qdo at hb
 replace hb:=(cT (decide_eq_true hk)).symm.trans hb
 obtain ⟨H,hxx,hb⟩:=bd hb
 have N:I64 H:=by obtain ⟨_,_,_,_,hr⟩:=hC.elr (i:=3) rfl (rev_i hxx); exact i64w hr.2
 refine Wc.fresh fun E42 hE=>?_
 have e1:=cg hE 1 e1
 have e2:=cg hE 2 e2
 have e3:=cg hE 3 e3
 have e16:E42 16=.func (.func 35) #[] #[pg g35]:=cg hE 16 rfl
 have e18:E42 18=iv H:=(congrFun hE 18).trans (congrArg (Value.int .i64) (rev_x hxx))
 have e5:E42 5=iv H:=(congrFun hE 5).trans (congrArg (Value.int .i64) (rev_x hxx))
 clear hE
 obtain ⟨rfl,y,z⟩:=(hC.ow (i:=6) rfl).qae
 refine Wc.block<|rg ?_
 replace hC:Cx (fun _=>False) O0 w w41 ([.obj l44 oB46,.obj D45 oK47,.box g3 24 [iv u,.slice f b.length g],.ro (.sl si) [.slice f b.length g] b,.box g6 24 [iv 0,.slice none 0 0],.box g28 22 [.slice o d.length p],.own 3 si (.slice o d.length p) d,.box g35 22 [.slice f b.length g]]++marksF ([]:List Nat)):=hC
 refine lv (.slice o d.length p) (qaw isAgg22 e3 ((hC.bx (i:=5) rfl).cell (j:=0) rfl))<|lp _ (qaa e5) ?_
 obtain ⟨z50,h51,hb⟩:=bd hb
 refine lp (iv z50) (pu_negc (a:=H) rfl h51)<|lex.op (hC.lit (s:=si) (vs:=[iv z50]) (xs:=[z50]) underlying22 type3 rfl rfl (nb rfl) rfl rfl (by simp [Value.cells,Sh.n]) rfl (show Elems _ _ si ([iv z50]++([])) ([z50]:List Int) from Elems.cons (⟨rfl,I64.wr (qah h51)⟩) (Elems.nil _ _ _))) ?_
 rintro _ w56 ⟨A52,c53,rfl,hl54,hc55,hC,-,-⟩
 replace hC:Cx (fun _=>False) O0 w w56 ([.own 3 si (.slice A52 ((([z50]:List Int)).length) c53) ([z50]:List Int),.obj l44 oB46,.obj D45 oK47,.box g3 24 [iv u,.slice f b.length g],.ro (.sl si) [.slice f b.length g] b,.box g6 24 [iv 0,.slice none 0 0],.box g28 22 [.slice o d.length p],.own 3 si (.slice o d.length p) d,.box g35 22 [.slice f b.length g]]++marksF ([]:List Nat)):=hC
 obtain ⟨u58,h59,hb⟩:=bd hb
 refine lex.op (hC.app (i:=7) (s:=si) (xs:=d) (ys:=([z50]:List Int)) (m:=((([z50]:List Int)).length)) rfl underlying22 underlying22 type3 rfl rfl rfl (hC.srco (i:=0) rfl) rfl rfl (by have:=qew h59; simp at this⊢ <;>omega) (by decide)) ?_
 rintro _ w64 ⟨A60,c61,rfl,hl62,hc63,hC,-,-⟩
 replace hC:Cx (fun _=>False) O0 w w64 ([.own 3 si (.slice A52 ((([z50]:List Int)).length) c53) ([z50]:List Int),.obj l44 oB46,.obj D45 oK47,.box g3 24 [iv u,.slice f b.length g],.ro (.sl si) [.slice f b.length g] b,.box g6 24 [iv 0,.slice none 0 0],.box g28 22 [.slice o d.length p],.own 3 si (.slice A60 ((d++([z50]:List Int)).length) c61) (d++([z50]:List Int)),.box g35 22 [.slice f b.length g]]++marksF ([]:List Nat)):=hC
 refine lex.sk (hC.setf (i:=6) (k:=0) (v:=.slice A60 ((d++([z50]:List Int)).length) c61) rfl sizeOf22 rfl (by rw [Addr.add_zero']; exact e3) rfl rfl) ?_
 rintro w65 ⟨hC,hF⟩
 refine ln ?_
 obtain rfl:=os hb
 replace hC:Cx (fun _=>False) O0 w w65 ([.own 3 si (.slice A52 ((([z50]:List Int)).length) c53) ([z50]:List Int),.obj l44 oB46,.obj D45 oK47,.box g3 24 [iv u,.slice f b.length g],.ro (.sl si) [.slice f b.length g] b,.box g6 24 [iv 0,.slice none 0 0],.box g28 22 [.slice A60 ((d++([z50]:List Int)).length) c61],.own 3 si (.slice A60 ((d++([z50]:List Int)).length) c61) (d++([z50]:List Int)),.box g35 22 [.slice f b.length g]]++marksF ([]:List Nat)):=hC
 exact hKn _ _ _ ⟨m40',(d++([z50]:List Int)),A60,(d++([z50]:List Int)).length,c61,rfl,lN hl0⟩ (hC.selT [1,2,3,4,5,6,7,8] (by decide))
 rintro J L wv ⟨m,d,o,x,p,rfl,hl0⟩ hC
 obtain ⟨m',o2,rfl,hb2,hl2⟩:=qax hl0
 unfold F.qdo at hb2
 replace hb2:=(cF (decide_eq_false (Nat.lt_irrefl _))).symm.trans hb2
 obtain rfl:=os hb2
 obtain rfl:=(lX hl2).symm
 replace hC:=hC.markIn
 obtain ⟨rfl,y,z⟩:=(hC.ow (i:=4) rfl).qae
 replace hC:Cx (fun _=>False) O0 w wv ([.box g3 24 [iv u,.slice f b.length g],.ro (.sl si) [.slice f b.length g] b,.box g6 24 [iv 0,.slice none 0 0],.box g28 22 [.slice o d.length p],.own 3 si (.slice o d.length p) d,.box g35 22 [.slice f b.length g]]++marksF (J::([]:List Nat))):=hC
 exact hK39 _ _ ⟨(J::([]:List Nat)),d,o,d.length,p,e1,e2,e3,rfl,hC.selT [0,1,2,3,4] (by decide),hb⟩
 exact fun _ _ _ h=>h.elim
 exact fun _ _ _ _ h=>absurd h List.not_mem_nil
 clear hb hC hl0
 rintro E67 w66 ⟨B,d,o,x,p,e1,e2,e3,hms,hC,hb⟩
 obtain ⟨rfl,y,z⟩:=(hC.ow (i:=4) rfl).qae
 refine hK33 _ _<|Wc.seq fun _ hK68=>rg ?_
 replace hC:Cx (fun _=>False) O0 w w66 ([.box g3 24 [iv u,.slice f b.length g],.ro (.sl si) [.slice f b.length g] b,.box g6 24 [iv 0,.slice none 0 0],.box g28 22 [.slice o d.length p],.own 3 si (.slice o d.length p) d]++marksF B):=hC
 refine lp (.pointer (some ((⟨g3,0,none⟩:Addr).add 0))) (qaf (sz:=1) underlying24 rfl sizeOf3 (by decide) rfl e1)<|lv (iv u) (qal (hC.bx (i:=0) rfl) isAgg3 rfl rfl)<|lv (.slice o d.length p) (qaw isAgg22 e3 ((hC.bx (i:=3) rfl).cell (j:=0) rfl))<|lp (.agg #[iv u,.slice o d.length p]) (qat (places:=[(0,1),(1,1)]) (pv:=[(0,iv u),(1,.slice o d.length p)]) type24 underlying24 rfl (qag type3 (qag type22 qbb rfl rfl) rfl rfl) rfl (by simp [Instr.fill,Value.cells]))<|lex.sk (hC.seta (i:=2) (ds:=[iv u,.slice o d.length p]) rfl type24 rfl rfl rfl e2 rfl) ?_
 rintro w69 ⟨hC,hF⟩
 refine ln (hK68 _ _ ?_)
 replace hC:Cx (fun _=>False) O0 w w69 ([.box g3 24 [iv u,.slice f b.length g],.ro (.sl si) [.slice f b.length g] b,.box g6 24 [iv u,.slice o d.length p],.box g28 22 [.slice o d.length p],.own 3 si (.slice o d.length p) d]++marksF B):=hC
 obtain rfl:=os hb
 refine Wc.ret ?_
 replace hC:Cx (fun _=>False) O0 w w69 (marksF B++[.box g3 24 [iv u,.slice f b.length g],.ro (.sl si) [.slice f b.length g] b,.box g6 24 [iv u,.slice o d.length p],.box g28 22 [.slice o d.length p],.own 3 si (.slice o d.length p) d]):=hC.perm List.perm_append_comm
 refine hKR _ _ _ _ _ _ _ hms hC fun w70 hC=>?_
 refine ⟨_,res1 results7 ⟨_,e2,qai (hC.bx (i:=2) rfl) isAgg24 sizeOf24⟩,_,rfl,o,d.length,p,rfl,C,hC.sE [4]⟩

theorem braid_generator_ok (n:Nat) {w:World} {O0:List Nat} (hO: ∀k∈O0,k<w.heap.size) {c:Int} (d:I64 c) {r:Int} (hb:F.qgs n c=some r):
    Calls prog 18 #[iv c] w fun e w'=> ∃v,e=.returned v∧v=iv r∧I64 r∧Cx (fun _=>False) O0 w w' []:=by
 unfold F.qgs at hb
 have hC:=Cx.start hO
 clear hO
 refine qao func18 rfl (by rw [ntmps18]; exact nb rfl) fun KR hKR=>?_
 refine Wc.seq fun _ hK1=>rg<|lp (iv 0) (qab rfl)<|ln (hK1 _ _ ?_)
 refine Wc.seq fun _ hK2=>rg<|lp (iv c) (qaa rfl)<|lp (iv c) (qaa rfl) ?_
 obtain ⟨z3,h4,hb⟩:=bd hb
 refine lp (iv z3) (pu_negc (a:=c) rfl h4)<|lp (iv (max c z3)) (pu_max (a:=c) (b:=z3) rfl rfl)<|lp (iv (max c z3)) (qab rfl)<|ln (hK2 _ _ ?_)
 obtain rfl:=os hb
 refine Wc.ret (hKR _ _ ?_)
 refine ⟨_,res1 results18 (tV (iv (max c z3)) rfl),_,rfl,rfl,(I64.max d (qah h4)),hC.sE []⟩

theorem braid_Closure_c1_ok (n:Nat) {w:World} {O0:List Nat} (hO: ∀k∈O0,k<w.heap.size) {f:Int} (t:I64 f) {l:Int} (u:I64 l) {o:Nat} {g:Option Addr} {q h:Nat} {p:List Int} (s:Rep O0 w (.sl si) [.slice g q h] p) {b:Option Addr} {j c:Nat} {d:List Int} {m:Int} (B:I64 m) (hio:Tk O0 w [.own 3 si (.slice b j c) d,.box o 32 [.slice g q h,.slice b j c,iv m]]) {r:(List Int)} (hb:F.qfi n f l p d m=some r):
    Calls prog 16 #[iv f,iv l,pg o] w fun e w'=> ∃v,e=.returned v∧v=.tuple #[]∧Cx (fun k=>k∈blocks [.own 3 si (.slice b j c) d,.box o 32 [.slice g q h,.slice b j c,iv m]]) O0 w w' [.own 3 si (.slice b j c) r,.box o 32 [.slice g q h,.slice b j c,iv m]]:=by
 unfold F.qfi at hb
 have hC:=Cx.startTk hO hio
 have hsub:=hio.2.2
 replace hC:=hC.argTk (by first | exact hsub | exact fun k hk=>hsub k (by simpa [blocks,Fact.blk] using hk)) s
 clear hO
 obtain ⟨rfl,x,y⟩:=s.qae
 obtain ⟨rfl,z,A⟩:=(hC.ow (i:=1) rfl).qae
 clear hio hsub
 obtain ⟨I,hI,hC⟩: ∃I:Nat→Prop,I=(fun k=>k∈blocks [.own 3 si (.slice b d.length c) d,.box o 32 [.slice g p.length h,.slice b d.length c,iv m]])∧Cx I O0 w w ([.ro (.sl si) [.slice g p.length h] p,.own 3 si (.slice b d.length c) d,.box o 32 [.slice g p.length h,.slice b d.length c,iv m]]):=⟨_,rfl,hC⟩
 refine qao func16 rfl (by rw [ntmps16]; exact nb rfl) fun KR hKR=>?_
 refine Wc.regionMix [6,9] (frm [6,9] ([]:List Fact) [.own 3 si (.slice b d.length c) d]) (fun _=>rfl) mixed (by decide+kernel) (by decide+kernel) fun w5 hw4=>?_
 replace hC:=hC.step (Fr.qcx hw4)
 have hM:=Fr.refl (fun k=>k∈blocks ([]:List Fact)) w5
 clear hw4
 have hS:=hC
 have hD:Fr (fun k=>k∈blocks (([]:List Fact)++[.own 3 si (.slice b d.length c) d])) w5 w5:=hM.wide
 have hUf3:Beside (([]:List Fact)++[.own 3 si (.slice b d.length c) d]) w5 (.slice b d.length c):=Beside.of (i:=0) rfl
 refine mp (.pointer (some ((⟨o,0,none⟩:Addr).add 1))) (qaf (sz:=1) underlying32 rfl sizeOf22 (by decide) rfl rfl)<|mixE.steady hD (v:=.slice b d.length c) (fun _ hF=>qal (hS.bx2 (i:=2) rfl [1] (by decide) hF) isAgg22 rfl rfl)<|mp (iv f) (qaa rfl)<|mp (.pointer (some ((⟨o,0,none⟩:Addr).add 1))) (qaf (sz:=1) underlying32 rfl sizeOf22 (by decide) rfl rfl)<|mixE.steady hD (v:=.slice b d.length c) (fun _ hF=>qal (hS.bx2 (i:=2) rfl [1] (by decide) hF) isAgg22 rfl rfl)<|mp (iv l) (qaa rfl)<|mp (iv l) (qaa rfl)<|mp (iv f) (qaa rfl) ?_
 obtain ⟨x6,h7,hb⟩:=bd hb
 obtain ⟨ad8,cs9,hA,ho12,hc10,hr11⟩:=hS.elo2 (i:=1) rfl (qad h7).2 [] (by decide)
 subst hA
 refine mp (.pointer (some (ad8.add (f.toNat*1)))) (qar (a:=f) underlying22 sizeOf3 rfl rfl (qad h7).1)<|mixE.sk hD (hC.put (i:=1) rfl rfl sizeOf3 (k:=f.toNat) (a:=l) (by have:=(qad h7).1; simp at this⊢; omega) (⟨rfl,I64.wr u⟩) rfl rfl rfl) ?_
 rintro w13 ⟨hC,hF⟩
 replace hD:=hD.beside hUf3 hF
 clear hF
 refine ⟨hD,?_⟩
 obtain ⟨x14,h15,hb⟩:=bd hb
 obtain ⟨ad16,cs17,hA,hc18,hr19⟩:=hC.elo (i:=1) rfl (qad h15).2
 obtain rfl:=Option.some.inj hA
 refine mp (.pointer (some (ad8.add (l.toNat*1)))) (qar (a:=l) underlying22 sizeOf3 rfl rfl (by rw [(hC.ow (i:=1) rfl).qae.1]; exact (qad h15).1))<|mixE.sk hD (hC.put (i:=1) rfl rfl sizeOf3 (k:=l.toNat) (a:=f) (by have:=(qad h15).1; simp at this⊢; omega) (⟨rfl,I64.wr t⟩) rfl rfl rfl) ?_
 rintro w20 ⟨hC,hF⟩
 replace hD:=hD.beside hUf3 hF
 clear hF
 refine ⟨hD,?_⟩
 refine mixE.nil ?_
 clear hS hM
 clear hD
 obtain rfl:=os hb
 subst hI
 refine hKR _ _ ?_
 refine ⟨_,res0 results16,_,rfl,rfl,hC.sE [1,2]⟩

theorem braid_Closure_c2_ok (n:Nat) {w:World} {O0:List Nat} (hO: ∀k∈O0,k<w.heap.size) {m:Int} (U:I64 m) {M:Int} (T:I64 M) {K:Int} (S:I64 K) {L:Nat} {B:Option Addr} {H x:Nat} {y:List Int} {N:Nat} {z:Option Addr} {J A:Nat} {C:List Int} {P:Nat} {o:Nat} {p:Option Addr} {G q:Nat} {s:List Int} (Q:Rep O0 w (.sl si) [.slice p G q] s) {d:Option Addr} {D l:Nat} {c:List Int} {u:Int} (R:I64 u) (hio:Tk O0 w [.own 3 si (.slice B H x) y,.own 3 si (.slice z J A) C,.own 3 si (.slice d D l) c,.box L 22 [.slice B H x],.box N 22 [.slice z J A],.box P 53 [.func (.func 16) #[] #[pg o]],.box o 32 [.slice p G q,.slice d D l,iv u]]) {r:(List Int)×(List Int)×(List Int)} (hb:F.qfj n m M K y C s c u=some r):
    Calls prog 17 #[iv m,iv M,iv K,pg L,pg N,pg P] w fun e w'=> ∃v,e=.returned v∧v=.tuple #[]∧Cx (fun k=>k∈blocks [.own 3 si (.slice B H x) y,.own 3 si (.slice z J A) C,.own 3 si (.slice d D l) c,.box L 22 [.slice B H x],.box N 22 [.slice z J A],.box P 53 [.func (.func 16) #[] #[pg o]],.box o 32 [.slice p G q,.slice d D l,iv u]]) O0 w w' [.own 3 si (.slice B H x) r.1,.own 3 si (.slice z J A) r.2.1,.own 3 si (.slice d D l) r.2.2,.box L 22 [.slice B H x],.box N 22 [.slice z J A],.box P 53 [.func (.func 16) #[] #[pg o]],.box o 32 [.slice p G q,.slice d D l,iv u]]:=by
 unfold F.qfj at hb
 have hC:=Cx.startTk hO hio
 have hsub:=hio.2.2
 replace hC:=hC.argTk (by first | exact hsub | exact fun k hk=>hsub k (by simpa [blocks,Fact.blk] using hk)) Q
 clear hO
 obtain ⟨rfl,V,X⟩:=Q.qae
 obtain ⟨rfl,a0,a1⟩:=(hC.ow (i:=1) rfl).qae
 obtain ⟨rfl,a2,a3⟩:=(hC.ow (i:=2) rfl).qae
 obtain ⟨rfl,Y,Z⟩:=(hC.ow (i:=3) rfl).qae
 clear hio hsub
 obtain ⟨I,hI,hC⟩: ∃I:Nat→Prop,I=(fun k=>k∈blocks [.own 3 si (.slice B y.length x) y,.own 3 si (.slice z C.length A) C,.own 3 si (.slice d c.length l) c,.box L 22 [.slice B y.length x],.box N 22 [.slice z C.length A],.box P 53 [.func (.func 16) #[] #[pg o]],.box o 32 [.slice p s.length q,.slice d c.length l,iv u]])∧Cx I O0 w w ([.ro (.sl si) [.slice p s.length q] s,.own 3 si (.slice B y.length x) y,.own 3 si (.slice z C.length A) C,.own 3 si (.slice d c.length l) c,.box L 22 [.slice B y.length x],.box N 22 [.slice z C.length A],.box P 53 [.func (.func 16) #[] #[pg o]],.box o 32 [.slice p s.length q,.slice d c.length l,iv u]]):=⟨_,rfl,hC⟩
 refine qao func17 rfl (by rw [ntmps17]; exact nb rfl) fun KR hKR=>?_
 refine Wc.seq fun _ hK9=>?_
 refine Wc.seq fun _ hK10=>rg<|lv (.slice B y.length x) (qaw isAgg22 rfl ((hC.bx (i:=4) rfl).cell (j:=0) rfl))<|lp (iv m) (qaa rfl) ?_
 obtain ⟨x11,h12,hb⟩:=bd hb
 obtain ⟨ad13,cs14,hA,hc15,hr16⟩:=hC.elo (i:=1) rfl (qad h12).2
 subst hA
 refine lp (.pointer (some (ad13.add (m.toNat*1)))) (qar (a:=m) underlying22 sizeOf3 rfl rfl (qad h12).1) ?_
 obtain ⟨rfl,hr16'⟩:=hr16
 refine lv (iv x11) (qaw isAgg3 rfl (hc15 0 _ rfl))<|lp (.bool (decide (x11<0))) (qbj (k:=.i64) (a:=x11) (b:=0) rfl rfl)<|ln (hK10 _ _ ?_)
 refine Wc.cond (t:=(decide (x11<0))) (rfl) (fun hq17=>?_) (fun hq17=>?_)
 replace hb:=tt hq17 hb
 refine rg<|lv (.slice z C.length A) (qaw isAgg22 rfl ((hC.bx (i:=5) rfl).cell (j:=0) rfl))<|lp (iv m) (qaa rfl)<|lp (iv M) (qaa rfl) ?_
 obtain ⟨x18,h19,hb⟩:=bd hb
 obtain ⟨ad20,cs21,hA,hc22,hr23⟩:=hC.elo (i:=2) rfl (qad h19).2
 subst hA
 refine lp (.pointer (some (ad20.add (m.toNat*1)))) (qar (a:=m) underlying22 sizeOf3 rfl rfl (qad h19).1)<|lex.sk (hC.put (i:=2) rfl rfl sizeOf3 (k:=m.toNat) (a:=M) (by have:=(qad h19).1; simp at this⊢; omega) (⟨rfl,I64.wr T⟩) rfl rfl rfl) ?_
 rintro w24 ⟨hC,hF⟩
 refine ln (hK9 _ _ ?_)
 refine rg<|lv (.slice (some ad13) y.length x) (qaw isAgg22 rfl ((hC.bx (i:=4) rfl).cell (j:=0) rfl))<|lp (iv m) (qaa rfl)<|lp (iv K) (qaa rfl) ?_
 obtain ⟨x25,h26,hb⟩:=bd hb
 obtain ⟨ad27,cs28,hA,hc29,hr30⟩:=hC.elo (i:=1) rfl (qad h26).2
 obtain rfl:=Option.some.inj hA
 refine lp (.pointer (some (ad13.add (m.toNat*1)))) (qar (a:=m) underlying22 sizeOf3 rfl rfl (qad h26).1)<|lex.sk (hC.put (i:=1) rfl rfl sizeOf3 (k:=m.toNat) (a:=K) (by have:=(qad h26).1; simp at this⊢; omega) (⟨rfl,I64.wr S⟩) rfl rfl rfl) ?_
 rintro w31 ⟨hC,hF⟩
 refine ln ?_
 obtain rfl:=os hb
 subst hI
 refine hKR _ _ ?_
 refine ⟨_,res0 results17,_,rfl,rfl,hC.sE [1,2,3,4,5,6,7]⟩
 replace hb:=tf hq17 hb
 refine Wc.regionMix [] (frm [] [.own 3 si (.slice d c.length l) c,.box o 32 [.slice p s.length q,.slice d c.length l,iv u]] ([]:List Fact)) (fun _=>rfl) mixed (by decide+kernel) (by decide+kernel) fun w33 hw32=>?_
 replace hC:=hC.step (Fr.qcx hw32)
 have hM:=Fr.refl (fun k=>k∈blocks [.own 3 si (.slice d c.length l) c,.box o 32 [.slice p s.length q,.slice d c.length l,iv u]]) w33
 clear hw32
 have hS:=hC
 have hBf8:Beside [.own 3 si (.slice d c.length l) c,.box o 32 [.slice p s.length q,.slice d c.length l,iv u]] w33 (.slice d c.length l):=Beside.of (i:=0) rfl
 have hBf6: ∀g,g<w33.heap.size→some o=some g→g∈blocks [.own 3 si (.slice d c.length l) c,.box o 32 [.slice p s.length q,.slice d c.length l,iv u]]:=fun g _ hg=>Option.some.inj hg▸qcg (i:=1) rfl
 refine mixE.load hM (v:=.func (.func 16) #[] #[pg o]) (fun _ hF=>qaw isAgg53 rfl ((hS.bx2 (i:=6) rfl [3,7] (by decide) hF).cell (j:=0) rfl))<|mixE.load hM (v:=.slice (some ad13) y.length x) (fun _ hF=>qaw isAgg22 rfl ((hS.bx2 (i:=4) rfl [3,7] (by decide) hF).cell (j:=0) rfl))<|mp (iv m) (qaa rfl) ?_
 obtain ⟨x34,h35,hb⟩:=bd hb
 obtain ⟨ad36,cs37,hA,ho40,hc38,hr39⟩:=hS.elo2 (i:=1) rfl (qad h35).2 [3,7] (by decide)
 obtain rfl:=Option.some.inj hA
 refine mp (.pointer (some (ad13.add (m.toNat*1)))) (qar (a:=m) underlying22 sizeOf3 rfl rfl (qad h35).1) ?_
 obtain ⟨rfl,hr39'⟩:=hr39
 refine mixE.load hM (v:=iv x34) (fun _ hF=>qaw isAgg3 rfl (hF.cell (hc38 0 _ rfl) (off1 ho40)))<|mp (iv M) (qaa rfl) ?_
 replace hC:Cx I O0 w w33 ([.own 3 si (.slice d c.length l) c,.box o 32 [.slice p s.length q,.slice d c.length l,iv u]]++[.ro (.sl si) [.slice p s.length q] s,.own 3 si (.slice (some ad13) y.length x) y,.own 3 si (.slice z C.length A) C,.box L 22 [.slice (some ad13) y.length x],.box N 22 [.slice z C.length A],.box P 53 [.func (.func 16) #[] #[pg o]]]):=hC.sE [3,7,0,1,2,4,5,6]
 obtain ⟨y41,h42,hb⟩:=bd hb
 refine mixE.cl hM (⟨_,_,qco (vs:=[iv x34,iv M,pg o]) (ca:=#[pg o]) call16 rfl rfl rfl,braid_Closure_c1_ok n hC.lt (qbi hr39') T (hC.rd (i:=2) rfl) R hC.give h42⟩) ?_
 rintro _ w43 ⟨rfl,hK⟩
 have hL44: ∀f∈([.own 3 si (.slice d c.length l) c,.box o 32 [.slice p s.length q,.slice d c.length l,iv u]]:List Fact),∀g,g<w33.heap.size→f.blk=some g→g∈blocks [.own 3 si (.slice d c.length l) c,.box o 32 [.slice p s.length q,.slice d c.length l,iv u]]:=List.forall_mem_cons.2 ⟨hBf8,List.forall_mem_cons.2 ⟨hBf6,fun _ h=>absurd h List.not_mem_nil⟩⟩
 replace hM:=hM.besideL hL44 hK.fr
 refine ⟨hM,?_⟩
 replace hC:=hC.back hK
 clear hK
 refine mixE.nil ?_
 clear hS hM
 refine hK9 _ _<|Wc.fresh fun E45 hE=>?_
 have e0:E45 0=iv m:=cg hE 0 rfl
 have e2:E45 2=iv K:=cg hE 2 rfl
 have e3:E45 3=pg L:=cg hE 3 rfl
 clear hE
 refine rg<|lv (.slice (some ad13) y.length x) (qaw isAgg22 e3 ((hC.bx (i:=5) rfl).cell (j:=0) rfl))<|lp _ (qaa e0)<|lp _ (qaa e2) ?_
 obtain ⟨x46,h47,hb⟩:=bd hb
 obtain ⟨ad48,cs49,hA,hc50,hr51⟩:=hC.elo (i:=3) rfl (qad h47).2
 obtain rfl:=Option.some.inj hA
 refine lp (.pointer (some (ad13.add (m.toNat*1)))) (qar (a:=m) underlying22 sizeOf3 rfl rfl (qad h47).1)<|lex.sk (hC.put (i:=3) rfl rfl sizeOf3 (k:=m.toNat) (a:=K) (by have:=(qad h47).1; simp at this⊢; omega) (⟨rfl,I64.wr S⟩) rfl rfl rfl) ?_
 rintro w52 ⟨hC,hF⟩
 refine ln ?_
 obtain rfl:=os hb
 subst hI
 refine hKR _ _ ?_
 refine ⟨_,res0 results17,_,rfl,rfl,hC.sE [3,4,0,5,6,7,1]⟩

theorem conway_Descending_ok (n:Nat) {w:World} {O0:List Nat} (hO: ∀k∈O0,k<w.heap.size) {h:Option Addr} {B j:Nat} {c:List Int} (C:Rep O0 w (.sl si) [.slice h B j] c) {l:Option Addr} {D o:Nat} {x:List Int} (G:Rep O0 w (.sl si) [.slice l D o] x) {u:Int} (H:I64 u) {r:Int×Bool} (hb:F.qcr n c x u=some r):
    Calls prog 36 #[.agg #[.slice h B j,.slice l D o,iv u]] w fun e w'=> ∃v,e=.returned v∧v=.tuple #[iv r.1,.bool r.2]∧I64 r.1∧Cx (fun _=>False) O0 w w' []:=by
 unfold F.qcr at hb
 have hC:=Cx.start hO
 replace hC:=hC.arg rfl C
 replace hC:=hC.arg rfl G
 clear hO
 obtain ⟨rfl,J,K⟩:=C.qae
 obtain ⟨rfl,L,M⟩:=G.qae
 refine qao func36 rfl (by rw [ntmps36]; exact nb rfl) fun KR hKR=>?_
 refine Wc.seq fun _ hK3=>rg<|lex.op (hC.box (cs:=[.slice h c.length j,.slice l x.length o,iv u]) rfl rfl) ?_
 rintro _ w5 ⟨g4,rfl,hC,hF,-⟩
 refine lp (iv 0) (qab rfl)<|lp (.bool false) (qab rfl)<|ln (hK3 _ _ ?_)
 refine Wc.seq fun _ hK7=>?_
 refine Wc.seq fun _ hK8=>rg<|lv (.agg #[.slice h c.length j,.slice l x.length o,iv u]) (qaq (hC.bx (i:=0) rfl) isAgg32 sizeOf32 rfl) ?_
 obtain ⟨y9,h10,hb⟩:=bd hb
 refine lex.cl (⟨_,_,qam (vs:=[.agg #[.slice h c.length j,.slice l x.length o,iv u]]) call11 rfl rfl rfl,qdm n hC.lt (hC.rd (i:=2) rfl) (hC.rd (i:=1) rfl) H h10⟩) ?_
 rintro _ w11 ⟨rfl,hK⟩
 replace hC:=hC.merge hK
 clear hK
 refine lp (.bool (!y9)) (qbt (q:=y9) rfl)<|ln (hK8 _ _ ?_)
 refine Wc.cond (t:=(!y9)) (rfl) (fun hq12=>?_) (fun hq12=>?_)
 replace hb:=tt hq12 hb
 refine Wc.seq fun _ hK13=>rg<|lp (iv (-1)) (qab rfl)<|lp (.bool false) (qab rfl)<|ln (hK13 _ _ ?_)
 obtain rfl:=os hb
 refine Wc.ret (hKR _ _ ?_)
 refine ⟨_,res2 results36 (tV (iv (-1)) rfl) (tV (.bool false) rfl),_,rfl,rfl,(show I64 (-1) from by unfold I64; omega),hC.sE []⟩
 replace hb:=tf hq12 hb
 refine Wc.skip (hK7 _ _ ?_)
 refine Wc.seq fun _ hK14=>rg<|lp (.pointer (some ((⟨g4,0,none⟩:Addr).add 0))) (qaf (sz:=1) underlying32 rfl sizeOf22 (by decide) rfl rfl)<|lv (.slice h c.length j) (qal (hC.bx (i:=0) rfl) isAgg22 rfl rfl)<|lp (iv (c.length:Int)) (qay (A:=h) (n:=c.length) (m:=j) underlying22 rfl) ?_
 obtain ⟨u15,h16,hb⟩:=bd hb
 refine lex.op (hC.make (s:=.bool) (n:=(c.length:Int)) underlying80 type4 rfl rfl rfl rfl rfl (qaj h16).1 (qaj h16).2 (by decide)) ?_
 rintro _ w21 ⟨A17,c18,rfl,hl19,hc20,hC,-,-⟩
 refine lp (.slice A17 (((List.replicate (c.length:Int).toNat false)).length) c18) (qab rfl)<|ln (hK14 _ _ ?_)
 refine Wc.fresh fun E23 hE=>?_
 have e1:E23 1=pg g4:=cg hE 1 rfl
 have e2:E23 2=iv 0:=cg hE 2 rfl
 have e3:E23 3=.bool false:=cg hE 3 rfl
 have e4:E23 4=.slice A17 (((List.replicate (c.length:Int).toNat false)).length) c18:=cg hE 4 rfl
 clear hE
 refine Wc.seq fun _ hK24=>?_
 refine Wc.seq fun _ hK25=>rg<|lv (.agg #[.slice h c.length j,.slice l x.length o,iv u]) (qaq (hC.bx (i:=1) rfl) isAgg32 sizeOf32 e1) ?_
 obtain ⟨y26,h27,hb⟩:=bd hb
 refine lex.cl (⟨_,_,qam (vs:=[.agg #[.slice h c.length j,.slice l x.length o,iv u]]) call29 rfl rfl rfl,diagram_Strands_ok n hC.lt (hC.rd (i:=3) rfl) (hC.rd (i:=2) rfl) H h27⟩) ?_
 rintro _ w32 ⟨A28,m29,c30,rfl,hK⟩
 replace hC:=hC.merge hK
 clear hK
 obtain ⟨rfl,hl33,hc34⟩:=(hC.ow (i:=0) rfl).qae
 refine lp (iv (y26.length:Int)) (qay (A:=A28) (n:=y26.length) (m:=c30) underlying44 rfl)<|lp (iv 0) (qaa rfl)<|ln (hK25 _ _ ?_)
 obtain ⟨o35,hl0,hb⟩:=bd hb
 refine Wc.cut (fun E wv=> ∃(d:Int) (p:List Bool),E 2=iv 0∧E 3=.bool false∧I64 d∧Cx (fun _=>False) O0 w wv []∧(some ((-1),true):Option (Int×Bool))=some r) (fun _ hK36=>?_) ?_
 refine Wc.block ?_
 refine Wc.loop (fun m E wv=> ∃(d:Int) (p:List Bool),E 2=iv 0∧E 3=.bool false∧E 4=.slice A17 (((List.replicate (c.length:Int).toNat false)).length) c18∧E 17=.slice A28 y26.length c30∧E 18=iv (y26.length:Int)∧E 19=iv d∧I64 d∧Cx (fun _=>False) O0 w wv [.own 4 .bool (.slice A17 (((List.replicate (c.length:Int).toNat false)).length) c18) p,.own 22 (.sl si) (.slice A28 y26.length c30) y26]∧loopN m (F.qbo n y26) (d,p)=some o35) n ⟨0,(List.replicate (c.length:Int).toNat false),e2,e3,e4,rfl,rfl,rfl,(show I64 0 from by unfold I64; omega),hC.sE [1,0],hl0⟩ ?_
 have hbK0:=hb
 clear hb hC hl0
 rintro m38 E40 w39 ⟨d,p,e2,e3,e4,e17,e18,e19,y,hC,hl0⟩ K37 hK37
 obtain ⟨m38',o41,rfl,hb,hl0⟩:=qax hl0
 unfold F.qbo at hb
 refine Wc.seq fun _ hK42=>rg<|lp _ (qbj e19 e18)<|ln (hK42 _ _ ?_)
 refine Wc.seq fun _ hK43=>?_
 refine Wc.cond (t:=(decide (d<(y26.length:Int)))) (rfl) (fun hq44=>?_) (fun hq44=>?_)
 replace hb:=tt hq44 hb
 refine Wc.skip (hK43 _ _ ?_)
 refine Wc.seq fun _ hK45=>?_
 refine Wc.block<|Wc.seq fun _ hK46=>rg ?_
 obtain ⟨x47,h48,hb⟩:=bd hb
 obtain ⟨ad49,cs50,hA,hc51,hr52⟩:=hC.elo (i:=1) rfl (qad h48).2
 subst hA
 refine lp (.pointer (some (ad49.add (d.toNat*1)))) (qar (a:=d) underlying44 sizeOf22 e17 e19 (qad h48).1) ?_
 have hR:=hr52
 obtain ⟨A53,c54,rfl,hl55,hc56,_⟩:=hr52
 replace hC:=hC.ro hR
 clear hR
 refine lv (.slice A53 x47.length c54) (qaw isAgg22 rfl (hc51 0 _ rfl))<|lp (.slice A53 x47.length c54) (qab rfl)<|ln (hK46 _ _ ?_)
 refine Wc.seq fun _ hK58=>rg<|lp (.slice A53 x47.length c54) (qaa rfl)<|lp (iv (x47.length:Int)) (qay (A:=A53) (n:=x47.length) (m:=c54) underlying22 rfl)<|lp (iv 0) (qaa rfl)<|ln (hK58 _ _ ?_)
 obtain ⟨o59,hl1,hb⟩:=bd hb
 refine Wc.cut (fun E wv=> ∃(f:Int) (g:List Bool),E 2=iv 0∧E 3=.bool false∧E 4=.slice A17 (((List.replicate (c.length:Int).toNat false)).length) c18∧E 6=.slice A53 x47.length c54∧E 17=.slice (some ad49) y26.length c30∧E 18=iv (y26.length:Int)∧E 19=iv d∧E 20=.bool (decide (d<(y26.length:Int)))∧E 23=.slice A53 x47.length c54∧E 24=iv (x47.length:Int)∧E 25=iv f∧I64 f∧Cx (fun _=>False) O0 w wv [.own 4 .bool (.slice A17 (((List.replicate (c.length:Int).toNat false)).length) c18) g,.ro (.sl si) [.slice A53 x47.length c54] x47,.own 22 (.sl si) (.slice (some ad49) y26.length c30) y26]∧((chk (d+1)).bind fun z128=>some (.inl (z128,g)):Option ((Int×(List Bool))⊕((Int×(List Bool))⊕(Int×Bool))))=some o41) (fun _ hK60=>?_) ?_
 refine Wc.block ?_
 refine Wc.loop (fun m E wv=> ∃(f:Int) (g:List Bool),E 2=iv 0∧E 3=.bool false∧E 4=.slice A17 (((List.replicate (c.length:Int).toNat false)).length) c18∧E 6=.slice A53 x47.length c54∧E 17=.slice (some ad49) y26.length c30∧E 18=iv (y26.length:Int)∧E 19=iv d∧E 20=.bool (decide (d<(y26.length:Int)))∧E 23=.slice A53 x47.length c54∧E 24=iv (x47.length:Int)∧E 25=iv f∧I64 f∧Cx (fun _=>False) O0 w wv [.own 4 .bool (.slice A17 (((List.replicate (c.length:Int).toNat false)).length) c18) g,.ro (.sl si) [.slice A53 x47.length c54] x47,.own 22 (.sl si) (.slice (some ad49) y26.length c30) y26]∧loopN m (F.qbx n x47) (f,g)=some o59) n ⟨0,p,e2,e3,e4,rfl,e17,e18,e19,rfl,rfl,rfl,rfl,(show I64 0 from by unfold I64; omega),hC.sE [1,0,2],hl1⟩ ?_
 have hbK1:=hb
 clear hb hC hl1
 rintro m62 E64 w63 ⟨f,g,e2,e3,e4,e6,e17,e18,e19,e20,e23,e24,e25,z,hC,hl1⟩ K61 hK61
 obtain ⟨m62',o65,rfl,hb,hl1⟩:=qax hl1
 unfold F.qbx at hb
 refine Wc.seq fun _ hK66=>rg<|lp _ (qbj e25 e24)<|ln (hK66 _ _ ?_)
 refine Wc.seq fun _ hK67=>?_
 refine Wc.cond (t:=(decide (f<(x47.length:Int)))) (rfl) (fun hq68=>?_) (fun hq68=>?_)
 replace hb:=tt hq68 hb
 refine Wc.skip (hK67 _ _ ?_)
 refine Wc.seq fun _ hK69=>?_
 refine Wc.block<|Wc.seq fun _ hK70=>rg ?_
 obtain ⟨x71,h72,hb⟩:=bd hb
 obtain ⟨ad73,cs74,hA,hc75,hr76⟩:=hC.elr (i:=1) rfl (qad h72).2
 subst hA
 refine lp (.pointer (some (ad73.add (f.toNat*1)))) (qar (a:=f) underlying22 sizeOf3 e23 e25 (qad h72).1) ?_
 obtain ⟨rfl,hr76'⟩:=hr76
 refine lv (iv x71) (qaw isAgg3 rfl (hc75 0 _ rfl))<|lp (iv x71) (qab rfl)<|ln (hK70 _ _ ?_)
 refine Wc.seq fun _ hK77=>?_
 refine Wc.seq fun _ hK78=>rg<|lp _ (qaa e4)<|lp (iv x71) (qaa rfl) ?_
 obtain ⟨u79,h80,hb⟩:=bd hb
 obtain ⟨z81,h82,hb⟩:=bd hb
 refine lp (iv z81) (qfu (a:=x71) (b:=4) rfl rfl h80 h82) ?_
 obtain ⟨x83,h84,hb⟩:=bd hb
 obtain ⟨ad85,cs86,hA,hc87,hr88⟩:=hC.elo (i:=0) rfl (qad h84).2
 subst hA
 refine lp (.pointer (some (ad85.add (z81.toNat*1)))) (qar (a:=z81) underlying80 sizeOf4 rfl rfl (by rw [(hC.ow (i:=0) rfl).qae.1]; exact (qad h84).1)) ?_
 obtain rfl:=(show _=_ from hr88)
 refine lv (.bool x83) (qaw isAgg4 rfl (hc87 0 _ rfl))<|lp (.bool (!x83)) (qbt (q:=x83) rfl)<|lp (.bool (!x83)) (qaa rfl) ?_
 rcases bS (!x83) with hq89 | hq89
 replace hb:=tt hq89 hb
 refine gp rfl rfl (!x83) rfl hq89 (iv x71) (qaa rfl) ?_
 obtain ⟨u90,h91,hb⟩:=bd hb
 refine gp rfl rfl (!x83) rfl hq89 (iv (Int.tmod x71 2)) (pu_remc (a:=x71) (b:=2) rfl rfl h91)<|gp rfl rfl (!x83) rfl hq89 (.bool (decide ((Int.tmod x71 2)=0))) (qbl (k:=.i64) (a:=(Int.tmod x71 2)) (b:=0) rfl rfl)<|lp (.bool (decide ((Int.tmod x71 2)=0))) (qap (q:=(!x83)) rfl hq89 rfl)<|ln (hK78 _ _ ?_)
 refine Wc.fresh fun E92 hE=>?_
 have e2:=cg hE 2 e2
 have e3:=cg hE 3 e3
 have e4:=cg hE 4 e4
 have e6:=cg hE 6 e6
 have e8:E92 8=iv x71:=cg hE 8 rfl
 have e17:=cg hE 17 e17
 have e18:=cg hE 18 e18
 have e19:=cg hE 19 e19
 have e20:=cg hE 20 e20
 have e23:=cg hE 23 e23
 have e24:=cg hE 24 e24
 have e25:=cg hE 25 e25
 have e26:E92 26=.bool (decide (f<(x47.length:Int))):=cg hE 26 rfl
 have e39:E92 39=.bool (decide ((Int.tmod x71 2)=0)):=cg hE 39 rfl
 clear hE
 refine Wc.cond (t:=(decide ((Int.tmod x71 2)=0))) (e39) (fun hq93=>?_) (fun hq93=>?_)
 replace hb:=tt hq93 hb
 refine Wc.seq fun _ hK94=>rg<|lp _ (qaa e8) ?_
 obtain ⟨u95,h96,hb⟩:=bd hb
 obtain ⟨z97,h98,hb⟩:=bd hb
 refine lp (iv z97) (qfu (a:=x71) (b:=4) rfl rfl h96 h98)<|lp (iv z97) (qab rfl)<|lp (.bool false) (qab rfl)<|ln (hK94 _ _ ?_)
 obtain rfl:=os hb
 obtain rfl:=(lX hl1).symm
 replace hb:=hbK1
 obtain rfl:=os hb
 obtain rfl:=(lX hl0).symm
 replace hb:=hbK0
 obtain rfl:=os hb
 refine Wc.ret (hKR _ _ ?_)
 refine ⟨_,res2 results36 (tV (iv z97) rfl) (tV (.bool false) rfl),_,rfl,rfl,(qah h98),hC.sE []⟩
 replace hb:=tf hq93 hb
 refine Wc.skip (hK77 _ _ ?_)
 refine rg<|lp _ (qaa e4)<|lp _ (qaa e8) ?_
 obtain ⟨u99,h100,hb⟩:=bd hb
 obtain ⟨z101,h102,hb⟩:=bd hb
 refine lp (iv z101) (qfu (a:=x71) (b:=4) rfl rfl h100 h102) ?_
 obtain ⟨x103,h104,hb⟩:=bd hb
 obtain ⟨ad105,cs106,hA,hc107,hr108⟩:=hC.elo (i:=0) rfl (qad h104).2
 obtain rfl:=Option.some.inj hA
 refine lp (.pointer (some (ad85.add (z101.toNat*1)))) (qar (a:=z101) underlying80 sizeOf4 rfl rfl (by rw [(hC.ow (i:=0) rfl).qae.1]; exact (qad h104).1))<|lex.sk (hC.put (i:=0) rfl rfl sizeOf4 (k:=z101.toNat) (a:=true) (by have:=(qad h104).1; simp at this⊢; omega) (show Rep _ _ .bool _ _ from rfl) rfl rfl rfl) ?_
 rintro w109 ⟨hC,hF⟩
 refine ln (hK69 _ _ ?_)
 refine rg ?_
 obtain ⟨z110,h111,hb⟩:=bd hb
 refine lp (iv z110) (qau (a:=f) (b:=1) e25 rfl h111)<|lp (iv z110) (qaa rfl)<|ln ?_
 obtain rfl:=os hb
 exact hK61 m62' _ _ (Nat.lt_succ_self _) ⟨z110,(g.set z101.toNat true),e2,e3,e4,e6,e17,e18,e19,e20,e23,e24,rfl,(qah h111),hC.sE [0,1,2],lN hl1⟩
 replace hb:=tf hq89 hb
 refine gs rfl rfl (!x83) rfl hq89<|gs rfl rfl (!x83) rfl hq89<|gs rfl rfl (!x83) rfl hq89<|lp (.bool false) (qak (q:=(!x83)) rfl hq89 rfl)<|ln (hK78 _ _ ?_)
 refine Wc.fresh fun E112 hE=>?_
 have e2:=cg hE 2 e2
 have e3:=cg hE 3 e3
 have e4:=cg hE 4 e4
 have e6:=cg hE 6 e6
 have e8:E112 8=iv x71:=cg hE 8 rfl
 have e17:=cg hE 17 e17
 have e18:=cg hE 18 e18
 have e19:=cg hE 19 e19
 have e20:=cg hE 20 e20
 have e23:=cg hE 23 e23
 have e24:=cg hE 24 e24
 have e25:=cg hE 25 e25
 have e26:E112 26=.bool (decide (f<(x47.length:Int))):=cg hE 26 rfl
 have e39:E112 39=.bool false:=cg hE 39 rfl
 clear hE
 refine Wc.cond_false (e39) ?_
 refine Wc.skip (hK77 _ _ ?_)
 refine rg<|lp _ (qaa e4)<|lp _ (qaa e8) ?_
 obtain ⟨u113,h114,hb⟩:=bd hb
 obtain ⟨z115,h116,hb⟩:=bd hb
 refine lp (iv z115) (qfu (a:=x71) (b:=4) rfl rfl h114 h116) ?_
 obtain ⟨x117,h118,hb⟩:=bd hb
 obtain ⟨ad119,cs120,hA,hc121,hr122⟩:=hC.elo (i:=0) rfl (qad h118).2
 obtain rfl:=Option.some.inj hA
 refine lp (.pointer (some (ad85.add (z115.toNat*1)))) (qar (a:=z115) underlying80 sizeOf4 rfl rfl (by rw [(hC.ow (i:=0) rfl).qae.1]; exact (qad h118).1))<|lex.sk (hC.put (i:=0) rfl rfl sizeOf4 (k:=z115.toNat) (a:=true) (by have:=(qad h118).1; simp at this⊢; omega) (show Rep _ _ .bool _ _ from rfl) rfl rfl rfl) ?_
 rintro w123 ⟨hC,hF⟩
 refine ln (hK69 _ _ ?_)
 refine rg ?_
 obtain ⟨z124,h125,hb⟩:=bd hb
 refine lp (iv z124) (qau (a:=f) (b:=1) e25 rfl h125)<|lp (iv z124) (qaa rfl)<|ln ?_
 obtain rfl:=os hb
 exact hK61 m62' _ _ (Nat.lt_succ_self _) ⟨z124,(g.set z115.toNat true),e2,e3,e4,e6,e17,e18,e19,e20,e23,e24,rfl,(qah h125),hC.sE [0,1,2],lN hl1⟩
 replace hb:=tf hq68 hb
 refine Wc.exit rfl ?_
 obtain rfl:=os hb
 obtain rfl:=(lX hl1).symm
 exact hK60 _ _ ⟨f,g,e2,e3,e4,e6,e17,e18,e19,e20,e23,e24,e25,z,hC.sE [0,1,2],hbK1⟩
 clear hb hC hl1
 rintro E127 w126 ⟨f,g,e2,e3,e4,e6,e17,e18,e19,e20,e23,e24,e25,z,hC,hb⟩
 refine hK45 _ _<|rg ?_
 obtain ⟨z128,h129,hb⟩:=bd hb
 refine lp (iv z128) (qau (a:=d) (b:=1) e19 rfl h129)<|lp (iv z128) (qaa rfl)<|ln ?_
 obtain rfl:=os hb
 exact hK37 m38' _ _ (Nat.lt_succ_self _) ⟨z128,g,e2,e3,e4,e17,e18,rfl,(qah h129),hC.sE [0,2],lN hl0⟩
 replace hb:=tf hq44 hb
 refine Wc.exit rfl ?_
 obtain rfl:=os hb
 obtain rfl:=(lX hl0).symm
 exact hK36 _ _ ⟨d,p,e2,e3,y,hC.sE [],hbK0⟩
 clear hb hC hl0
 rintro E131 w130 ⟨d,p,e2,e3,y,hC,hb⟩
 refine hK24 _ _<|Wc.seq fun _ hK132=>rg<|lp (iv (-1)) (qab rfl)<|lp (.bool true) (qab rfl)<|ln (hK132 _ _ ?_)
 obtain rfl:=os hb
 refine Wc.ret (hKR _ _ ?_)
 refine ⟨_,res2 results36 (tV (iv (-1)) rfl) (tV (.bool true) rfl),_,rfl,rfl,(show I64 (-1) from by unfold I64; omega),hC.sE []⟩
