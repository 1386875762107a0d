import Derived.Test.YtlkmcbgkohpmiaaS
import Derived.Test.YtlkmcbgkohpmiaaG0
set_option linter.all false
namespace Go.Proofs.Ytlkmcbgkohpmiaa
open Ev Try
set_option maxRecDepth 100000
set_option maxHeartbeats 4000000
theorem slices_Backward_Word_int_it {gb:Nat} {A:Option Addr} {c:Nat} {xs:List Int}:IterOk prog 82 #[pg gb] xs.length (fun k=>#[iv ((xs.length:Int)-1-(k:Int)),iv (xs.getD (xs.length-1-k) 0)]) (RdBack gb 27 A c xs):=by
  intro l A' B W hrd hround hA0
  refine qao func82 rfl (by rw [ntmps82]; exact nb rfl) fun KR hKR=>?_
  have fin: ∀E w,(A' xs.length w∨B w)→KR E w:=fun E w h=>hKR _ _ ⟨_,res0 results82,⟨_,rfl⟩,h⟩
  refine Wc.seq fun _ hK1=>?_
  refine rg ?_
  obtain ⟨hb,hl,hx⟩:=hrd 0 W hA0
  refine lv (.slice A xs.length c) (qah isAgg27 rfl (hb.cell (j:=0) rfl)) ?_
  refine lp (iv (xs.length:Int)) (qan (A:=A) (n:=xs.length) (m:=c) underlying27 rfl) ?_
  refine lp (iv ((xs.length:Int)-1)) (pu_sub (a:=(xs.length:Int)) (b:=1) rfl rfl (by unfold I64; omega)) ?_
  refine lp (iv ((xs.length:Int)-1)) (qab rfl) ?_
  refine ln ?_
  refine hK1 _ _ ?_
  refine Wc.block ?_
  refine Wc.loop (fun m E wv=> ∃k:Nat,m=xs.length-k∧k≤xs.length∧E 0=.func (.yield l) #[] #[]∧E 1=pg gb∧E 3=iv ((xs.length:Int)-1-(k:Int))∧A' k wv) xs.length ⟨0,by omega,by omega,rfl,rfl,by rw [show (xs.length:Int)-1-((0:Nat):Int)=(xs.length:Int)-1 by omega]; rfl,hA0⟩ ?_
  clear hb hx hA0
  rintro m E1 w1 ⟨k,rfl,hk,e0,e1,e3,hA⟩ K hK
  obtain ⟨hb,_,hx⟩:=hrd k w1 hA
  refine Wc.seq fun _ hK2=>?_
  refine Wc.seq fun _ hK3=>?_
  refine rg ?_
  refine lp _ (qaa e3) ?_
  refine lp (.bool (decide (0≤(xs.length:Int)-1-(k:Int)))) (pu_geq (k:=.i64) (a:=(xs.length:Int)-1-(k:Int)) (b:=0) rfl rfl) ?_
  refine ln ?_
  refine hK3 _ _ ?_
  refine Wc.cond (t:=decide (0≤(xs.length:Int)-1-(k:Int))) rfl (fun hq=>?_) (fun hq=>?_)
  · refine Wc.skip ?_
    refine hK2 _ _ ?_
    have hkl:k<xs.length:=by have:=of_decide_eq_true hq; omega
    have hi:xs[xs.length-1-k]? =some (xs.getD (xs.length-1-k) 0):=by
      rw [List.getD_eq_getElem?_getD,List.getElem?_eq_getElem (by omega)]; rfl
    obtain ⟨ad,hA1,hcell⟩:=hx _ _ hi
    subst hA1
    refine Wc.seq fun _ hK4=>?_
    refine Wc.block ?_
    refine Wc.seq fun _ hK5=>?_
    refine rg ?_
    refine lp _ (qaa e0) ?_
    refine lp _ (qaa e3) ?_
    refine lv (.slice (some ad) xs.length c) (qah isAgg27 e1 (hb.cell (j:=0) rfl)) ?_
    refine lp _ (qaa e3) ?_
    refine lp (.pointer (some (ad.add (((xs.length:Int)-1-(k:Int)).toNat*1)))) (qag (a:=(xs.length:Int)-1-(k:Int)) underlying27 sizeOf3 rfl rfl (by omega)) ?_
    refine lv (iv (xs.getD (xs.length-1-k) 0)) (qah isAgg3 rfl (by rw [show ((xs.length:Int)-1-(k:Int)).toNat*1=xs.length-1-k by omega]; exact hcell)) ?_
    obtain ⟨fn,tmps,assign,body,hy,hR⟩:=hround k w1 hkl hA
    refine lex.yield (op_yield (vs:=[iv ((xs.length:Int)-1-(k:Int)),iv (xs.getD (xs.length-1-k) 0)]) rfl rfl rfl hy) hR ?_
    rintro e w2 (⟨rfl,hA2⟩ | ⟨rfl,hB⟩)
    · refine ⟨_,rfl,?_⟩
      refine lp (.bool (!true)) (qcd rfl) ?_
      refine ln ?_
      refine hK5 _ _ ?_
      refine Wc.cond_false rfl ?_
      refine Wc.skip ?_
      refine hK4 _ _ ?_
      refine rg ?_
      refine lp _ (qaa e3) ?_
      refine lp (iv ((xs.length:Int)-1-(k:Int)-1)) (pu_sub (a:=(xs.length:Int)-1-(k:Int)) (b:=1) rfl rfl (by unfold I64; omega)) ?_
      refine lp (iv ((xs.length:Int)-1-(k:Int)-1)) (qab rfl) ?_
      refine ln ?_
      exact hK (xs.length-(k+1)) _ _ (by omega) ⟨k+1,rfl,by omega,e0,e1,by rw [show (xs.length:Int)-1-((k+1:Nat):Int)=(xs.length:Int)-1-(k:Int)-1 by omega]; rfl,hA2⟩
    · refine ⟨_,rfl,?_⟩
      refine lp (.bool (!false)) (qcd rfl) ?_
      refine ln ?_
      refine hK5 _ _ ?_
      refine Wc.cond_true rfl ?_
      refine Wc.ret ?_
      exact fin _ _ (.inr hB)
  · refine Wc.exit rfl ?_
    have:k=xs.length:=by have:=of_decide_eq_false hq; omega
    subst this
    exact fin _ _ (.inl hA)
theorem slices_Backward_Word_int_ok {w:World} {O0:List Nat} {A:Option Addr} {m c:Nat} (hO: ∀k∈O0,k<w.heap.size):Calls prog 57 #[.slice A m c] w fun e w'=> ∃v,e=.returned v∧∃gb,v=.func (.func 82) #[] #[pg gb]∧Cx (fun _=>False) O0 w w' [.box gb 27 [.slice A m c]]:=by
  have hC:=Cx.start hO
  refine qao func57 rfl (by rw [ntmps57]; exact nb rfl) fun KR hKR=>?_
  refine Wc.seq fun _ hK1=>?_
  refine rg ?_
  refine lex.op (hC.box (cs:=[.slice A m c]) rfl rfl) ?_
  rintro _ w2 ⟨g1,rfl,hC,hF,hG⟩
  refine lp (.nilFunc) (qab rfl) ?_
  refine ln ?_
  refine hK1 _ _ ?_
  refine Wc.seq fun _ hK2=>?_
  refine rg ?_
  refine lp (.func (.func 82) #[] #[pg g1]) (qga (l:=[pg g1]) rfl) ?_
  refine lp (.func (.func 82) #[] #[pg g1]) (qab rfl) ?_
  refine ln ?_
  refine hK2 _ _ ?_
  refine Wc.ret ?_
  refine hKR _ _ ?_
  exact ⟨_,res1 results57 (tV (.func (.func 82) #[] #[pg g1]) rfl),_,rfl,g1,rfl,hC⟩

theorem word_Substitute_ok (n:Nat) {w:World} {O0:List Nat} (hO: ∀k∈O0,k<w.heap.size) {M:Option Addr} {a5 D:Nat} {y:List Int} (a6:Rep O0 w (.sl si) [.slice M a5 D] y) {G:Option Addr} {U x:Nat} {d:List (List Int)} (V:Rep O0 w (.sl (.sl si)) [.slice G U x] d) {r:(List Int)×Int} (hb:F.qfv n y d=some r):
    Calls prog 35 #[.slice M a5 D,.slice G U x] w fun e w'=> ∃v,e=.returned v∧∃(A0:Option Addr) (m0 c0:Nat),v=.tuple #[.slice A0 m0 c0,iv r.2]∧I64 r.2∧Cx (fun _=>False) O0 w w' [.own 3 si (.slice A0 m0 c0) r.1]:=by
 unfold F.qfv at hb
 have hC:=Cx.start hO
 replace hC:=hC.arg rfl a6
 replace hC:=hC.arg rfl V
 clear hO
 obtain ⟨rfl,b0,b1⟩:=a6.qaf
 obtain ⟨rfl,a0,a1⟩:=V.qaf
 replace hC:Cx (fun _=>False) O0 w w ([.ro (.sl (.sl si)) [.slice G d.length x] d,.ro (.sl si) [.slice M y.length D] y]++marksF ([]:List Nat)):=hC
 refine calls_of_WcM func35 rfl (by rw [ntmps35]; exact nb rfl) fun KR hKR=>?_
 refine Wc.seq fun _ hK3=>rg ?_
 replace hC:Cx (fun _=>False) O0 w w ([.ro (.sl (.sl si)) [.slice G d.length x] d,.ro (.sl si) [.slice M y.length D] y]++marksF ([]:List Nat)):=hC
 refine lp (.slice none 0 0) (qab rfl)<|lp (iv 0) (qab rfl)<|ln (hK3 _ _ ?_)
 refine Wc.seq fun _ hK4=>?_
 refine Wc.seq fun _ hK5=>rg<|lp (.slice M y.length D) (qaa rfl)<|lp (iv (y.length:Int)) (qan (A:=M) (n:=y.length) (m:=D) underlying27 rfl)<|lp (iv 0) (qaa rfl)<|ln (hK5 _ _ ?_)
 obtain ⟨o6,hl0,hb⟩:=bd hb
 refine Wc.cut (fun E wv=> ∃(P:List Nat) (R:Int),E 0=.slice M y.length D∧E 1=.slice G d.length x∧E 4=.slice none 0 0∧E 5=iv 0∧I64 R∧E.ms=P∧Cx (fun _=>False) O0 w wv ([.ro (.sl si) [.slice M y.length D] y,.ro (.sl (.sl si)) [.slice G d.length x] d]++marksF P)∧(((loopN n (F.qbs n y d) (0,([]:List Int))).bind fun o50=>match o50 with | (N,o)=>some (o,0)):Option ((List Int)×Int))=some r) (fun _ hK7=>?_) ?_
 refine Wc.block ?_
 refine Wc.loop (fun m E wv=> ∃(P:List Nat) (R:Int),E 0=.slice M y.length D∧E 1=.slice G d.length x∧E 4=.slice none 0 0∧E 5=iv 0∧E 13=.slice M y.length D∧E 14=iv (y.length:Int)∧E 15=iv R∧I64 R∧E.ms=P∧Cx (fun _=>False) O0 w wv ([.ro (.sl si) [.slice M y.length D] y,.ro (.sl (.sl si)) [.slice G d.length x] d]++marksF P)∧loopN m (F.qci n y d) R=some o6) n ⟨([]:List Nat),0,rfl,rfl,rfl,rfl,rfl,rfl,rfl,(show I64 0 from by unfold I64; omega),rfl,hC.selT [1,0] (by decide),hl0⟩ ?_
 have hbK0:=hb
 clear hb hC hl0
 rintro m9 E11 w10 ⟨P,R,e0,e1,e4,e5,e13,e14,e15,Y,hms,hC,hl0⟩ K8 hK8
 obtain ⟨m9',o12,rfl,hb,hl0⟩:=qam hl0
 unfold F.qci at hb
 refine Wc.seq fun _ hK13=>rg ?_
 replace hC:Cx (fun _=>False) O0 w w10 ([.ro (.sl si) [.slice M y.length D] y,.ro (.sl (.sl si)) [.slice G d.length x] d]++marksF P):=hC
 refine lp _ (qau e15 e14)<|ln (hK13 _ _ ?_)
 refine Wc.seq fun _ hK14=>?_
 refine Wc.cond (t:=(decide (R<(y.length:Int)))) (rfl) (fun hq15=>?_) (fun hq15=>?_)
 replace hb:=tt hq15 hb
 refine Wc.skip (hK14 _ _ ?_)
 refine Wc.seq fun _ hK16=>?_
 refine Wc.block<|Wc.seq fun _ hK17=>rg ?_
 obtain ⟨x18,h19,hb⟩:=bd hb
 obtain ⟨ad20,cs21,hA,hc22,hr23⟩:=hC.elr (i:=0) rfl (qac h19).2
 subst hA
 refine lp (.pointer (some (ad20.add (R.toNat*1)))) (qag (a:=R) underlying27 sizeOf3 e13 e15 (qac h19).1) ?_
 replace hC:Cx (fun _=>False) O0 w w10 ([.ro (.sl si) [.slice (some ad20) y.length D] y,.ro (.sl (.sl si)) [.slice G d.length x] d]++marksF P):=hC
 obtain ⟨rfl,hr23'⟩:=hr23
 refine lv (iv x18) (qah isAgg3 rfl (hc22 0 _ rfl))<|lp (iv x18) (qab rfl)<|ln (hK17 _ _ ?_)
 refine Wc.seq fun _ hK24=>rg<|lp (iv x18) (qaa rfl)<|lex.op (hC.lit (s:=si) (vs:=[iv x18]) (xs:=[x18]) underlying27 type3 rfl rfl (nb rfl) rfl rfl (by simp [Value.cells,Sh.n]) rfl (show Elems _ _ si ([iv x18]++([])) ([x18]:List Int) from Elems.cons (⟨rfl,I64.wr (qbl hr23')⟩) (Elems.nil _ _ _))) ?_
 rintro _ w29 ⟨A25,c26,rfl,hl27,hc28,hC,-,-⟩
 replace hC:Cx (fun _=>False) O0 w w29 ([.own 3 si (.slice A25 ((([x18]:List Int)).length) c26) ([x18]:List Int),.ro (.sl si) [.slice (some ad20) y.length D] y,.ro (.sl (.sl si)) [.slice G d.length x] d]++marksF P):=hC
 refine lp _ (qaa e1)<|lp (iv (d.length:Int)) (qan (A:=G) (n:=d.length) (m:=x) underlying37 rfl) ?_
 obtain ⟨y31,h32,hb⟩:=bd hb
 refine lex.cl (⟨_,_,qas (vs:=[.slice A25 ((([x18]:List Int)).length) c26,iv (d.length:Int)]) call32 rfl rfl rfl,word_Valid_ok n (hC.lentLt [.slice A25 ((([x18]:List Int)).length) c26]) ((hC.ow (i:=0) rfl).lend (vs:=[.slice A25 ((([x18]:List Int)).length) c26]) (by simp)) (I64.len a0 a1) h32⟩) ?_
 rintro _ w33 ⟨rfl,hK⟩
 replace hC:=hC.mergeF hK rfl
 clear hK
 replace hC:Cx (fun _=>False) O0 w w33 ([.own 3 si (.slice A25 ((([x18]:List Int)).length) c26) ([x18]:List Int),.ro (.sl si) [.slice (some ad20) y.length D] y,.ro (.sl (.sl si)) [.slice G d.length x] d]++marksF P):=hC
 refine lp (.bool (!y31)) (qcd (q:=y31) rfl)<|ln (hK24 _ _ ?_)
 refine Wc.fresh fun E34 hE=>?_
 have e0:=cg hE 0 e0
 have e1:=cg hE 1 e1
 have e4:=cg hE 4 e4
 have e5:=cg hE 5 e5
 have e7:E34 7=iv x18:=cg hE 7 rfl
 have e13:=cg hE 13 e13
 have e14:=cg hE 14 e14
 have e15:=cg hE 15 e15
 have e16:E34 16=.bool (decide (R<(y.length:Int))):=cg hE 16 rfl
 have e24:E34 24=.bool (!y31):=cg hE 24 rfl
 clear hE
 refine Wc.cond (t:=(!y31)) (e24) (fun hq35=>?_) (fun hq35=>?_)
 replace hb:=tt hq35 hb
 refine Wc.seq fun _ hK36=>rg<|lp (.slice none 0 0) (qab rfl)<|lp (iv 2) (qab rfl)<|ln (hK36 _ _ ?_)
 obtain rfl:=os hb
 obtain rfl:=(lX hl0).symm
 replace hb:=hbK0
 replace hC:=hC.nil 3 si
 replace hC:Cx (fun _=>False) O0 w w33 ([.own 3 si (.slice none 0 0) ([]:List Int),.own 3 si (.slice A25 ((([x18]:List Int)).length) c26) ([x18]:List Int),.ro (.sl si) [.slice (some ad20) y.length D] y,.ro (.sl (.sl si)) [.slice G d.length x] d]++marksF P):=hC
 obtain rfl:=os hb
 refine Wc.ret ?_
 replace hC:Cx (fun _=>False) O0 w w33 (marksF P++[.own 3 si (.slice none 0 0) ([]:List Int),.own 3 si (.slice A25 ((([x18]:List Int)).length) c26) ([x18]:List Int),.ro (.sl si) [.slice (some ad20) y.length D] y,.ro (.sl (.sl si)) [.slice G d.length x] d]):=hC.perm List.perm_append_comm
 refine hKR _ _ _ _ _ _ _ hms hC fun w38 hC=>?_
 refine ⟨_,res2 results35 (tV (.slice none 0 0) rfl) (tV (iv 2) rfl),_,rfl,none,0,0,rfl,(show I64 2 from by unfold I64; omega),hC.sE [0]⟩
 replace hb:=tf hq35 hb
 refine Wc.skip (hK16 _ _ ?_)
 refine rg ?_
 obtain ⟨z39,h40,hb⟩:=bd hb
 refine lp (iv z39) (qak (a:=R) (b:=1) e15 rfl h40)<|lp (iv z39) (qaa rfl)<|ln ?_
 obtain rfl:=os hb
 exact hK8 m9' _ _ (Nat.lt_succ_self _) ⟨P,z39,e0,e1,e4,e5,e13,e14,rfl,(qai h40),hms,hC.selT [1,2] (by decide),lN hl0⟩
 replace hb:=tf hq15 hb
 refine Wc.exit rfl ?_
 obtain rfl:=os hb
 obtain rfl:=(lX hl0).symm
 exact hK7 _ _ ⟨P,R,e0,e1,e4,e5,Y,hms,hC.selT [0,1] (by decide),hbK0⟩
 clear hb hC hl0
 rintro E42 w41 ⟨P,R,e0,e1,e4,e5,Y,hms,hC,hb⟩
 refine hK4 _ _<|Wc.seq fun _ hK43=>rg ?_
 replace hC:Cx (fun _=>False) O0 w w41 ([.ro (.sl si) [.slice M y.length D] y,.ro (.sl (.sl si)) [.slice G d.length x] d]++marksF P):=hC
 refine lex.op (hC.alloc (cs:=[.slice none 0 0]) zeroValue27 rfl) ?_
 rintro _ w45 ⟨g44,rfl,hC,hF,-⟩
 refine ln (hK43 _ _ ?_)
 refine Wc.seq fun _ hK47=>?_
 refine Wc.seq fun _ hK48=>rg ?_
 replace hC:Cx (fun _=>False) O0 w w45 ([.box g44 27 [.slice none 0 0],.ro (.sl si) [.slice M y.length D] y,.ro (.sl (.sl si)) [.slice G d.length x] d]++marksF P):=hC
 refine lp _ (qaa e0)<|lp (iv (y.length:Int)) (qan (A:=M) (n:=y.length) (m:=D) underlying27 rfl)<|lp (iv 0) (qaa rfl)<|ln (hK48 _ _ ?_)
 replace hC:=hC.nil 3 si
 obtain ⟨o50,hl1,f50,hf50,hb⟩:=bn hb
 refine Wc.cut (fun E wv=> ∃(J:List Nat) (N:Int) (o:List Int) (p:Option Addr) (Q u:Nat),E 4=.slice none 0 0∧E 5=iv 0∧E 8=pg g44∧I64 N∧E.ms=J∧Cx (fun _=>False) O0 w wv ([.box g44 27 [.slice p Q u],.own 3 si (.slice p Q u) o]++marksF J)∧f50 (N,o)=some r) (fun _ hK51=>?_) ?_
 refine Wc.block ?_
 replace hC:Cx (fun _=>False) O0 w w45 ([.own 3 si (.slice none 0 0) ([]:List Int),.box g44 27 [.slice none 0 0],.ro (.sl si) [.slice M y.length D] y,.ro (.sl (.sl si)) [.slice G d.length x] d]++marksF P):=hC
 refine Wc.loop (fun m E wv=> ∃(J:List Nat) (N:Int) (o:List Int) (p:Option Addr) (Q u:Nat),E 1=.slice G d.length x∧E 4=.slice none 0 0∧E 5=iv 0∧E 8=pg g44∧E 26=.slice M y.length D∧E 27=iv (y.length:Int)∧E 28=iv N∧I64 N∧E.ms=J∧Cx (fun _=>False) O0 w wv ([.ro (.sl (.sl si)) [.slice G d.length x] d,.box g44 27 [.slice p Q u],.own 3 si (.slice p Q u) o,.ro (.sl si) [.slice M y.length D] y]++marksF J)∧loopN m (F.qbs n y d) (N,o)=some o50) n ⟨P,0,([]:List Int),none,0,0,e1,e4,e5,rfl,rfl,rfl,rfl,(show I64 0 from by unfold I64; omega),hms,hC.selT [3,1,0,2] (by decide),hl1⟩ ?_
 have hbK1:=hb
 clear hb hC hl1
 rintro m53 E55 w54 ⟨J,N,o,p,Q,u,e1,e4,e5,e8,e26,e27,e28,Z,hms,hC,hl1⟩ K52 hK52
 obtain ⟨m53',o56,rfl,hb,hl1⟩:=qam hl1
 unfold F.qbs at hb
 obtain ⟨rfl,a2,a3⟩:=(hC.ow (i:=2) rfl).qaf
 refine Wc.seq fun _ hK57=>rg ?_
 replace hC:Cx (fun _=>False) O0 w w54 ([.ro (.sl (.sl si)) [.slice G d.length x] d,.box g44 27 [.slice p o.length u],.own 3 si (.slice p o.length u) o,.ro (.sl si) [.slice M y.length D] y]++marksF J):=hC
 refine lp _ (qau e28 e27)<|ln (hK57 _ _ ?_)
 refine Wc.seq fun _ hK58=>?_
 refine Wc.cond (t:=(decide (N<(y.length:Int)))) (rfl) (fun hq59=>?_) (fun hq59=>?_)
 replace hb:=tt hq59 hb
 refine Wc.skip (hK58 _ _ ?_)
 refine Wc.seq fun _ hK60=>?_
 refine Wc.block<|Wc.seq fun _ hK61=>rg ?_
 obtain ⟨x62,h63,hb⟩:=bd hb
 obtain ⟨ad64,cs65,hA,hc66,hr67⟩:=hC.elr (i:=3) rfl (qac h63).2
 subst hA
 refine lp (.pointer (some (ad64.add (N.toNat*1)))) (qag (a:=N) underlying27 sizeOf3 e26 e28 (qac h63).1) ?_
 replace hC:Cx (fun _=>False) O0 w w54 ([.ro (.sl (.sl si)) [.slice G d.length x] d,.box g44 27 [.slice p o.length u],.own 3 si (.slice p o.length u) o,.ro (.sl si) [.slice (some ad64) y.length D] y]++marksF J):=hC
 obtain ⟨rfl,hr67'⟩:=hr67
 refine lv (iv x62) (qah isAgg3 rfl (hc66 0 _ rfl))<|lp (iv x62) (qab rfl)<|ln (hK61 _ _ ?_)
 refine Wc.seq fun _ hK68=>?_
 refine Wc.seq fun _ hK69=>rg<|lp (iv x62) (qaa rfl)<|lp (.bool (decide (0<x62))) (qbi (k:=.i64) (a:=x62) (b:=0) rfl rfl)<|ln (hK69 _ _ ?_)
 refine Wc.cond (t:=(decide (0<x62))) (rfl) (fun hq70=>?_) (fun hq70=>?_)
 replace hb:=tt hq70 hb
 refine Wc.seq fun _ hK71=>?_
 refine Wc.regionMix [39] (frm [39] [.own 3 si (.slice p o.length u) o] [.box g44 27 [.slice p o.length u]]) (fun _=>rfl) mixed (by decide+kernel) (by decide+kernel) fun w73 hw72=>?_
 replace hC:=hC.step (Fr.qbh hw72)
 have hM:=Fr.refl (fun k=>k∈blocks [.own 3 si (.slice p o.length u) o]) w73
 clear hw72
 have hS:=hC
 have a4:Beside [.own 3 si (.slice p o.length u) o] w73 (.slice p o.length u):=Beside.of (i:=0) rfl
 have hD:Fr (fun k=>k∈blocks ([.own 3 si (.slice p o.length u) o]++[.box g44 27 [.slice p o.length u]])) w73 w73:=hM.wide
 have a8:Beside ([.own 3 si (.slice p o.length u) o]++[.box g44 27 [.slice p o.length u]]) w73 (.slice p o.length u):=Beside.of (i:=0) rfl
 have hUf46:g44<w73.heap.size→g44∈blocks ([.own 3 si (.slice p o.length u) o]++[.box g44 27 [.slice p o.length u]]):=fun _=>box_in (i:=1) rfl
 replace hC:Cx (fun _=>False) O0 w w73 ([.ro (.sl (.sl si)) [.slice G d.length x] d,.box g44 27 [.slice p o.length u],.own 3 si (.slice p o.length u) o,.ro (.sl si) [.slice (some ad64) y.length D] y]++marksF J):=hC
 refine mixE.load hM (v:=.slice p o.length u) (fun _ hF=>qah isAgg27 e8 ((hS.bx2 (i:=1) rfl [2] (by decide) hF).cell (j:=0) rfl))<|mp (.slice G d.length x) (qaa e1)<|mp (iv x62) (qaa rfl) ?_
 obtain ⟨z74,h75,hb⟩:=bd hb
 refine mp (iv z74) (qbu (a:=x62) (b:=1) rfl rfl h75) ?_
 obtain ⟨x76,h77,hb⟩:=bd hb
 obtain ⟨ad78,cs79,hA,ho82,hc80,hr81⟩:=hS.elr2 (i:=0) rfl (qac h77).2 [2,1]
 subst hA
 refine mp (.pointer (some (ad78.add (z74.toNat*1)))) (qag (a:=z74) underlying37 sizeOf27 rfl rfl (qac h77).1) ?_
 replace hC:Cx (fun _=>False) O0 w w73 ([.ro (.sl (.sl si)) [.slice (some ad78) d.length x] d,.box g44 27 [.slice p o.length u],.own 3 si (.slice p o.length u) o,.ro (.sl si) [.slice (some ad64) y.length D] y]++marksF J):=hC
 have hR:=hr81
 obtain ⟨A83,c84,rfl,hl85,hc86,_⟩:=hr81
 replace hS:=hS.ro hR
 replace hC:=hC.ro hR
 clear hR
 refine mixE.steady hD (v:=.slice A83 x76.length c84) (fun _ hF=>qah isAgg27 rfl (hF.cell (hc80 0 _ rfl) (off1 ho82))) ?_
 replace hC:Cx (fun _=>False) O0 w w73 ([.ro (.sl si) [.slice A83 x76.length c84] x76,.ro (.sl (.sl si)) [.slice (some ad78) d.length x] d,.box g44 27 [.slice p o.length u],.own 3 si (.slice p o.length u) o,.ro (.sl si) [.slice (some ad64) y.length D] y]++marksF J):=hC
 replace hC:=hC.selT [3,0,1,2,4] (by decide)
 replace hC:Cx (fun _=>False) O0 w w73 ([.own 3 si (.slice p o.length u) o]++([.ro (.sl si) [.slice A83 x76.length c84] x76,.ro (.sl (.sl si)) [.slice (some ad78) d.length x] d,.box g44 27 [.slice p o.length u],.ro (.sl si) [.slice (some ad64) y.length D] y]++marksF J)):=hC
 obtain ⟨y88,h89,hb⟩:=bd hb
 refine mixE.cl hM (⟨_,_,qas (vs:=[.slice p o.length u,.slice A83 x76.length c84]) call56 rfl rfl rfl,word_push_ok n hC.lt (hC.rd (i:=1) rfl) hC.give h89⟩) ?_
 rintro _ w94 ⟨A90,m91,c92,rfl,hK⟩
 have hL95: ∀f∈([.own 3 si (.slice p o.length u) o]:List Fact),∀g,g<w73.heap.size→f.blk=some g→g∈blocks [.own 3 si (.slice p o.length u) o]:=List.forall_mem_cons.2 ⟨a4,fun _ h=>absurd h List.not_mem_nil⟩
 have hBf93:=Beside.io (i:=0) hM hL95 hK rfl
 have hUf93:=hBf93.wide (H:=[.box g44 27 [.slice p o.length u]])
 replace hM:=hM.besideL hL95 hK.fr
 replace hD:=hM.wide (H:=[.box g44 27 [.slice p o.length u]])
 refine ⟨hM,?_⟩
 replace hC:=hC.back hK
 clear hK
 obtain ⟨rfl,hl96,hc97⟩:=(hC.ow (i:=0) rfl).qaf
 replace hC:Cx (fun _=>False) O0 w w94 ([.own 3 si (.slice A90 y88.length c92) y88,.ro (.sl si) [.slice A83 x76.length c84] x76,.ro (.sl (.sl si)) [.slice (some ad78) d.length x] d,.box g44 27 [.slice p o.length u],.ro (.sl si) [.slice (some ad64) y.length D] y]++marksF J):=hC
 refine mixE.sk hD (hC.setf (i:=3) (k:=0) (v:=.slice A90 y88.length c92) rfl sizeOf27 rfl (by rw [Addr.add_zero']; exact e8) rfl rfl) ?_
 rintro w98 ⟨hC,hF⟩
 replace hD:=hD.besideG hUf46 hF
 clear hF
 refine ⟨hD,?_⟩
 refine mixE.nil ?_
 clear hS hM
 clear hD
 refine hK71 _ _ ?_
 refine Wc.exit rfl ?_
 refine hK60 _ _<|rg ?_
 replace hC:Cx (fun _=>False) O0 w w98 ([.own 3 si (.slice A90 y88.length c92) y88,.ro (.sl si) [.slice A83 x76.length c84] x76,.ro (.sl (.sl si)) [.slice (some ad78) d.length x] d,.box g44 27 [.slice A90 y88.length c92],.ro (.sl si) [.slice (some ad64) y.length D] y]++marksF J):=hC
 obtain ⟨z99,h100,hb⟩:=bd hb
 refine lp (iv z99) (qak (a:=N) (b:=1) e28 rfl h100)<|lp (iv z99) (qaa rfl)<|ln ?_
 obtain rfl:=os hb
 exact hK52 m53' _ _ (Nat.lt_succ_self _) ⟨J,z99,y88,A90,y88.length,c92,e1,e4,e5,e8,e26,e27,rfl,(qai h100),hms,hC.selT [2,3,0,4] (by decide),lN hl1⟩
 replace hb:=tf hq70 hb
 refine Wc.skip (hK68 _ _ ?_)
 refine Wc.seq fun _ hK101=>rg<|lp _ (qaa e1)<|lp (iv x62) (qaa rfl) ?_
 obtain ⟨z102,h103,hb⟩:=bd hb
 refine lp (iv z102) (qbx (a:=x62) rfl h103) ?_
 obtain ⟨z104,h105,hb⟩:=bd hb
 refine lp (iv z104) (qbu (a:=z102) (b:=1) rfl rfl h105) ?_
 obtain ⟨x106,h107,hb⟩:=bd hb
 obtain ⟨ad108,cs109,hA,hc110,hr111⟩:=hC.elr (i:=0) rfl (qac h107).2
 subst hA
 refine lp (.pointer (some (ad108.add (z104.toNat*1)))) (qag (a:=z104) underlying37 sizeOf27 rfl rfl (qac h107).1) ?_
 replace hC:Cx (fun _=>False) O0 w w54 ([.ro (.sl (.sl si)) [.slice (some ad108) d.length x] d,.box g44 27 [.slice p o.length u],.own 3 si (.slice p o.length u) o,.ro (.sl si) [.slice (some ad64) y.length D] y]++marksF J):=hC
 have hR:=hr111
 obtain ⟨A112,c113,rfl,hl114,hc115,_⟩:=hr111
 replace hC:=hC.ro hR
 clear hR
 refine lv (.slice A112 x106.length c113) (qah isAgg27 rfl (hc110 0 _ rfl)) ?_
 replace hC:Cx (fun _=>False) O0 w w54 ([.ro (.sl si) [.slice A112 x106.length c113] x106,.ro (.sl (.sl si)) [.slice (some ad108) d.length x] d,.box g44 27 [.slice p o.length u],.own 3 si (.slice p o.length u) o,.ro (.sl si) [.slice (some ad64) y.length D] y]++marksF J):=hC
 refine lex.cl (⟨_,_,qas (vs:=[.slice A112 x106.length c113]) call57 rfl rfl rfl,slices_Backward_Word_int_ok (m:=x106.length) hC.lt⟩) ?_
 rintro _ w119 ⟨g117,rfl,hK⟩
 replace hC:=hC.merge hK
 clear hK
 refine ln (hK101 _ _ ?_)
 refine Wc.fresh fun E120 hE=>?_
 have e1:=cg hE 1 e1
 have e4:=cg hE 4 e4
 have e5:=cg hE 5 e5
 have e8:=cg hE 8 e8
 have e10:E120 10=iv x62:=cg hE 10 rfl
 have e26:=cg hE 26 e26
 have e27:=cg hE 27 e27
 have e28:=cg hE 28 e28
 have e29:E120 29=.bool (decide (N<(y.length:Int))):=cg hE 29 rfl
 have e33:E120 33=.bool (decide (0<x62)):=cg hE 33 rfl
 have e47:E120 47=.func (.func 82) #[] #[pg g117]:=cg hE 47 rfl
 clear hE
 replace hC:Cx (fun _=>False) O0 w w119 ([.box g117 27 [.slice A112 x106.length c113],.ro (.sl si) [.slice A112 x106.length c113] x106,.ro (.sl (.sl si)) [.slice (some ad108) d.length x] d,.box g44 27 [.slice p o.length u],.own 3 si (.slice p o.length u) o,.ro (.sl si) [.slice (some ad64) y.length D] y]++marksF J):=hC
 obtain ⟨o121,hl2,hb⟩:=bd hb
 refine Wc.cut (fun E wv=> ∃(X:List Nat) (z:List Int) (B:Option Addr) (K C:Nat),E 1=.slice (some ad108) d.length x∧E 4=.slice none 0 0∧E 5=iv 0∧E 8=pg g44∧E 10=iv x62∧E 26=.slice (some ad64) y.length D∧E 27=iv (y.length:Int)∧E 28=iv N∧E 29=.bool (decide (N<(y.length:Int)))∧E 33=.bool (decide (0<x62))∧E 47=.func (.func 82) #[] #[pg g117]∧E.ms=X∧Cx (fun _=>False) O0 w wv ([.ro (.sl (.sl si)) [.slice (some ad108) d.length x] d,.box g44 27 [.slice B K C],.own 3 si (.slice B K C) z,.ro (.sl si) [.slice (some ad64) y.length D] y,.box g117 27 [.slice A112 x106.length c113],.ro (.sl si) [.slice A112 x106.length c113] x106]++marksF X)∧((chk (N+1)).bind fun z153=>some (.inl (z153,z)):Option ((Int×(List Int))⊕((Int×(List Int)))))=some o56) (fun _ hK122=>?_) ?_
 refine Wc.block ?_
 replace hC:=hC.selT [2,3,4,5,0,1] (by decide)
 replace hC:Cx (fun _=>False) O0 w w119 ([.ro (.sl (.sl si)) [.slice (some ad108) d.length x] d,.box g44 27 [.slice p o.length u],.own 3 si (.slice p o.length u) o,.ro (.sl si) [.slice (some ad64) y.length D] y,.box g117 27 [.slice A112 x106.length c113],.ro (.sl si) [.slice A112 x106.length c113] x106]++marksF J):=hC
 refine Wc.range (fun kk L=> ∃(m:Nat) (z:List Int) (B:Option Addr) (K C:Nat),L=([.ro (.sl (.sl si)) [.slice (some ad108) d.length x] d,.box g44 27 [.slice B K C],.own 3 si (.slice B K C) z,.ro (.sl si) [.slice (some ad64) y.length D] y,.box g117 27 [.slice A112 x106.length c113],.ro (.sl si) [.slice A112 x106.length c113] x106]++marksF J)∧loopN m (F.qbt n x106) (kk,z)=some o121) (fun _=>False) ([]:List Nat) (fun id L=> ∃(z:List Int) (B:Option Addr) (K C:Nat),L=([.ro (.sl (.sl si)) [.slice (some ad108) d.length x] d,.box g44 27 [.slice B K C],.own 3 si (.slice B K C) z,.ro (.sl si) [.slice (some ad64) y.length D] y,.box g117 27 [.slice A112 x106.length c113],.ro (.sl si) [.slice A112 x106.length c113] x106]++marksF J)∧o121=z) e47 call82 (slices_Backward_Word_int_it (A:=A112) (c:=c113) (xs:=x106)) (fun _=>rfl) (by simp) (fun kk=>[(48,iv ((x106.length:Int)-1-(kk:Int))),(49,iv (x106.getD (x106.length-1-kk) 0))]) (fun kk=>by simp) hC ⟨n,o,p,o.length,u,rfl,hl2⟩ ?_ _ (fun l kk W=>Wc.region (by decide+kernel) (lex.pure (v:=iv (x106.getD (x106.length-1-kk) 0)) (qab rfl) (lex.nil ⟨rfl,rfl⟩))) ?_ ?_ ?_ ?_
 rintro k L W f1 f2 ⟨m,z,B,K,C,rfl,hl2⟩ hC
 exact rdBackR hC (i:=6) (j:=7) rfl rfl
 have hbK2:=hb
 clear hb hC hl2
 rintro b3 l127 D128 oB129 oK130 L w124 hk ⟨m123,z,B,K,C,rfl,hl2⟩ hC Kn Kr Kx hKn hKr hKx
 obtain ⟨m123',o126,rfl,hb,hl2⟩:=qam hl2
 unfold F.qbt at hb
 replace hb:=(cT (decide_eq_true hk)).symm.trans hb
 obtain ⟨a7,hxx,hb⟩:=bd hb
 have b2:I64 a7:=by obtain ⟨_,_,_,_,hr⟩:=hC.elr (i:=7) rfl (rev_i hxx); exact i64w hr.2
 refine Wc.fresh fun E125 hE=>?_
 have e1:=cg hE 1 e1
 have e4:=cg hE 4 e4
 have e5:=cg hE 5 e5
 have e8:=cg hE 8 e8
 have e10:=cg hE 10 e10
 have e26:=cg hE 26 e26
 have e27:=cg hE 27 e27
 have e28:=cg hE 28 e28
 have e29:=cg hE 29 e29
 have e33:=cg hE 33 e33
 have e47:=cg hE 47 e47
 have e49:E125 49=iv a7:=(congrFun hE 49).trans (congrArg (Value.int .i64) (rev_x hxx))
 have e12:E125 12=iv a7:=(congrFun hE 12).trans (congrArg (Value.int .i64) (rev_x hxx))
 clear hE
 obtain ⟨rfl,S,T⟩:=(hC.ow (i:=4) rfl).qaf
 refine Wc.block<|rg ?_
 replace hC:Cx (fun _=>False) O0 w w124 ([.obj l127 oB129,.obj D128 oK130,.ro (.sl (.sl si)) [.slice (some ad108) d.length x] d,.box g44 27 [.slice B z.length C],.own 3 si (.slice B z.length C) z,.ro (.sl si) [.slice (some ad64) y.length D] y,.box g117 27 [.slice A112 x106.length c113],.ro (.sl si) [.slice A112 x106.length c113] x106]++marksF J):=hC
 refine lv (.slice B z.length C) (qah isAgg27 e8 ((hC.bx (i:=3) rfl).cell (j:=0) rfl))<|lp _ (qaa e12) ?_
 obtain ⟨z133,h134,hb⟩:=bd hb
 refine lp (iv z133) (qbx (a:=a7) rfl h134)<|lex.op (hC.lit (s:=si) (vs:=[iv z133]) (xs:=[z133]) underlying22 type3 rfl rfl (nb rfl) rfl rfl (by simp [Value.cells,Sh.n]) rfl (show Elems _ _ si ([iv z133]++([])) ([z133]:List Int) from Elems.cons (⟨rfl,I64.wr (qai h134)⟩) (Elems.nil _ _ _))) ?_
 rintro _ w139 ⟨A135,c136,rfl,hl137,hc138,hC,-,-⟩
 replace hC:Cx (fun _=>False) O0 w w139 ([.own 3 si (.slice A135 ((([z133]:List Int)).length) c136) ([z133]:List Int),.obj l127 oB129,.obj D128 oK130,.ro (.sl (.sl si)) [.slice (some ad108) d.length x] d,.box g44 27 [.slice B z.length C],.own 3 si (.slice B z.length C) z,.ro (.sl si) [.slice (some ad64) y.length D] y,.box g117 27 [.slice A112 x106.length c113],.ro (.sl si) [.slice A112 x106.length c113] x106]++marksF J):=hC
 replace hC:=hC.selT [5,0,1,2,3,4,6,7,8] (by decide)
 replace hC:Cx (fun _=>False) O0 w w139 ([.own 3 si (.slice B z.length C) z]++([.own 3 si (.slice A135 ((([z133]:List Int)).length) c136) ([z133]:List Int),.obj l127 oB129,.obj D128 oK130,.ro (.sl (.sl si)) [.slice (some ad108) d.length x] d,.box g44 27 [.slice B z.length C],.ro (.sl si) [.slice (some ad64) y.length D] y,.box g117 27 [.slice A112 x106.length c113],.ro (.sl si) [.slice A112 x106.length c113] x106]++marksF J)):=hC
 obtain ⟨y141,h142,hb⟩:=bd hb
 refine lex.cl (⟨_,_,qas (vs:=[.slice B z.length C,.slice A135 ((([z133]:List Int)).length) c136]) call56 rfl rfl rfl,word_push_ok n (hC.lentLt [.slice A135 ((([z133]:List Int)).length) c136]) ((hC.ow (i:=1) rfl).lend (vs:=[.slice A135 ((([z133]:List Int)).length) c136]) (by simp)) (hC.give.lent [.slice A135 ((([z133]:List Int)).length) c136] (hC.apart (List.forall_mem_cons.2 ⟨blk_in (i:=0) rfl,fun _ h=>absurd h List.not_mem_nil⟩))) h142⟩) ?_
 rintro _ w147 ⟨A143,m144,c145,rfl,hK⟩
 replace hC:=hC.back (hK.flatTk rfl hC.lt)
 clear hK
 obtain ⟨rfl,hl148,hc149⟩:=(hC.ow (i:=0) rfl).qaf
 replace hC:Cx (fun _=>False) O0 w w147 ([.own 3 si (.slice A143 y141.length c145) y141,.own 3 si (.slice A135 ((([z133]:List Int)).length) c136) ([z133]:List Int),.obj l127 oB129,.obj D128 oK130,.ro (.sl (.sl si)) [.slice (some ad108) d.length x] d,.box g44 27 [.slice B z.length C],.ro (.sl si) [.slice (some ad64) y.length D] y,.box g117 27 [.slice A112 x106.length c113],.ro (.sl si) [.slice A112 x106.length c113] x106]++marksF J):=hC
 refine lex.sk (hC.setf (i:=5) (k:=0) (v:=.slice A143 y141.length c145) rfl sizeOf27 rfl (by rw [Addr.add_zero']; exact e8) rfl rfl) ?_
 rintro w150 ⟨hC,hF⟩
 refine ln ?_
 obtain rfl:=os hb
 replace hC:Cx (fun _=>False) O0 w w150 ([.own 3 si (.slice A143 y141.length c145) y141,.own 3 si (.slice A135 ((([z133]:List Int)).length) c136) ([z133]:List Int),.obj l127 oB129,.obj D128 oK130,.ro (.sl (.sl si)) [.slice (some ad108) d.length x] d,.box g44 27 [.slice A143 y141.length c145],.ro (.sl si) [.slice (some ad64) y.length D] y,.box g117 27 [.slice A112 x106.length c113],.ro (.sl si) [.slice A112 x106.length c113] x106]++marksF J):=hC
 exact hKn _ _ _ ⟨m123',y141,A143,y141.length,c145,rfl,lN hl2⟩ (hC.selT [2,3,4,5,0,6,7,8] (by decide))
 rintro a9 L wv ⟨m,z,B,K,C,rfl,hl2⟩ hC
 obtain ⟨m',o2,rfl,hb2,hl2⟩:=qam hl2
 unfold F.qbt at hb2
 replace hb2:=(cF (decide_eq_false (Nat.lt_irrefl _))).symm.trans hb2
 obtain rfl:=os hb2
 obtain rfl:=(lX hl2).symm
 replace hC:=hC.markIn
 obtain ⟨rfl,S,T⟩:=(hC.ow (i:=2) rfl).qaf
 replace hC:Cx (fun _=>False) O0 w wv ([.ro (.sl (.sl si)) [.slice (some ad108) d.length x] d,.box g44 27 [.slice B z.length C],.own 3 si (.slice B z.length C) z,.ro (.sl si) [.slice (some ad64) y.length D] y,.box g117 27 [.slice A112 x106.length c113],.ro (.sl si) [.slice A112 x106.length c113] x106]++marksF (a9::J)):=hC
 exact hK122 _ _ ⟨(a9::J),z,B,z.length,C,e1,e4,e5,e8,e10,e26,e27,e28,e29,e33,e47,(congrArg (List.cons _) hms),hC.selT [0,1,2,3,4,5] (by decide),hb⟩
 exact fun _ _ _ h=>h.elim
 exact fun _ _ _ _ h=>absurd h List.not_mem_nil
 clear hb hC hl2
 rintro E152 w151 ⟨X,z,B,K,C,e1,e4,e5,e8,e10,e26,e27,e28,e29,e33,e47,hms,hC,hb⟩
 obtain ⟨rfl,S,T⟩:=(hC.ow (i:=2) rfl).qaf
 refine hK60 _ _<|rg ?_
 replace hC:Cx (fun _=>False) O0 w w151 ([.ro (.sl (.sl si)) [.slice (some ad108) d.length x] d,.box g44 27 [.slice B z.length C],.own 3 si (.slice B z.length C) z,.ro (.sl si) [.slice (some ad64) y.length D] y,.box g117 27 [.slice A112 x106.length c113],.ro (.sl si) [.slice A112 x106.length c113] x106]++marksF X):=hC
 obtain ⟨z153,h154,hb⟩:=bd hb
 refine lp (iv z153) (qak (a:=N) (b:=1) e28 rfl h154)<|lp (iv z153) (qaa rfl)<|ln ?_
 obtain rfl:=os hb
 exact hK52 m53' _ _ (Nat.lt_succ_self _) ⟨X,z153,z,B,z.length,C,e1,e4,e5,e8,e26,e27,rfl,(qai h154),hms,hC.selT [0,1,2,3] (by decide),lN hl1⟩
 replace hb:=tf hq59 hb
 refine Wc.exit rfl ?_
 obtain rfl:=os hb
 obtain rfl:=(lX hl1).symm
 exact hK51 _ _ ⟨J,N,o,p,o.length,u,e4,e5,e8,Z,hms,hC.selT [1,2] (by decide),hbK1⟩
 clear hb hC hl1
 rintro E156 w155 ⟨J,N,o,p,Q,u,e4,e5,e8,Z,hms,hC,hb⟩
 subst hf50
 obtain ⟨rfl,a2,a3⟩:=(hC.ow (i:=1) rfl).qaf
 refine hK47 _ _<|Wc.seq fun _ hK157=>rg ?_
 replace hC:Cx (fun _=>False) O0 w w155 ([.box g44 27 [.slice p o.length u],.own 3 si (.slice p o.length u) o]++marksF J):=hC
 refine lv (.slice p o.length u) (qah isAgg27 e8 ((hC.bx (i:=0) rfl).cell (j:=0) rfl))<|lp (.slice p o.length u) (qab rfl)<|lp (iv 0) (qab rfl)<|ln (hK157 _ _ ?_)
 obtain rfl:=os hb
 refine Wc.ret ?_
 replace hC:Cx (fun _=>False) O0 w w155 (marksF J++[.box g44 27 [.slice p o.length u],.own 3 si (.slice p o.length u) o]):=hC.perm List.perm_append_comm
 refine hKR _ _ _ _ _ _ _ hms hC fun w158 hC=>?_
 refine ⟨_,res2 results35 (tV (.slice p o.length u) rfl) (tV (iv 0) rfl),_,rfl,p,o.length,u,rfl,(show I64 0 from by unfold I64; omega),hC.sE [1]⟩

theorem artin_Act_ok (n:Nat) {w:World} {O0:List Nat} (hO: ∀k∈O0,k<w.heap.size) {o:Int} (y:I64 o) {j:Option Addr} {B g:Nat} {c:List Int} (C:Rep O0 w (.sl si) [.slice j B g] c) {s:Option Addr} {D u:Nat} {x:List Int} (G:Rep O0 w (.sl si) [.slice s D u] x) {r:(List Int)×Int} (hb:F.artin_Act n o c x=some r):
    Calls prog 11 #[.agg #[iv o,.slice j B g],.slice s D u] w fun e w'=> ∃v,e=.returned v∧∃(A0:Option Addr) (m0 c0:Nat),v=.tuple #[.slice A0 m0 c0,iv r.2]∧I64 r.2∧Cx (fun _=>False) O0 w w' [.own 3 si (.slice A0 m0 c0) r.1]:=by
 unfold F.artin_Act at hb
 have hC:=Cx.start hO
 replace hC:=hC.arg rfl C
 replace hC:=hC.arg rfl G
 clear hO
 obtain ⟨rfl,K,L⟩:=C.qaf
 obtain ⟨rfl,M,N⟩:=G.qaf
 refine qao func11 rfl (by rw [ntmps11]; exact nb rfl) fun KR hKR=>?_
 refine Wc.seq fun _ hK3=>rg<|lex.op (hC.box (cs:=[iv o,.slice j c.length g]) rfl rfl) ?_
 rintro _ w5 ⟨g4,rfl,hC,hF,-⟩
 refine lp (.slice none 0 0) (qab rfl)<|lp (iv 0) (qab rfl)<|ln (hK3 _ _ ?_)
 refine Wc.seq fun _ hK7=>?_
 refine Wc.seq fun _ hK8=>rg<|lv (.agg #[iv o,.slice j c.length g]) (qbm (hC.bx (i:=0) rfl) isAgg24 sizeOf24 rfl) ?_
 obtain ⟨y9,h10,hb⟩:=bd hb
 refine lex.cl (⟨_,_,qas (vs:=[.agg #[iv o,.slice j c.length g]]) call16 rfl rfl rfl,qhc n hC.lt y (hC.rd (i:=2) rfl) h10⟩) ?_
 rintro _ w11 ⟨rfl,hK⟩
 replace hC:=hC.merge hK
 clear hK
 refine lp (.bool (!y9)) (qcd (q:=y9) rfl)<|ln (hK8 _ _ ?_)
 refine Wc.cond (t:=(!y9)) (rfl) (fun hq12=>?_) (fun hq12=>?_)
 replace hb:=tt hq12 hb
 refine Wc.seq fun _ hK13=>rg<|lp (.slice none 0 0) (qab rfl)<|lp (iv 1) (qab rfl)<|ln (hK13 _ _ ?_)
 replace hC:=hC.nil 3 si
 obtain rfl:=os hb
 refine Wc.ret (hKR _ _ ?_)
 refine ⟨_,res2 results11 (tV (.slice none 0 0) rfl) (tV (iv 1) rfl),_,rfl,none,0,0,rfl,(show I64 1 from by unfold I64; omega),hC.sE [0]⟩
 replace hb:=tf hq12 hb
 refine Wc.skip (hK7 _ _ ?_)
 refine Wc.seq fun _ hK15=>?_
 refine Wc.seq fun _ hK16=>rg<|lp (.slice s x.length u) (qaa rfl)<|lp (.pointer (some ((⟨g4,0,none⟩:Addr).add 0))) (qal (sz:=1) underlying24 rfl sizeOf3 (by decide) rfl rfl)<|lv (iv o) (qar (hC.bx (i:=0) rfl) isAgg3 rfl rfl) ?_
 obtain ⟨y17,h18,hb⟩:=bd hb
 refine lex.cl (⟨_,_,qas (vs:=[.slice s x.length u,iv o]) call32 rfl rfl rfl,word_Valid_ok n hC.lt (hC.rd (i:=1) rfl) y h18⟩) ?_
 rintro _ w19 ⟨rfl,hK⟩
 replace hC:=hC.merge hK
 clear hK
 refine lp (.bool (!y17)) (qcd (q:=y17) rfl)<|ln (hK16 _ _ ?_)
 refine Wc.fresh fun E20 hE=>?_
 have e1:E20 1=.slice s x.length u:=cg hE 1 rfl
 have e2:E20 2=pg g4:=cg hE 2 rfl
 have e4:E20 4=.slice none 0 0:=cg hE 4 rfl
 have e5:E20 5=iv 0:=cg hE 5 rfl
 have e19:E20 19=.bool (!y17):=cg hE 19 rfl
 clear hE
 refine Wc.cond (t:=(!y17)) (e19) (fun hq21=>?_) (fun hq21=>?_)
 replace hb:=tt hq21 hb
 refine Wc.seq fun _ hK22=>rg<|lp (.slice none 0 0) (qab rfl)<|lp (iv 2) (qab rfl)<|ln (hK22 _ _ ?_)
 replace hC:=hC.nil 3 si
 obtain rfl:=os hb
 refine Wc.ret (hKR _ _ ?_)
 refine ⟨_,res2 results11 (tV (.slice none 0 0) rfl) (tV (iv 2) rfl),_,rfl,none,0,0,rfl,(show I64 2 from by unfold I64; omega),hC.sE [0]⟩
 replace hb:=tf hq21 hb
 refine Wc.skip (hK15 _ _ ?_)
 refine Wc.seq fun _ hK24=>rg<|lp (.func (.func 33) #[] #[pg g4]) (qga (map_of (qdi e2 m2_nil)))<|lp (.func (.func 33) #[] #[pg g4]) (qab rfl)<|ln (hK24 _ _ ?_)
 refine Wc.seq fun _ hK25=>rg<|lp _ (qaa e1) ?_
 obtain ⟨y26,h27,hb⟩:=bd hb
 refine lex.cl (⟨_,_,qas (vs:=[.slice s x.length u]) call34 rfl rfl rfl,qge n hC.lt (hC.rd (i:=1) rfl) h27⟩) ?_
 rintro _ w32 ⟨A28,m29,c30,rfl,hK⟩
 replace hC:=hC.merge hK
 clear hK
 obtain ⟨rfl,hl33,hc34⟩:=(hC.ow (i:=0) rfl).qaf
 refine lp (.slice A28 y26.length c30) (qab rfl)<|ln (hK25 _ _ ?_)
 refine Wc.seq fun _ hK35=>?_
 refine Wc.seq fun _ hK36=>rg<|lp (.slice A28 y26.length c30) (qaa rfl)<|lp (iv (y26.length:Int)) (qan (A:=A28) (n:=y26.length) (m:=c30) underlying27 rfl)<|lp (.bool (decide (20000<(y26.length:Int)))) (qbi (k:=.i64) (a:=(y26.length:Int)) (b:=20000) rfl rfl)<|ln (hK36 _ _ ?_)
 refine Wc.cond (t:=(decide (20000<(y26.length:Int)))) (rfl) (fun hq37=>?_) (fun hq37=>?_)
 replace hb:=tt hq37 hb
 refine Wc.seq fun _ hK38=>rg<|lp (.slice none 0 0) (qab rfl)<|lp (iv 5) (qab rfl)<|ln (hK38 _ _ ?_)
 replace hC:=hC.nil 3 si
 obtain rfl:=os hb
 refine Wc.ret (hKR _ _ ?_)
 refine ⟨_,res2 results11 (tV (.slice none 0 0) rfl) (tV (iv 5) rfl),_,rfl,none,0,0,rfl,(show I64 5 from by unfold I64; omega),hC.sE [0]⟩
 replace hb:=tf hq37 hb
 refine Wc.skip (hK35 _ _ ?_)
 refine Wc.seq fun _ hK40=>?_
 refine Wc.seq fun _ hK41=>rg<|lp (.pointer (some ((⟨g4,0,none⟩:Addr).add 1))) (qal (sz:=1) underlying24 rfl sizeOf22 (by decide) rfl e2)<|lv (.slice j c.length g) (qar (hC.bx (i:=1) rfl) isAgg22 rfl rfl)<|lp (iv (c.length:Int)) (qan (A:=j) (n:=c.length) (m:=g) underlying22 rfl)<|lp (iv 0) (qaa rfl)<|ln (hK41 _ _ ?_)
 refine Wc.fresh fun E42 hE=>?_
 have e4:=cg hE 4 e4
 have e5:=cg hE 5 e5
 have e6:E42 6=.func (.func 33) #[] #[pg g4]:=cg hE 6 rfl
 have e7:E42 7=.slice A28 y26.length c30:=cg hE 7 rfl
 have e27:E42 27=.slice j c.length g:=cg hE 27 rfl
 have e28:E42 28=iv (c.length:Int):=cg hE 28 rfl
 have e29:E42 29=iv 0:=cg hE 29 rfl
 clear hE
 obtain ⟨o43,hl0,hb⟩:=bd hb
 refine Wc.cut (fun E wv=> ∃(h:List Int) (l:Int) (d:Option Addr) (p f:Nat),E 4=.slice none 0 0∧E 5=iv 0∧E 7=.slice d p f∧I64 l∧Cx (fun _=>False) O0 w wv [.own 3 si (.slice d p f) h]∧(some (h,0):Option ((List Int)×Int))=some r) (fun _ hK44=>?_) ?_
 refine Wc.block ?_
 refine Wc.loop (fun m E wv=> ∃(h:List Int) (l:Int) (d:Option Addr) (p f:Nat),E 4=.slice none 0 0∧E 5=iv 0∧E 6=.func (.func 33) #[] #[pg g4]∧E 7=.slice d p f∧E 27=.slice j c.length g∧E 28=iv (c.length:Int)∧E 29=iv l∧I64 l∧Cx (fun _=>False) O0 w wv [.box g4 24 [iv o,.slice j c.length g],.ro (.sl si) [.slice j c.length g] c,.own 3 si (.slice d p f) h]∧loopN m (F.qce n o c) (h,l)=some o43) n ⟨y26,0,A28,y26.length,c30,e4,e5,e6,e7,e27,e28,e29,(show I64 0 from by unfold I64; omega),hC.sE [1,3,0],hl0⟩ ?_
 have hbK0:=hb
 clear hb hC hl0
 rintro m46 E48 w47 ⟨h,l,d,p,f,e4,e5,e6,e7,e27,e28,e29,z,hC,hl0⟩ K45 hK45
 obtain ⟨m46',o49,rfl,hb,hl0⟩:=qam hl0
 unfold F.qce at hb
 obtain ⟨rfl,H,J⟩:=(hC.ow (i:=2) rfl).qaf
 refine Wc.seq fun _ hK50=>rg<|lp _ (qau e29 e28)<|ln (hK50 _ _ ?_)
 refine Wc.seq fun _ hK51=>?_
 refine Wc.cond (t:=(decide (l<(c.length:Int)))) (rfl) (fun hq52=>?_) (fun hq52=>?_)
 replace hb:=tt hq52 hb
 refine Wc.skip (hK51 _ _ ?_)
 refine Wc.seq fun _ hK53=>?_
 refine Wc.block<|Wc.seq fun _ hK54=>rg ?_
 obtain ⟨x55,h56,hb⟩:=bd hb
 obtain ⟨ad57,cs58,hA,hc59,hr60⟩:=hC.elr (i:=1) rfl (qac h56).2
 subst hA
 refine lp (.pointer (some (ad57.add (l.toNat*1)))) (qag (a:=l) underlying22 sizeOf3 e27 e29 (qac h56).1) ?_
 obtain ⟨rfl,hr60'⟩:=hr60
 refine lv (iv x55) (qah isAgg3 rfl (hc59 0 _ rfl))<|lp (iv x55) (qab rfl)<|ln (hK54 _ _ ?_)
 refine Wc.seq fun _ hK61=>rg<|lp _ (qaa e7)<|lp _ (qaa e6)<|lp (iv x55) (qaa rfl) ?_
 replace hC:Cx (fun _=>False) O0 w w47 ([.box g4 24 [iv o,.slice (some ad57) c.length g]]++[.ro (.sl si) [.slice (some ad57) c.length g] c,.own 3 si (.slice d h.length f) h]):=hC.sE [0,1,2]
 obtain ⟨y62,h63,hb⟩:=bd hb
 refine lex.cl (⟨_,_,qcf (vs:=[iv x55,pg g4]) (ca:=#[pg g4]) call33 rfl rfl rfl,artin_Act_c1_ok n hC.lt (qbl hr60') y (hC.rd (i:=1) rfl) hC.give h63⟩) ?_
 rintro _ w68 ⟨A64,m65,c66,rfl,hK⟩
 replace hC:=hC.back hK
 clear hK
 obtain ⟨rfl,hl69,hc70⟩:=(hC.ow (i:=0) rfl).qaf
 obtain ⟨y71,h72,hb⟩:=bd hb
 refine lex.cl (⟨_,_,qas (vs:=[.slice d h.length f,.slice A64 y62.length c66]) call35 rfl rfl rfl,word_Substitute_ok n (hC.lentLt [.slice d h.length f,.slice A64 y62.length c66]) ((hC.ow (i:=3) rfl).lend (vs:=[.slice d h.length f,.slice A64 y62.length c66]) (by simp)) ((hC.ow (i:=0) rfl).lend (vs:=[.slice d h.length f,.slice A64 y62.length c66]) (by simp)) h72⟩) ?_
 rintro _ w78 ⟨A73,m74,c75,rfl,hr77,hK⟩
 replace hC:=hC.mergeF hK rfl
 clear hK
 obtain ⟨rfl,hl79,hc80⟩:=(hC.ow (i:=0) rfl).qaf
 refine lp (.tuple #[.slice A73 y71.1.length c75,iv y71.2]) (qaa rfl)<|lp (.slice A73 y71.1.length c75) (qaz rfl rfl)<|lp (iv y71.2) (qaz rfl rfl)<|lp (.slice A73 y71.1.length c75) (qab rfl)<|lp (iv y71.2) (qab rfl)<|ln (hK61 _ _ ?_)
 refine Wc.fresh fun E81 hE=>?_
 have e4:=cg hE 4 e4
 have e5:=cg hE 5 e5
 have e6:=cg hE 6 e6
 have e7:=cg hE 7 e7
 have e9:E81 9=iv x55:=cg hE 9 rfl
 have e10:E81 10=.slice A73 y71.1.length c75:=cg hE 10 rfl
 have e11:E81 11=iv y71.2:=cg hE 11 rfl
 have e27:=cg hE 27 e27
 have e28:=cg hE 28 e28
 have e29:=cg hE 29 e29
 have e30:E81 30=.bool (decide (l<(c.length:Int))):=cg hE 30 rfl
 clear hE
 refine Wc.seq fun _ hK82=>?_
 refine Wc.seq fun _ hK83=>rg<|lp _ (qaa e11)<|lp (.bool (!(decide (y71.2=0)))) (qbv (k:=.i64) (a:=y71.2) (b:=0) rfl rfl)<|ln (hK83 _ _ ?_)
 refine Wc.cond (t:=(!(decide (y71.2=0)))) (rfl) (fun hq84=>?_) (fun hq84=>?_)
 replace hb:=tt hq84 hb
 refine Wc.seq fun _ hK85=>rg<|lp _ (qaa e11)<|lp (.slice none 0 0) (qab rfl)<|lp (iv y71.2) (qab rfl)<|ln (hK85 _ _ ?_)
 obtain rfl:=os hb
 obtain rfl:=(lX hl0).symm
 replace hb:=hbK0
 replace hC:=hC.nil 3 si
 obtain rfl:=os hb
 refine Wc.ret (hKR _ _ ?_)
 refine ⟨_,res2 results11 (tV (.slice none 0 0) rfl) (tV (iv y71.2) rfl),_,rfl,none,0,0,rfl,hr77,hC.sE [0]⟩
 replace hb:=tf hq84 hb
 refine Wc.skip (hK82 _ _ ?_)
 refine Wc.seq fun _ hK87=>?_
 refine Wc.seq fun _ hK88=>rg<|lp _ (qaa e10)<|lp (iv (y71.1.length:Int)) (qan (A:=A73) (n:=y71.1.length) (m:=c75) underlying27 rfl)<|lp (.bool (decide (20000<(y71.1.length:Int)))) (qbi (k:=.i64) (a:=(y71.1.length:Int)) (b:=20000) rfl rfl)<|ln (hK88 _ _ ?_)
 refine Wc.cond (t:=(decide (20000<(y71.1.length:Int)))) (rfl) (fun hq89=>?_) (fun hq89=>?_)
 replace hb:=tt hq89 hb
 refine Wc.seq fun _ hK90=>rg<|lp (.slice none 0 0) (qab rfl)<|lp (iv 5) (qab rfl)<|ln (hK90 _ _ ?_)
 obtain rfl:=os hb
 obtain rfl:=(lX hl0).symm
 replace hb:=hbK0
 replace hC:=hC.nil 3 si
 obtain rfl:=os hb
 refine Wc.ret (hKR _ _ ?_)
 refine ⟨_,res2 results11 (tV (.slice none 0 0) rfl) (tV (iv 5) rfl),_,rfl,none,0,0,rfl,(show I64 5 from by unfold I64; omega),hC.sE [0]⟩
 replace hb:=tf hq89 hb
 refine Wc.skip (hK87 _ _ ?_)
 refine rg<|lp _ (qaa e10)<|lp (.slice A73 y71.1.length c75) (qab rfl)<|ln (hK53 _ _ ?_)
 refine rg ?_
 obtain ⟨z92,h93,hb⟩:=bd hb
 refine lp (iv z92) (qak (a:=l) (b:=1) e29 rfl h93)<|lp (iv z92) (qaa rfl)<|ln ?_
 obtain rfl:=os hb
 exact hK45 m46' _ _ (Nat.lt_succ_self _) ⟨y71.1,z92,A73,y71.1.length,c75,e4,e5,e6,rfl,e27,e28,rfl,(qai h93),hC.sE [2,3,0],lN hl0⟩
 replace hb:=tf hq52 hb
 refine Wc.exit rfl ?_
 obtain rfl:=os hb
 obtain rfl:=(lX hl0).symm
 exact hK44 _ _ ⟨h,l,d,h.length,f,e4,e5,e7,z,hC.sE [2],hbK0⟩
 clear hb hC hl0
 rintro E95 w94 ⟨h,l,d,p,f,e4,e5,e7,z,hC,hb⟩
 obtain ⟨rfl,H,J⟩:=(hC.ow (i:=0) rfl).qaf
 refine hK40 _ _<|Wc.seq fun _ hK96=>rg<|lp _ (qaa e7)<|lp (.slice d h.length f) (qab rfl)<|lp (iv 0) (qab rfl)<|ln (hK96 _ _ ?_)
 obtain rfl:=os hb
 refine Wc.ret (hKR _ _ ?_)
 refine ⟨_,res2 results11 (tV (.slice d h.length f) rfl) (tV (iv 0) rfl),_,rfl,d,h.length,f,rfl,(show I64 0 from by unfold I64; omega),hC.sE [0]⟩
