import Derived.Test.YticemffhlapnnaaS
import Derived.Test.YticemffhlapnnaaG3
import Derived.Test.YticemffhlapnnaaG4
import Derived.Test.YticemffhlapnnaaG5
set_option linter.all false
namespace Go.Proofs.Yticemffhlapnnaa
open Ev Try
set_option maxRecDepth 100000
set_option maxHeartbeats 4000000
theorem law44_awake_ok (n:Nat) {w:World} {O0:List Nat} (hO: ∀k∈O0,k<w.heap.size) {r:Bool} (hb:F.law44_awake n=some r):
    Calls prog 11 #[] w fun e w'=> ∃v,e=.returned v∧v=.bool r∧Cx (fun _=>False) O0 w w' []:=by
 unfold F.law44_awake at hb
 have hC:=Cx.start hO
 clear hO
 refine qaq func11 rfl (by rw [ntmps11]; exact nb rfl) fun KR hKR=>?_
 refine Wc.seq fun _ hK1=>rg<|lp (.bool false) (qab rfl)<|ln (hK1 _ _ ?_)
 refine Wc.seq fun _ hK2=>rg<|lex.op (hC.lit (s:=si) (vs:=[iv 0,iv 1,iv 2,iv 3,iv 4]) (xs:=[0,1,2,3,4]) underlying22 type3 rfl rfl (nb rfl) rfl rfl (by simp [Value.cells,Sh.n]) rfl (show Elems _ _ si ([iv 0]++([iv 1]++([iv 2]++([iv 3]++([iv 4]++([])))))) ([0,1,2,3,4]:List Int) from Elems.cons (⟨rfl,I64.wr (show I64 0 from by unfold I64; omega)⟩) (Elems.cons (⟨rfl,I64.wr (show I64 1 from by unfold I64; omega)⟩) (Elems.cons (⟨rfl,I64.wr (show I64 2 from by unfold I64; omega)⟩) (Elems.cons (⟨rfl,I64.wr (show I64 3 from by unfold I64; omega)⟩) (Elems.cons (⟨rfl,I64.wr (show I64 4 from by unfold I64; omega)⟩) (Elems.nil _ _ _))))))) ?_
 rintro _ w7 ⟨A3,c4,rfl,hl5,hc6,hC,-,-⟩
 refine lex.op (hC.lit (s:=si) (vs:=[iv 2,iv 3,iv 4,iv 0,iv 1]) (xs:=[2,3,4,0,1]) underlying22 type3 rfl rfl (nb rfl) rfl rfl (by simp [Value.cells,Sh.n]) rfl (show Elems _ _ si ([iv 2]++([iv 3]++([iv 4]++([iv 0]++([iv 1]++([])))))) ([2,3,4,0,1]:List Int) from Elems.cons (⟨rfl,I64.wr (show I64 2 from by unfold I64; omega)⟩) (Elems.cons (⟨rfl,I64.wr (show I64 3 from by unfold I64; omega)⟩) (Elems.cons (⟨rfl,I64.wr (show I64 4 from by unfold I64; omega)⟩) (Elems.cons (⟨rfl,I64.wr (show I64 0 from by unfold I64; omega)⟩) (Elems.cons (⟨rfl,I64.wr (show I64 1 from by unfold I64; omega)⟩) (Elems.nil _ _ _))))))) ?_
 rintro _ w13 ⟨A9,c10,rfl,hl11,hc12,hC,-,-⟩
 refine lp (.agg #[.slice A3 ((([0,1,2,3,4]:List Int)).length) c4,.slice A9 ((([2,3,4,0,1]:List Int)).length) c10]) (qbr (places:=[(0,1),(1,1)]) (pv:=[(0,.slice A3 ((([0,1,2,3,4]:List Int)).length) c4),(1,.slice A9 ((([2,3,4,0,1]:List Int)).length) c10)]) type24 underlying24 rfl (qar type22 (qar type22 qco rfl rfl) rfl rfl) rfl (by simp [Instr.fill,Value.cells])) ?_
 obtain ⟨y15,h16,hb⟩:=bd hb
 refine lex.cl (⟨_,_,qas (vs:=[.agg #[.slice A3 ((([0,1,2,3,4]:List Int)).length) c4,.slice A9 ((([2,3,4,0,1]:List Int)).length) c10]]) call13 rfl rfl rfl,gridlink_Diagram_ok n (hC.lentLt [.slice A9 ((([2,3,4,0,1]:List Int)).length) c10,.slice A3 ((([0,1,2,3,4]:List Int)).length) c4]) ((hC.ow (i:=1) rfl).lend (vs:=[.slice A9 ((([2,3,4,0,1]:List Int)).length) c10,.slice A3 ((([0,1,2,3,4]:List Int)).length) c4]) (by simp)) ((hC.ow (i:=0) rfl).lend (vs:=[.slice A9 ((([2,3,4,0,1]:List Int)).length) c10,.slice A3 ((([0,1,2,3,4]:List Int)).length) c4]) (by simp)) h16⟩) ?_
 rintro _ w27 ⟨A17,m18,c19,A21,m22,c23,rfl,hr25,hr26,hK⟩
 replace hC:=hC.mergeF hK rfl
 clear hK
 obtain ⟨rfl,hl28,hc29⟩:=(hC.ow (i:=0) rfl).qad
 obtain ⟨rfl,hl30,hc31⟩:=(hC.ow (i:=1) rfl).qad
 refine lp (.tuple #[.agg #[.slice A17 y15.1.length c19,.slice A21 y15.2.1.length c23,iv y15.2.2.1],iv y15.2.2.2]) (qaa rfl)<|lp (.agg #[.slice A17 y15.1.length c19,.slice A21 y15.2.1.length c23,iv y15.2.2.1]) (qbt rfl rfl)<|lp (iv y15.2.2.2) (qbt rfl rfl)<|lex.op (hC.alloc (cs:=[.slice none 0 0,.slice none 0 0,iv 0]) zeroValue28 rfl) ?_
 rintro _ w33 ⟨g32,rfl,hC,hF,-⟩
 refine lex.sk (hC.seta (i:=0) (ds:=[.slice A17 y15.1.length c19,.slice A21 y15.2.1.length c23,iv y15.2.2.1]) rfl type28 rfl rfl rfl rfl rfl) ?_
 rintro w35 ⟨hC,hF⟩
 refine lp (iv y15.2.2.2) (qab rfl)<|ln (hK2 _ _ ?_)
 refine Wc.fresh fun E36 hE=>?_
 have e0:E36 0=.bool false:=cg hE 0 rfl
 have e1:E36 1=pg g32:=cg hE 1 rfl
 have e2:E36 2=iv y15.2.2.2:=cg hE 2 rfl
 clear hE
 refine Wc.seq fun _ hK37=>rg<|lex.op (hC.lit (s:=si) (vs:=[iv 1]) (xs:=[1]) underlying22 type3 rfl rfl (nb rfl) rfl rfl (by simp [Value.cells,Sh.n]) rfl (show Elems _ _ si ([iv 1]++([])) ([1]:List Int) from Elems.cons (⟨rfl,I64.wr (show I64 1 from by unfold I64; omega)⟩) (Elems.nil _ _ _))) ?_
 rintro _ w42 ⟨A38,c39,rfl,hl40,hc41,hC,-,-⟩
 refine lp (.agg #[iv 2,.slice A38 ((([1]:List Int)).length) c39]) (qbr (places:=[(0,1),(1,1)]) (pv:=[(0,iv 2),(1,.slice A38 ((([1]:List Int)).length) c39)]) type40 underlying40 rfl (qar type3 (qar type22 qco rfl rfl) rfl rfl) rfl (by simp [Instr.fill,Value.cells])) ?_
 obtain ⟨y44,h45,hb⟩:=bd hb
 refine lex.cl (⟨_,_,qas (vs:=[.agg #[iv 2,.slice A38 ((([1]:List Int)).length) c39]]) call18 rfl rfl rfl,gridlink_Braid_ok n (hC.lentLt [.slice A38 ((([1]:List Int)).length) c39]) (show I64 2 from by unfold I64; omega) ((hC.ow (i:=0) rfl).lend (vs:=[.slice A38 ((([1]:List Int)).length) c39]) (by simp)) h45⟩) ?_
 rintro _ w55 ⟨A46,m47,c48,A50,m51,c52,rfl,hr54,hK⟩
 replace hC:=hC.mergeF hK rfl
 clear hK
 obtain ⟨rfl,hl56,hc57⟩:=(hC.ow (i:=0) rfl).qad
 obtain ⟨rfl,hl58,hc59⟩:=(hC.ow (i:=1) rfl).qad
 refine lp (.tuple #[.agg #[.slice A46 y44.1.length c48,.slice A50 y44.2.1.length c52],iv y44.2.2]) (qaa rfl)<|lp (.agg #[.slice A46 y44.1.length c48,.slice A50 y44.2.1.length c52]) (qbt rfl rfl)<|lp (iv y44.2.2) (qbt rfl rfl)<|lex.op (hC.alloc (cs:=[.slice none 0 0,.slice none 0 0]) zeroValue24 rfl) ?_
 rintro _ w61 ⟨g60,rfl,hC,hF,-⟩
 refine lex.sk (hC.seta (i:=0) (ds:=[.slice A46 y44.1.length c48,.slice A50 y44.2.1.length c52]) rfl type24 rfl rfl rfl rfl rfl) ?_
 rintro w63 ⟨hC,hF⟩
 refine lp (iv y44.2.2) (qab rfl)<|ln (hK37 _ _ ?_)
 refine Wc.seq fun _ hK64=>rg<|lp _ (qaa e2)<|lp (.bool (decide (y15.2.2.2=0))) (qef (k:=.i64) (a:=y15.2.2.2) (b:=0) rfl rfl)<|lp (.bool (decide (y15.2.2.2=0))) (qaa rfl) ?_
 rcases bS (decide (y15.2.2.2=0)) with hq65 | hq65
 replace hb:=tt hq65 hb
 refine gp rfl rfl (decide (y15.2.2.2=0)) rfl hq65 (.pointer (some ((⟨g32,0,none⟩:Addr).add 0))) (qag (sz:=1) underlying28 rfl sizeOf22 (by decide) rfl e1)<|gv rfl rfl (decide (y15.2.2.2=0)) rfl hq65 (.slice A17 y15.1.length c19) (qam (hC.bx (i:=4) rfl) isAgg22 rfl rfl)<|gp rfl rfl (decide (y15.2.2.2=0)) rfl hq65 (iv (y15.1.length:Int)) (qao (A:=A17) (n:=y15.1.length) (m:=c19) underlying22 rfl)<|gp rfl rfl (decide (y15.2.2.2=0)) rfl hq65 (.bool (decide ((y15.1.length:Int)=3))) (qef (k:=.i64) (a:=(y15.1.length:Int)) (b:=3) rfl rfl)<|lp (.bool (decide ((y15.1.length:Int)=3))) (qbg (q:=(decide (y15.2.2.2=0))) rfl hq65 rfl)<|lp (.bool (decide ((y15.1.length:Int)=3))) (qaa rfl) ?_
 rcases bS (decide ((y15.1.length:Int)=3)) with hq66 | hq66
 replace hb:=tt hq66 hb
 refine gp rfl rfl (decide ((y15.1.length:Int)=3)) rfl hq66 (.pointer (some ((⟨g32,0,none⟩:Addr).add 2))) (qag (sz:=1) underlying28 rfl sizeOf3 (by decide) rfl e1)<|gv rfl rfl (decide ((y15.1.length:Int)=3)) rfl hq66 (iv y15.2.2.1) (qam (hC.bx (i:=4) rfl) isAgg3 rfl rfl)<|gp rfl rfl (decide ((y15.1.length:Int)=3)) rfl hq66 (.bool (decide (y15.2.2.1=0))) (qef (k:=.i64) (a:=y15.2.2.1) (b:=0) rfl rfl)<|lp (.bool (decide (y15.2.2.1=0))) (qbg (q:=(decide ((y15.1.length:Int)=3))) rfl hq66 rfl)<|lp (.bool (decide (y15.2.2.1=0))) (qaa rfl) ?_
 rcases bS (decide (y15.2.2.1=0)) with hq67 | hq67
 replace hb:=tt hq67 hb
 refine gp rfl rfl (decide (y15.2.2.1=0)) rfl hq67 (iv y44.2.2) (qaa rfl)<|gp rfl rfl (decide (y15.2.2.1=0)) rfl hq67 (.bool (decide (y44.2.2=0))) (qef (k:=.i64) (a:=y44.2.2) (b:=0) rfl rfl)<|lp (.bool (decide (y44.2.2=0))) (qbg (q:=(decide (y15.2.2.1=0))) rfl hq67 rfl)<|lp (.bool (decide (y44.2.2=0))) (qaa rfl) ?_
 rcases bS (decide (y44.2.2=0)) with hq68 | hq68
 replace hb:=tt hq68 hb
 refine gp rfl rfl (decide (y44.2.2=0)) rfl hq68 (.pointer (some ((⟨g60,0,none⟩:Addr).add 0))) (qag (sz:=1) underlying24 rfl sizeOf22 (by decide) rfl rfl)<|gv rfl rfl (decide (y44.2.2=0)) rfl hq68 (.slice A46 y44.1.length c48) (qam (hC.bx (i:=0) rfl) isAgg22 rfl rfl) ?_
 refine lex.gop (qdi rfl rfl (show _=Value.bool (decide (y44.2.2=0)) from rfl) hq68) (hC.lit (s:=si) (vs:=[iv 2,iv 0,iv 1,iv 3,iv 4]) (xs:=[2,0,1,3,4]) underlying22 type3 rfl rfl (nb rfl) rfl rfl (by simp [Value.cells,Sh.n]) rfl (show Elems _ _ si ([iv 2]++([iv 0]++([iv 1]++([iv 3]++([iv 4]++([])))))) ([2,0,1,3,4]:List Int) from Elems.cons (⟨rfl,I64.wr (show I64 2 from by unfold I64; omega)⟩) (Elems.cons (⟨rfl,I64.wr (show I64 0 from by unfold I64; omega)⟩) (Elems.cons (⟨rfl,I64.wr (show I64 1 from by unfold I64; omega)⟩) (Elems.cons (⟨rfl,I64.wr (show I64 3 from by unfold I64; omega)⟩) (Elems.cons (⟨rfl,I64.wr (show I64 4 from by unfold I64; omega)⟩) (Elems.nil _ _ _))))))) ?_
 rintro _ w73 ⟨A69,c70,rfl,hl71,hc72,hC,-,-⟩
 obtain ⟨y75,h76,hb⟩:=bd hb
 refine lex.gcl (qdi rfl rfl (show _=Value.bool (decide (y44.2.2=0)) from rfl) hq68) (⟨_,_,qas (vs:=[.slice A46 y44.1.length c48,.slice A69 ((([2,0,1,3,4]:List Int)).length) c70]) call25 rfl rfl rfl,ref01_Ints_ok n (hC.lentLt [.slice A46 y44.1.length c48,.slice A69 ((([2,0,1,3,4]:List Int)).length) c70]) ((hC.ow (i:=2) rfl).lend (vs:=[.slice A46 y44.1.length c48,.slice A69 ((([2,0,1,3,4]:List Int)).length) c70]) (by simp)) ((hC.ow (i:=0) rfl).lend (vs:=[.slice A46 y44.1.length c48,.slice A69 ((([2,0,1,3,4]:List Int)).length) c70]) (by simp)) h76⟩) ?_
 rintro _ w77 ⟨rfl,hK⟩
 replace hC:=hC.mergeF hK rfl
 clear hK
 refine lp (.bool y75) (qbg (q:=(decide (y44.2.2=0))) rfl hq68 rfl)<|lp (.bool y75) (qaa rfl) ?_
 rcases bS y75 with hq78 | hq78
 replace hb:=tt hq78 hb
 refine gp rfl rfl y75 rfl hq78 (.pointer (some ((⟨g60,0,none⟩:Addr).add 1))) (qag (sz:=1) underlying24 rfl sizeOf22 (by decide) rfl rfl)<|gv rfl rfl y75 rfl hq78 (.slice A50 y44.2.1.length c52) (qam (hC.bx (i:=1) rfl) isAgg22 rfl rfl) ?_
 refine lex.gop (qdi rfl rfl (show _=Value.bool y75 from rfl) hq78) (hC.lit (s:=si) (vs:=[iv 4,iv 3,iv 2,iv 1,iv 0]) (xs:=[4,3,2,1,0]) underlying22 type3 rfl rfl (nb rfl) rfl rfl (by simp [Value.cells,Sh.n]) rfl (show Elems _ _ si ([iv 4]++([iv 3]++([iv 2]++([iv 1]++([iv 0]++([])))))) ([4,3,2,1,0]:List Int) from Elems.cons (⟨rfl,I64.wr (show I64 4 from by unfold I64; omega)⟩) (Elems.cons (⟨rfl,I64.wr (show I64 3 from by unfold I64; omega)⟩) (Elems.cons (⟨rfl,I64.wr (show I64 2 from by unfold I64; omega)⟩) (Elems.cons (⟨rfl,I64.wr (show I64 1 from by unfold I64; omega)⟩) (Elems.cons (⟨rfl,I64.wr (show I64 0 from by unfold I64; omega)⟩) (Elems.nil _ _ _))))))) ?_
 rintro _ w83 ⟨A79,c80,rfl,hl81,hc82,hC,-,-⟩
 obtain ⟨y85,h86,hb⟩:=bd hb
 refine lex.gcl (qdi rfl rfl (show _=Value.bool y75 from rfl) hq78) (⟨_,_,qas (vs:=[.slice A50 y44.2.1.length c52,.slice A79 ((([4,3,2,1,0]:List Int)).length) c80]) call25 rfl rfl rfl,ref01_Ints_ok n (hC.lentLt [.slice A50 y44.2.1.length c52,.slice A79 ((([4,3,2,1,0]:List Int)).length) c80]) ((hC.ow (i:=4) rfl).lend (vs:=[.slice A50 y44.2.1.length c52,.slice A79 ((([4,3,2,1,0]:List Int)).length) c80]) (by simp)) ((hC.ow (i:=0) rfl).lend (vs:=[.slice A50 y44.2.1.length c52,.slice A79 ((([4,3,2,1,0]:List Int)).length) c80]) (by simp)) h86⟩) ?_
 rintro _ w87 ⟨rfl,hK⟩
 replace hC:=hC.mergeF hK rfl
 clear hK
 refine lp (.bool y85) (qbg (q:=y75) rfl hq78 rfl)<|lp (.bool y85) (qab rfl)<|ln (hK64 _ _ ?_)
 obtain rfl:=os hb
 refine Wc.ret (hKR _ _ ?_)
 refine ⟨_,res1 results11 (tV (.bool y85) rfl),_,rfl,rfl,hC.sE []⟩
 replace hb:=tf hq78 hb
 refine gs rfl rfl y75 rfl hq78<|gs rfl rfl y75 rfl hq78<|gs rfl rfl y75 rfl hq78<|gs rfl rfl y75 rfl hq78<|lp (.bool false) (qbc (q:=y75) rfl hq78 rfl)<|lp (.bool false) (qab rfl)<|ln (hK64 _ _ ?_)
 obtain rfl:=os hb
 refine Wc.ret (hKR _ _ ?_)
 refine ⟨_,res1 results11 (tV (.bool false) rfl),_,rfl,rfl,hC.sE []⟩
 replace hb:=tf hq68 hb
 refine gs rfl rfl (decide (y44.2.2=0)) rfl hq68<|gs rfl rfl (decide (y44.2.2=0)) rfl hq68<|gs rfl rfl (decide (y44.2.2=0)) rfl hq68<|gs rfl rfl (decide (y44.2.2=0)) rfl hq68<|lp (.bool false) (qbc (q:=(decide (y44.2.2=0))) rfl hq68 rfl)<|lp (.bool false) (qaa rfl)<|gs rfl rfl false rfl rfl<|gs rfl rfl false rfl rfl<|gs rfl rfl false rfl rfl<|gs rfl rfl false rfl rfl<|lp (.bool false) (qbc (q:=false) rfl rfl rfl)<|lp (.bool false) (qab rfl)<|ln (hK64 _ _ ?_)
 obtain rfl:=os hb
 refine Wc.ret (hKR _ _ ?_)
 refine ⟨_,res1 results11 (tV (.bool false) rfl),_,rfl,rfl,hC.sE []⟩
 replace hb:=tf hq67 hb
 refine gs rfl rfl (decide (y15.2.2.1=0)) rfl hq67<|gs rfl rfl (decide (y15.2.2.1=0)) rfl hq67<|lp (.bool false) (qbc (q:=(decide (y15.2.2.1=0))) rfl hq67 rfl)<|lp (.bool false) (qaa rfl)<|gs rfl rfl false rfl rfl<|gs rfl rfl false rfl rfl<|gs rfl rfl false rfl rfl<|gs rfl rfl false rfl rfl<|lp (.bool false) (qbc (q:=false) rfl rfl rfl)<|lp (.bool false) (qaa rfl)<|gs rfl rfl false rfl rfl<|gs rfl rfl false rfl rfl<|gs rfl rfl false rfl rfl<|gs rfl rfl false rfl rfl<|lp (.bool false) (qbc (q:=false) rfl rfl rfl)<|lp (.bool false) (qab rfl)<|ln (hK64 _ _ ?_)
 obtain rfl:=os hb
 refine Wc.ret (hKR _ _ ?_)
 refine ⟨_,res1 results11 (tV (.bool false) rfl),_,rfl,rfl,hC.sE []⟩
 replace hb:=tf hq66 hb
 refine gs rfl rfl (decide ((y15.1.length:Int)=3)) rfl hq66<|gs rfl rfl (decide ((y15.1.length:Int)=3)) rfl hq66<|gs rfl rfl (decide ((y15.1.length:Int)=3)) rfl hq66<|lp (.bool false) (qbc (q:=(decide ((y15.1.length:Int)=3))) rfl hq66 rfl)<|lp (.bool false) (qaa rfl)<|gs rfl rfl false rfl rfl<|gs rfl rfl false rfl rfl<|lp (.bool false) (qbc (q:=false) rfl rfl rfl)<|lp (.bool false) (qaa rfl)<|gs rfl rfl false rfl rfl<|gs rfl rfl false rfl rfl<|gs rfl rfl false rfl rfl<|gs rfl rfl false rfl rfl<|lp (.bool false) (qbc (q:=false) rfl rfl rfl)<|lp (.bool false) (qaa rfl)<|gs rfl rfl false rfl rfl<|gs rfl rfl false rfl rfl<|gs rfl rfl false rfl rfl<|gs rfl rfl false rfl rfl<|lp (.bool false) (qbc (q:=false) rfl rfl rfl)<|lp (.bool false) (qab rfl)<|ln (hK64 _ _ ?_)
 obtain rfl:=os hb
 refine Wc.ret (hKR _ _ ?_)
 refine ⟨_,res1 results11 (tV (.bool false) rfl),_,rfl,rfl,hC.sE []⟩
 replace hb:=tf hq65 hb
 refine gs rfl rfl (decide (y15.2.2.2=0)) rfl hq65<|gs rfl rfl (decide (y15.2.2.2=0)) rfl hq65<|gs rfl rfl (decide (y15.2.2.2=0)) rfl hq65<|gs rfl rfl (decide (y15.2.2.2=0)) rfl hq65<|lp (.bool false) (qbc (q:=(decide (y15.2.2.2=0))) rfl hq65 rfl)<|lp (.bool false) (qaa rfl)<|gs rfl rfl false rfl rfl<|gs rfl rfl false rfl rfl<|gs rfl rfl false rfl rfl<|lp (.bool false) (qbc (q:=false) rfl rfl rfl)<|lp (.bool false) (qaa rfl)<|gs rfl rfl false rfl rfl<|gs rfl rfl false rfl rfl<|lp (.bool false) (qbc (q:=false) rfl rfl rfl)<|lp (.bool false) (qaa rfl)<|gs rfl rfl false rfl rfl<|gs rfl rfl false rfl rfl<|gs rfl rfl false rfl rfl<|gs rfl rfl false rfl rfl<|lp (.bool false) (qbc (q:=false) rfl rfl rfl)<|lp (.bool false) (qaa rfl)<|gs rfl rfl false rfl rfl<|gs rfl rfl false rfl rfl<|gs rfl rfl false rfl rfl<|gs rfl rfl false rfl rfl<|lp (.bool false) (qbc (q:=false) rfl rfl rfl)<|lp (.bool false) (qab rfl)<|ln (hK64 _ _ ?_)
 obtain rfl:=os hb
 refine Wc.ret (hKR _ _ ?_)
 refine ⟨_,res1 results11 (tV (.bool false) rfl),_,rfl,rfl,hC.sE []⟩
