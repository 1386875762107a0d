import Derived.Test.YtlkmcbgkohpmiaaS
import Derived.Test.YtlkmcbgkohpmiaaG2
import Derived.Test.YtlkmcbgkohpmiaaG3
import Derived.Test.YtlkmcbgkohpmiaaG4
set_option linter.all false
namespace Go.Proofs.Ytlkmcbgkohpmiaa
open Ev Try
set_option maxRecDepth 100000
set_option maxHeartbeats 4000000
theorem law35_awake_ok (n:Nat) {w:World} {O0:List Nat} (hO: ∀k∈O0,k<w.heap.size) {r:Bool} (hb:F.law35_awake n=some r):
    Calls prog 9 #[] w fun e w'=> ∃v,e=.returned v∧v=.bool r∧Cx (fun _=>False) O0 w w' []:=by
 unfold F.law35_awake at hb
 have hC:=Cx.start hO
 clear hO
 refine qao func9 rfl (by rw [ntmps9]; exact nb rfl) fun KR hKR=>?_
 refine Wc.seq fun _ hK1=>rg<|lp (.bool false) (qab rfl)<|ln (hK1 _ _ ?_)
 refine Wc.seq fun _ hK2=>rg<|lex.op (hC.lit (s:=si) (vs:=[iv 1]) (xs:=[1]) underlying22 type3 rfl rfl (nb rfl) rfl rfl (by simp [Value.cells,Sh.n]) rfl (show Elems _ _ si ([iv 1]++([])) ([1]:List Int) from Elems.cons (⟨rfl,I64.wr (show I64 1 from by unfold I64; omega)⟩) (Elems.nil _ _ _))) ?_
 rintro _ w7 ⟨A3,c4,rfl,hl5,hc6,hC,-,-⟩
 refine lp (.agg #[iv 2,.slice A3 ((([1]:List Int)).length) c4]) (qdj (places:=[(0,1),(1,1)]) (pv:=[(0,iv 2),(1,.slice A3 ((([1]:List Int)).length) c4)]) type24 underlying24 rfl (qba type3 (qba type22 mp_nil rfl rfl) rfl rfl) rfl (by simp [Instr.fill,Value.cells])) ?_
 replace hC:=hC.freeze (i:=0) rfl (hC.qdh (i:=0) rfl)
 obtain ⟨y9,h10,hb⟩:=bd hb
 refine lex.cl (⟨_,_,qas (vs:=[.agg #[iv 2,.slice A3 ((([1]:List Int)).length) c4]]) call17 rfl rfl rfl,artin_Images_ok n hC.lt (show I64 2 from by unfold I64; omega) (hC.rd (i:=0) rfl) h10⟩) ?_
 rintro _ w16 ⟨A11,m12,c13,rfl,hr15,hK⟩
 replace hC:=hC.merge hK
 clear hK
 obtain ⟨rfl,hl17,hc18⟩:=(hC.ow (i:=0) rfl).qaf
 refine lp (.tuple #[.slice A11 y9.1.length c13,iv y9.2]) (qaa rfl)<|lp (.slice A11 y9.1.length c13) (qaz rfl rfl)<|lp (iv y9.2) (qaz rfl rfl)<|lp (.slice A11 y9.1.length c13) (qab rfl)<|lp (iv y9.2) (qab rfl)<|ln (hK2 _ _ ?_)
 refine Wc.seq fun _ hK19=>rg<|lex.op (hC.lit (s:=si) (vs:=[iv 1,iv 1,iv 1]) (xs:=[1,1,1]) underlying22 type3 rfl rfl (nb rfl) rfl rfl (by simp [Value.cells,Sh.n]) rfl (show Elems _ _ si ([iv 1]++([iv 1]++([iv 1]++([])))) ([1,1,1]:List Int) from Elems.cons (⟨rfl,I64.wr (show I64 1 from by unfold I64; omega)⟩) (Elems.cons (⟨rfl,I64.wr (show I64 1 from by unfold I64; omega)⟩) (Elems.cons (⟨rfl,I64.wr (show I64 1 from by unfold I64; omega)⟩) (Elems.nil _ _ _))))) ?_
 rintro _ w24 ⟨A20,c21,rfl,hl22,hc23,hC,-,-⟩
 refine lp (.agg #[iv 2,.slice A20 ((([1,1,1]:List Int)).length) c21]) (qdj (places:=[(0,1),(1,1)]) (pv:=[(0,iv 2),(1,.slice A20 ((([1,1,1]:List Int)).length) c21)]) type24 underlying24 rfl (qba type3 (qba type22 mp_nil rfl rfl) rfl rfl) rfl (by simp [Instr.fill,Value.cells])) ?_
 replace hC:=hC.freeze (i:=0) rfl (hC.qdh (i:=0) rfl)
 obtain ⟨y26,h27,hb⟩:=bd hb
 refine lex.cl (⟨_,_,qas (vs:=[.agg #[iv 2,.slice A20 ((([1,1,1]:List Int)).length) c21]]) call21 rfl rfl rfl,artin_Group_ok n hC.lt (show I64 2 from by unfold I64; omega) (hC.rd (i:=0) rfl) h27⟩) ?_
 rintro _ w38 ⟨A29,m30,c31,A33,m34,c35,rfl,hr28,hr37,hK⟩
 replace hC:=hC.merge hK
 clear hK
 obtain ⟨rfl,hl39,hc40⟩:=(hC.ow (i:=0) rfl).qaf
 obtain ⟨rfl,hl41,hc42⟩:=(hC.ow (i:=1) rfl).qaf
 refine lp (.tuple #[.agg #[iv y26.1,.slice A29 y26.2.1.length c31,.slice A33 y26.2.2.1.length c35],iv y26.2.2.2]) (qaa rfl)<|lp (.agg #[iv y26.1,.slice A29 y26.2.1.length c31,.slice A33 y26.2.2.1.length c35]) (qaz rfl rfl)<|lp (iv y26.2.2.2) (qaz rfl rfl)<|lex.op (hC.alloc (cs:=[iv 0,.slice none 0 0,.slice none 0 0]) zeroValue48 rfl) ?_
 rintro _ w44 ⟨g43,rfl,hC,hF,-⟩
 refine lex.sk (hC.seta (i:=0) (ds:=[iv y26.1,.slice A29 y26.2.1.length c31,.slice A33 y26.2.2.1.length c35]) rfl type48 rfl rfl rfl rfl rfl) ?_
 rintro w46 ⟨hC,hF⟩
 refine lp (iv y26.2.2.2) (qab rfl)<|ln (hK19 _ _ ?_)
 refine Wc.fresh fun E47 hE=>?_
 have e0:E47 0=.bool false:=cg hE 0 rfl
 have e1:E47 1=.slice A11 y9.1.length c13:=cg hE 1 rfl
 have e2:E47 2=iv y9.2:=cg hE 2 rfl
 have e3:E47 3=pg g43:=cg hE 3 rfl
 have e4:E47 4=iv y26.2.2.2:=cg hE 4 rfl
 clear hE
 refine Wc.seq fun _ hK48=>rg<|lp _ (qaa e2)<|lp (.bool (decide (y9.2=0))) (qcu (k:=.i64) (a:=y9.2) (b:=0) rfl rfl)<|lp (.bool (decide (y9.2=0))) (qaa rfl) ?_
 rcases bS (decide (y9.2=0)) with hq49 | hq49
 replace hb:=tt hq49 hb
 refine gp rfl rfl (decide (y9.2=0)) rfl hq49 (iv y26.2.2.2) (qaa e4)<|gp rfl rfl (decide (y9.2=0)) rfl hq49 (.bool (decide (y26.2.2.2=0))) (qcu (k:=.i64) (a:=y26.2.2.2) (b:=0) rfl rfl)<|lp (.bool (decide (y26.2.2.2=0))) (qap (q:=(decide (y9.2=0))) rfl hq49 rfl)<|lp (.bool (decide (y26.2.2.2=0))) (qaa rfl) ?_
 rcases bS (decide (y26.2.2.2=0)) with hq50 | hq50
 replace hb:=tt hq50 hb
 refine gp rfl rfl (decide (y26.2.2.2=0)) rfl hq50 (.slice A11 y9.1.length c13) (qaa e1)<|gp rfl rfl (decide (y26.2.2.2=0)) rfl hq50 (iv (y9.1.length:Int)) (qan (A:=A11) (n:=y9.1.length) (m:=c13) underlying37 rfl)<|gp rfl rfl (decide (y26.2.2.2=0)) rfl hq50 (.bool (decide ((y9.1.length:Int)=2))) (qcu (k:=.i64) (a:=(y9.1.length:Int)) (b:=2) rfl rfl)<|lp (.bool (decide ((y9.1.length:Int)=2))) (qap (q:=(decide (y26.2.2.2=0))) rfl hq50 rfl)<|lp (.bool (decide ((y9.1.length:Int)=2))) (qaa rfl) ?_
 rcases bS (decide ((y9.1.length:Int)=2)) with hq51 | hq51
 replace hb:=tt hq51 hb
 refine gp rfl rfl (decide ((y9.1.length:Int)=2)) rfl hq51 (.slice A11 y9.1.length c13) (qaa e1) ?_
 obtain ⟨x52,h53,hb⟩:=bd hb
 obtain ⟨ad54,cs55,hA,hc56,hr57⟩:=hC.elo (i:=4) rfl (qac h53).2
 subst hA
 refine gp rfl rfl (decide ((y9.1.length:Int)=2)) rfl hq51 (.pointer (some (ad54.add ((0:Int).toNat*1)))) (qag (a:=0) underlying37 sizeOf27 rfl rfl (qac h53).1) ?_
 have hR:=hr57
 obtain ⟨A58,c59,rfl,hl60,hc61,_⟩:=hr57
 replace hC:=hC.ro hR
 clear hR
 refine gv rfl rfl (decide ((y9.1.length:Int)=2)) rfl hq51 (.slice A58 x52.length c59) (qah isAgg27 rfl (hc56 0 _ rfl)) ?_
 refine lex.gop (qdy rfl rfl (show _=Value.bool (decide ((y9.1.length:Int)=2)) from rfl) hq51) (hC.lit (s:=si) (vs:=[iv 1,iv 2,iv (-1)]) (xs:=[1,2,(-1)]) underlying27 type3 rfl rfl (nb rfl) rfl rfl (by simp [Value.cells,Sh.n]) rfl (show Elems _ _ si ([iv 1]++([iv 2]++([iv (-1)]++([])))) ([1,2,(-1)]:List Int) from Elems.cons (⟨rfl,I64.wr (show I64 1 from by unfold I64; omega)⟩) (Elems.cons (⟨rfl,I64.wr (show I64 2 from by unfold I64; omega)⟩) (Elems.cons (⟨rfl,I64.wr (show I64 (-1) from by unfold I64; omega)⟩) (Elems.nil _ _ _))))) ?_
 rintro _ w67 ⟨A63,c64,rfl,hl65,hc66,hC,-,-⟩
 obtain ⟨y69,h70,hb⟩:=bd hb
 refine lex.gcl (qdy rfl rfl (show _=Value.bool (decide ((y9.1.length:Int)=2)) from rfl) hq51) (⟨_,_,qas (vs:=[.slice A58 x52.length c59,.slice A63 ((([1,2,(-1)]:List Int)).length) c64]) call24 rfl rfl rfl,qfi n (hC.lentLt [.slice A63 ((([1,2,(-1)]:List Int)).length) c64]) ((hC.rd (i:=1) rfl).lent [.slice A63 ((([1,2,(-1)]:List Int)).length) c64]) ((hC.ow (i:=0) rfl).lend (vs:=[.slice A63 ((([1,2,(-1)]:List Int)).length) c64]) (by simp)) h70⟩) ?_
 rintro _ w71 ⟨rfl,hK⟩
 replace hC:=hC.mergeF hK rfl
 clear hK
 refine lp (.bool y69) (qap (q:=(decide ((y9.1.length:Int)=2))) rfl hq51 rfl)<|lp (.bool y69) (qaa rfl) ?_
 rcases bS y69 with hq72 | hq72
 replace hb:=tt hq72 hb
 refine gp rfl rfl y69 rfl hq72 (.slice (some ad54) y9.1.length c13) (qaa e1) ?_
 obtain ⟨x73,h74,hb⟩:=bd hb
 obtain ⟨ad75,cs76,hA,hc77,hr78⟩:=hC.elo (i:=6) rfl (qac h74).2
 obtain rfl:=Option.some.inj hA
 refine gp rfl rfl y69 rfl hq72 (.pointer (some (ad54.add ((1:Int).toNat*1)))) (qag (a:=1) underlying37 sizeOf27 rfl rfl (qac h74).1) ?_
 have hR:=hr78
 obtain ⟨A79,c80,rfl,hl81,hc82,_⟩:=hr78
 replace hC:=hC.ro hR
 clear hR
 refine gv rfl rfl y69 rfl hq72 (.slice A79 x73.length c80) (qah isAgg27 rfl (hc77 0 _ rfl)) ?_
 refine lex.gop (qdy rfl rfl (show _=Value.bool y69 from rfl) hq72) (hC.lit (s:=si) (vs:=[iv 1]) (xs:=[1]) underlying27 type3 rfl rfl (nb rfl) rfl rfl (by simp [Value.cells,Sh.n]) rfl (show Elems _ _ si ([iv 1]++([])) ([1]:List Int) from Elems.cons (⟨rfl,I64.wr (show I64 1 from by unfold I64; omega)⟩) (Elems.nil _ _ _))) ?_
 rintro _ w88 ⟨A84,c85,rfl,hl86,hc87,hC,-,-⟩
 obtain ⟨y90,h91,hb⟩:=bd hb
 refine lex.gcl (qdy rfl rfl (show _=Value.bool y69 from rfl) hq72) (⟨_,_,qas (vs:=[.slice A79 x73.length c80,.slice A84 ((([1]:List Int)).length) c85]) call24 rfl rfl rfl,qfi n (hC.lentLt [.slice A84 ((([1]:List Int)).length) c85]) ((hC.rd (i:=1) rfl).lent [.slice A84 ((([1]:List Int)).length) c85]) ((hC.ow (i:=0) rfl).lend (vs:=[.slice A84 ((([1]:List Int)).length) c85]) (by simp)) h91⟩) ?_
 rintro _ w92 ⟨rfl,hK⟩
 replace hC:=hC.mergeF hK rfl
 clear hK
 refine lp (.bool y90) (qap (q:=y69) rfl hq72 rfl)<|lp (.bool y90) (qaa rfl) ?_
 rcases bS y90 with hq93 | hq93
 replace hb:=tt hq93 hb
 refine gp rfl rfl y90 rfl hq93 (.pointer (some ((⟨g43,0,none⟩:Addr).add 2))) (qal (sz:=1) underlying48 rfl sizeOf37 (by decide) rfl e3)<|gv rfl rfl y90 rfl hq93 (.slice A33 y26.2.2.1.length c35) (qar (hC.bx (i:=4) rfl) isAgg37 rfl rfl)<|gp rfl rfl y90 rfl hq93 (iv (y26.2.2.1.length:Int)) (qan (A:=A33) (n:=y26.2.2.1.length) (m:=c35) underlying37 rfl)<|gp rfl rfl y90 rfl hq93 (.bool (decide ((y26.2.2.1.length:Int)=2))) (qcu (k:=.i64) (a:=(y26.2.2.1.length:Int)) (b:=2) rfl rfl)<|lp (.bool (decide ((y26.2.2.1.length:Int)=2))) (qap (q:=y90) rfl hq93 rfl)<|lp (.bool (decide ((y26.2.2.1.length:Int)=2))) (qaa rfl) ?_
 rcases bS (decide ((y26.2.2.1.length:Int)=2)) with hq94 | hq94
 replace hb:=tt hq94 hb
 refine gp rfl rfl (decide ((y26.2.2.1.length:Int)=2)) rfl hq94 (.pointer (some ((⟨g43,0,none⟩:Addr).add 2))) (qal (sz:=1) underlying48 rfl sizeOf37 (by decide) rfl e3)<|gv rfl rfl (decide ((y26.2.2.1.length:Int)=2)) rfl hq94 (.slice A33 y26.2.2.1.length c35) (qar (hC.bx (i:=4) rfl) isAgg37 rfl rfl) ?_
 obtain ⟨x95,h96,hb⟩:=bd hb
 obtain ⟨ad97,cs98,hA,hc99,hr100⟩:=hC.elo (i:=6) rfl (qac h96).2
 subst hA
 refine gp rfl rfl (decide ((y26.2.2.1.length:Int)=2)) rfl hq94 (.pointer (some (ad97.add ((1:Int).toNat*1)))) (qag (a:=1) underlying37 sizeOf27 rfl rfl (qac h96).1) ?_
 have hR:=hr100
 obtain ⟨A101,c102,rfl,hl103,hc104,_⟩:=hr100
 replace hC:=hC.ro hR
 clear hR
 refine gv rfl rfl (decide ((y26.2.2.1.length:Int)=2)) rfl hq94 (.slice A101 x95.length c102) (qah isAgg27 rfl (hc99 0 _ rfl)) ?_
 refine lex.gop (qdy rfl rfl (show _=Value.bool (decide ((y26.2.2.1.length:Int)=2)) from rfl) hq94) (hC.lit (s:=si) (vs:=[iv 1,iv 2,iv 1,iv (-2),iv (-1),iv (-2)]) (xs:=[1,2,1,(-2),(-1),(-2)]) underlying27 type3 rfl rfl (nb rfl) rfl rfl (by simp [Value.cells,Sh.n]) rfl (show Elems _ _ si ([iv 1]++([iv 2]++([iv 1]++([iv (-2)]++([iv (-1)]++([iv (-2)]++([]))))))) ([1,2,1,(-2),(-1),(-2)]:List Int) from Elems.cons (⟨rfl,I64.wr (show I64 1 from by unfold I64; omega)⟩) (Elems.cons (⟨rfl,I64.wr (show I64 2 from by unfold I64; omega)⟩) (Elems.cons (⟨rfl,I64.wr (show I64 1 from by unfold I64; omega)⟩) (Elems.cons (⟨rfl,I64.wr (show I64 (-2) from by unfold I64; omega)⟩) (Elems.cons (⟨rfl,I64.wr (show I64 (-1) from by unfold I64; omega)⟩) (Elems.cons (⟨rfl,I64.wr (show I64 (-2) from by unfold I64; omega)⟩) (Elems.nil _ _ _)))))))) ?_
 rintro _ w110 ⟨A106,c107,rfl,hl108,hc109,hC,-,-⟩
 obtain ⟨y112,h113,hb⟩:=bd hb
 refine lex.gcl (qdy rfl rfl (show _=Value.bool (decide ((y26.2.2.1.length:Int)=2)) from rfl) hq94) (⟨_,_,qas (vs:=[.slice A101 x95.length c102,.slice A106 ((([1,2,1,(-2),(-1),(-2)]:List Int)).length) c107]) call24 rfl rfl rfl,qfi n (hC.lentLt [.slice A106 ((([1,2,1,(-2),(-1),(-2)]:List Int)).length) c107]) ((hC.rd (i:=1) rfl).lent [.slice A106 ((([1,2,1,(-2),(-1),(-2)]:List Int)).length) c107]) ((hC.ow (i:=0) rfl).lend (vs:=[.slice A106 ((([1,2,1,(-2),(-1),(-2)]:List Int)).length) c107]) (by simp)) h113⟩) ?_
 rintro _ w114 ⟨rfl,hK⟩
 replace hC:=hC.mergeF hK rfl
 clear hK
 refine lp (.bool y112) (qap (q:=(decide ((y26.2.2.1.length:Int)=2))) rfl hq94 rfl)<|lp (.bool y112) (qab rfl)<|ln (hK48 _ _ ?_)
 obtain rfl:=os hb
 refine Wc.ret (hKR _ _ ?_)
 refine ⟨_,res1 results9 (tV (.bool y112) rfl),_,rfl,rfl,hC.sE []⟩
 replace hb:=tf hq94 hb
 refine gs rfl rfl (decide ((y26.2.2.1.length:Int)=2)) rfl hq94<|gs rfl rfl (decide ((y26.2.2.1.length:Int)=2)) rfl hq94<|gs rfl rfl (decide ((y26.2.2.1.length:Int)=2)) rfl hq94<|gs rfl rfl (decide ((y26.2.2.1.length:Int)=2)) rfl hq94<|gs rfl rfl (decide ((y26.2.2.1.length:Int)=2)) rfl hq94<|gs rfl rfl (decide ((y26.2.2.1.length:Int)=2)) rfl hq94<|lp (.bool false) (qat (q:=(decide ((y26.2.2.1.length:Int)=2))) rfl hq94 rfl)<|lp (.bool false) (qab rfl)<|ln (hK48 _ _ ?_)
 obtain rfl:=os hb
 refine Wc.ret (hKR _ _ ?_)
 refine ⟨_,res1 results9 (tV (.bool false) rfl),_,rfl,rfl,hC.sE []⟩
 replace hb:=tf hq93 hb
 refine gs rfl rfl y90 rfl hq93<|gs rfl rfl y90 rfl hq93<|gs rfl rfl y90 rfl hq93<|gs rfl rfl y90 rfl hq93<|lp (.bool false) (qat (q:=y90) rfl hq93 rfl)<|lp (.bool false) (qaa rfl)<|gs rfl rfl false rfl rfl<|gs rfl rfl false rfl rfl<|gs rfl rfl false rfl rfl<|gs rfl rfl false rfl rfl<|gs rfl rfl false rfl rfl<|gs rfl rfl false rfl rfl<|lp (.bool false) (qat (q:=false) rfl rfl rfl)<|lp (.bool false) (qab rfl)<|ln (hK48 _ _ ?_)
 obtain rfl:=os hb
 refine Wc.ret (hKR _ _ ?_)
 refine ⟨_,res1 results9 (tV (.bool false) rfl),_,rfl,rfl,hC.sE []⟩
 replace hb:=tf hq72 hb
 refine gs rfl rfl y69 rfl hq72<|gs rfl rfl y69 rfl hq72<|gs rfl rfl y69 rfl hq72<|gs rfl rfl y69 rfl hq72<|gs rfl rfl y69 rfl hq72<|lp (.bool false) (qat (q:=y69) rfl hq72 rfl)<|lp (.bool false) (qaa rfl)<|gs rfl rfl false rfl rfl<|gs rfl rfl false rfl rfl<|gs rfl rfl false rfl rfl<|gs rfl rfl false rfl rfl<|lp (.bool false) (qat (q:=false) rfl rfl rfl)<|lp (.bool false) (qaa rfl)<|gs rfl rfl false rfl rfl<|gs rfl rfl false rfl rfl<|gs rfl rfl false rfl rfl<|gs rfl rfl false rfl rfl<|gs rfl rfl false rfl rfl<|gs rfl rfl false rfl rfl<|lp (.bool false) (qat (q:=false) rfl rfl rfl)<|lp (.bool false) (qab rfl)<|ln (hK48 _ _ ?_)
 obtain rfl:=os hb
 refine Wc.ret (hKR _ _ ?_)
 refine ⟨_,res1 results9 (tV (.bool false) rfl),_,rfl,rfl,hC.sE []⟩
 replace hb:=tf hq51 hb
 refine gs rfl rfl (decide ((y9.1.length:Int)=2)) rfl hq51<|gs rfl rfl (decide ((y9.1.length:Int)=2)) rfl hq51<|gs rfl rfl (decide ((y9.1.length:Int)=2)) rfl hq51<|gs rfl rfl (decide ((y9.1.length:Int)=2)) rfl hq51<|gs rfl rfl (decide ((y9.1.length:Int)=2)) rfl hq51<|lp (.bool false) (qat (q:=(decide ((y9.1.length:Int)=2))) rfl hq51 rfl)<|lp (.bool false) (qaa rfl)<|gs rfl rfl false rfl rfl<|gs rfl rfl false rfl rfl<|gs rfl rfl false rfl rfl<|gs rfl rfl false rfl rfl<|gs rfl rfl false rfl rfl<|lp (.bool false) (qat (q:=false) rfl rfl rfl)<|lp (.bool false) (qaa rfl)<|gs rfl rfl false rfl rfl<|gs rfl rfl false rfl rfl<|gs rfl rfl false rfl rfl<|gs rfl rfl false rfl rfl<|lp (.bool false) (qat (q:=false) rfl rfl rfl)<|lp (.bool false) (qaa rfl)<|gs rfl rfl false rfl rfl<|gs rfl rfl false rfl rfl<|gs rfl rfl false rfl rfl<|gs rfl rfl false rfl rfl<|gs rfl rfl false rfl rfl<|gs rfl rfl false rfl rfl<|lp (.bool false) (qat (q:=false) rfl rfl rfl)<|lp (.bool false) (qab rfl)<|ln (hK48 _ _ ?_)
 obtain rfl:=os hb
 refine Wc.ret (hKR _ _ ?_)
 refine ⟨_,res1 results9 (tV (.bool false) rfl),_,rfl,rfl,hC.sE []⟩
 replace hb:=tf hq50 hb
 refine gs rfl rfl (decide (y26.2.2.2=0)) rfl hq50<|gs rfl rfl (decide (y26.2.2.2=0)) rfl hq50<|gs rfl rfl (decide (y26.2.2.2=0)) rfl hq50<|lp (.bool false) (qat (q:=(decide (y26.2.2.2=0))) rfl hq50 rfl)<|lp (.bool false) (qaa rfl)<|gs rfl rfl false rfl rfl<|gs rfl rfl false rfl rfl<|gs rfl rfl false rfl rfl<|gs rfl rfl false rfl rfl<|gs rfl rfl false rfl rfl<|lp (.bool false) (qat (q:=false) rfl rfl rfl)<|lp (.bool false) (qaa rfl)<|gs rfl rfl false rfl rfl<|gs rfl rfl false rfl rfl<|gs rfl rfl false rfl rfl<|gs rfl rfl false rfl rfl<|gs rfl rfl false rfl rfl<|lp (.bool false) (qat (q:=false) rfl rfl rfl)<|lp (.bool false) (qaa rfl)<|gs rfl rfl false rfl rfl<|gs rfl rfl false rfl rfl<|gs rfl rfl false rfl rfl<|gs rfl rfl false rfl rfl<|lp (.bool false) (qat (q:=false) rfl rfl rfl)<|lp (.bool false) (qaa rfl)<|gs rfl rfl false rfl rfl<|gs rfl rfl false rfl rfl<|gs rfl rfl false rfl rfl<|gs rfl rfl false rfl rfl<|gs rfl rfl false rfl rfl<|gs rfl rfl false rfl rfl<|lp (.bool false) (qat (q:=false) rfl rfl rfl)<|lp (.bool false) (qab rfl)<|ln (hK48 _ _ ?_)
 obtain rfl:=os hb
 refine Wc.ret (hKR _ _ ?_)
 refine ⟨_,res1 results9 (tV (.bool false) rfl),_,rfl,rfl,hC.sE []⟩
 replace hb:=tf hq49 hb
 refine gs rfl rfl (decide (y9.2=0)) rfl hq49<|gs rfl rfl (decide (y9.2=0)) rfl hq49<|lp (.bool false) (qat (q:=(decide (y9.2=0))) rfl hq49 rfl)<|lp (.bool false) (qaa rfl)<|gs rfl rfl false rfl rfl<|gs rfl rfl false rfl rfl<|gs rfl rfl false rfl rfl<|lp (.bool false) (qat (q:=false) rfl rfl rfl)<|lp (.bool false) (qaa rfl)<|gs rfl rfl false rfl rfl<|gs rfl rfl false rfl rfl<|gs rfl rfl false rfl rfl<|gs rfl rfl false rfl rfl<|gs rfl rfl false rfl rfl<|lp (.bool false) (qat (q:=false) rfl rfl rfl)<|lp (.bool false) (qaa rfl)<|gs rfl rfl false rfl rfl<|gs rfl rfl false rfl rfl<|gs rfl rfl false rfl rfl<|gs rfl rfl false rfl rfl<|gs rfl rfl false rfl rfl<|lp (.bool false) (qat (q:=false) rfl rfl rfl)<|lp (.bool false) (qaa rfl)<|gs rfl rfl false rfl rfl<|gs rfl rfl false rfl rfl<|gs rfl rfl false rfl rfl<|gs rfl rfl false rfl rfl<|lp (.bool false) (qat (q:=false) rfl rfl rfl)<|lp (.bool false) (qaa rfl)<|gs rfl rfl false rfl rfl<|gs rfl rfl false rfl rfl<|gs rfl rfl false rfl rfl<|gs rfl rfl false rfl rfl<|gs rfl rfl false rfl rfl<|gs rfl rfl false rfl rfl<|lp (.bool false) (qat (q:=false) rfl rfl rfl)<|lp (.bool false) (qab rfl)<|ln (hK48 _ _ ?_)
 obtain rfl:=os hb
 refine Wc.ret (hKR _ _ ?_)
 refine ⟨_,res1 results9 (tV (.bool false) rfl),_,rfl,rfl,hC.sE []⟩

theorem law35_great_ok (n:Nat) {w:World} {O0:List Nat} (hO: ∀k∈O0,k<w.heap.size) {c:Int} (p:I64 c) {f:Option Addr} {h g:Nat} {d:List Int} (j:Rep O0 w (.sl si) [.slice f h g] d) {r:Bool} (hb:F.law35_great n c d=some r):
    Calls prog 10 #[.agg #[iv c,.slice f h g]] w fun e w'=> ∃v,e=.returned v∧v=.bool r∧Cx (fun _=>False) O0 w w' []:=by
 unfold F.law35_great at hb
 have hC:=Cx.start hO
 replace hC:=hC.arg rfl j
 clear hO
 obtain ⟨rfl,l,o⟩:=j.qaf
 refine qao func10 rfl (by rw [ntmps10]; exact nb rfl) fun KR hKR=>?_
 refine Wc.seq fun _ hK2=>rg<|lex.op (hC.box (cs:=[iv c,.slice f d.length g]) rfl rfl) ?_
 rintro _ w4 ⟨g3,rfl,hC,hF,-⟩
 refine lp (.bool false) (qab rfl)<|ln (hK2 _ _ ?_)
 refine Wc.seq fun _ hK6=>rg<|lp (.pointer (some ((⟨g3,0,none⟩:Addr).add 1))) (qal (sz:=1) underlying24 rfl sizeOf22 (by decide) rfl rfl)<|lv (.slice f d.length g) (qar (hC.bx (i:=0) rfl) isAgg22 rfl rfl)<|lp (iv (d.length:Int)) (qan (A:=f) (n:=d.length) (m:=g) underlying22 rfl)<|lp (.bool (decide (14<(d.length:Int)))) (qbi (k:=.i64) (a:=(d.length:Int)) (b:=14) rfl rfl)<|lp (.bool (decide (14<(d.length:Int)))) (qaa rfl) ?_
 rcases bS (decide (14<(d.length:Int))) with hq7 | hq7
 replace hb:=tt hq7 hb
 refine gs rfl rfl (decide (14<(d.length:Int))) rfl hq7<|gs rfl rfl (decide (14<(d.length:Int))) rfl hq7<|gs rfl rfl (decide (14<(d.length:Int))) rfl hq7<|gs rfl rfl (decide (14<(d.length:Int))) rfl hq7 ?_
 refine lex.gskip (qbq rfl rfl rfl) ?_
 refine lex.gskip (qbq rfl rfl rfl) ?_
 refine lex.gskip (qbq rfl rfl rfl) ?_
 refine gs rfl rfl (decide (14<(d.length:Int))) rfl hq7<|lp (.bool true) (qap (q:=(decide (14<(d.length:Int)))) rfl hq7 rfl)<|lp (.bool true) (qab rfl)<|ln (hK6 _ _ ?_)
 obtain rfl:=os hb
 refine Wc.ret (hKR _ _ ?_)
 refine ⟨_,res1 results10 (tV (.bool true) rfl),_,rfl,rfl,hC.sE []⟩
 replace hb:=tf hq7 hb
 refine gp rfl rfl (decide (14<(d.length:Int))) rfl hq7 (.pointer (some ((⟨g3,0,none⟩:Addr).add 0))) (qal (sz:=1) underlying24 rfl sizeOf3 (by decide) rfl rfl)<|gv rfl rfl (decide (14<(d.length:Int))) rfl hq7 (iv c) (qar (hC.bx (i:=0) rfl) isAgg3 rfl rfl)<|gp rfl rfl (decide (14<(d.length:Int))) rfl hq7 (.bool (decide (5<c))) (qbi (k:=.i64) (a:=c) (b:=5) rfl rfl)<|gp rfl rfl (decide (14<(d.length:Int))) rfl hq7 (.bool (decide (5<c))) (qaa rfl) ?_
 rcases bS (decide (5<c)) with hq8 | hq8
 replace hb:=tt hq8 hb
 refine gp rfl rfl (decide (5<c)) rfl hq8 (.pointer (some ((⟨g3,0,none⟩:Addr).add 0))) (qal (sz:=1) underlying24 rfl sizeOf3 (by decide) rfl rfl)<|gv rfl rfl (decide (5<c)) rfl hq8 (iv c) (qar (hC.bx (i:=0) rfl) isAgg3 rfl rfl)<|gp rfl rfl (decide (5<c)) rfl hq8 (.bool (decide (c≤10))) (pu_leq (k:=.i64) (a:=c) (b:=10) rfl rfl)<|gp rfl rfl (decide (14<(d.length:Int))) rfl hq7 (.bool (decide (c≤10))) (qap (q:=(decide (5<c))) rfl hq8 rfl)<|lp (.bool (decide (c≤10))) (qat (q:=(decide (14<(d.length:Int)))) rfl hq7 rfl)<|lp (.bool (decide (c≤10))) (qab rfl)<|ln (hK6 _ _ ?_)
 obtain rfl:=os hb
 refine Wc.ret (hKR _ _ ?_)
 refine ⟨_,res1 results10 (tV (.bool (decide (c≤10))) rfl),_,rfl,rfl,hC.sE []⟩
 replace hb:=tf hq8 hb
 refine gs rfl rfl (decide (5<c)) rfl hq8<|gs rfl rfl (decide (5<c)) rfl hq8<|gs rfl rfl (decide (5<c)) rfl hq8<|gp rfl rfl (decide (14<(d.length:Int))) rfl hq7 (.bool false) (qat (q:=(decide (5<c))) rfl hq8 rfl)<|lp (.bool false) (qat (q:=(decide (14<(d.length:Int)))) rfl hq7 rfl)<|lp (.bool false) (qab rfl)<|ln (hK6 _ _ ?_)
 obtain rfl:=os hb
 refine Wc.ret (hKR _ _ ?_)
 refine ⟨_,res1 results10 (tV (.bool false) rfl),_,rfl,rfl,hC.sE []⟩

theorem braid_Closure_c1_ok (n:Nat) {w:World} {O0:List Nat} (hO: ∀k∈O0,k<w.heap.size) {f:Int} (t:I64 f) {l:Int} (u:I64 l) {o:Nat} {g:Option Addr} {q h:Nat} {p:List Int} (s:Rep O0 w (.sl si) [.slice g q h] p) {b:Option Addr} {j c:Nat} {d:List Int} {m:Int} (B:I64 m) (hio:Tk O0 w [.own 3 si (.slice b j c) d,.box o 60 [.slice g q h,.slice b j c,iv m]]) {r:(List Int)} (hb:F.qed n f l p d m=some r):
    Calls prog 49 #[iv f,iv l,pg o] w fun e w'=> ∃v,e=.returned v∧v=.tuple #[]∧Cx (fun k=>k∈blocks [.own 3 si (.slice b j c) d,.box o 60 [.slice g q h,.slice b j c,iv m]]) O0 w w' [.own 3 si (.slice b j c) r,.box o 60 [.slice g q h,.slice b j c,iv m]]:=by
 unfold F.qed at hb
 have hC:=Cx.startTk hO hio
 have hsub:=hio.2.2
 replace hC:=hC.argTk (by first | exact hsub | exact fun k hk=>hsub k (by simpa [blocks,Fact.blk] using hk)) s
 clear hO
 obtain ⟨rfl,x,y⟩:=s.qaf
 obtain ⟨rfl,z,A⟩:=(hC.ow (i:=1) rfl).qaf
 clear hio hsub
 obtain ⟨I,hI,hC⟩: ∃I:Nat→Prop,I=(fun k=>k∈blocks [.own 3 si (.slice b d.length c) d,.box o 60 [.slice g p.length h,.slice b d.length c,iv m]])∧Cx I O0 w w ([.ro (.sl si) [.slice g p.length h] p,.own 3 si (.slice b d.length c) d,.box o 60 [.slice g p.length h,.slice b d.length c,iv m]]):=⟨_,rfl,hC⟩
 refine qao func49 rfl (by rw [ntmps49]; exact nb rfl) fun KR hKR=>?_
 refine Wc.regionMix [6,9] (frm [6,9] ([]:List Fact) [.own 3 si (.slice b d.length c) d]) (fun _=>rfl) mixed (by decide+kernel) (by decide+kernel) fun w5 hw4=>?_
 replace hC:=hC.step (Fr.qbh hw4)
 have hM:=Fr.refl (fun k=>k∈blocks ([]:List Fact)) w5
 clear hw4
 have hS:=hC
 have hD:Fr (fun k=>k∈blocks (([]:List Fact)++[.own 3 si (.slice b d.length c) d])) w5 w5:=hM.wide
 have hUf3:Beside (([]:List Fact)++[.own 3 si (.slice b d.length c) d]) w5 (.slice b d.length c):=Beside.of (i:=0) rfl
 refine mp (.pointer (some ((⟨o,0,none⟩:Addr).add 1))) (qal (sz:=1) underlying60 rfl sizeOf22 (by decide) rfl rfl)<|mixE.steady hD (v:=.slice b d.length c) (fun _ hF=>qar (hS.bx2 (i:=2) rfl [1] (by decide) hF) isAgg22 rfl rfl)<|mp (iv f) (qaa rfl)<|mp (.pointer (some ((⟨o,0,none⟩:Addr).add 1))) (qal (sz:=1) underlying60 rfl sizeOf22 (by decide) rfl rfl)<|mixE.steady hD (v:=.slice b d.length c) (fun _ hF=>qar (hS.bx2 (i:=2) rfl [1] (by decide) hF) isAgg22 rfl rfl)<|mp (iv l) (qaa rfl)<|mp (iv l) (qaa rfl)<|mp (iv f) (qaa rfl) ?_
 obtain ⟨x6,h7,hb⟩:=bd hb
 obtain ⟨ad8,cs9,hA,ho12,hc10,hr11⟩:=hS.elo2 (i:=1) rfl (qac h7).2 [] (by decide)
 subst hA
 refine mp (.pointer (some (ad8.add (f.toNat*1)))) (qag (a:=f) underlying22 sizeOf3 rfl rfl (qac h7).1)<|mixE.sk hD (hC.put (i:=1) rfl rfl sizeOf3 (k:=f.toNat) (a:=l) (by have:=(qac h7).1; simp at this⊢; omega) (⟨rfl,I64.wr u⟩) rfl rfl rfl) ?_
 rintro w13 ⟨hC,hF⟩
 replace hD:=hD.beside hUf3 hF
 clear hF
 refine ⟨hD,?_⟩
 obtain ⟨x14,h15,hb⟩:=bd hb
 obtain ⟨ad16,cs17,hA,hc18,hr19⟩:=hC.elo (i:=1) rfl (qac h15).2
 obtain rfl:=Option.some.inj hA
 refine mp (.pointer (some (ad8.add (l.toNat*1)))) (qag (a:=l) underlying22 sizeOf3 rfl rfl (by rw [(hC.ow (i:=1) rfl).qaf.1]; exact (qac h15).1))<|mixE.sk hD (hC.put (i:=1) rfl rfl sizeOf3 (k:=l.toNat) (a:=f) (by have:=(qac h15).1; simp at this⊢; omega) (⟨rfl,I64.wr t⟩) rfl rfl rfl) ?_
 rintro w20 ⟨hC,hF⟩
 replace hD:=hD.beside hUf3 hF
 clear hF
 refine ⟨hD,?_⟩
 refine mixE.nil ?_
 clear hS hM
 clear hD
 obtain rfl:=os hb
 subst hI
 refine hKR _ _ ?_
 refine ⟨_,res0 results49,_,rfl,rfl,hC.sE [1,2]⟩

theorem braid_Closure_c2_ok (n:Nat) {w:World} {O0:List Nat} (hO: ∀k∈O0,k<w.heap.size) {m:Int} (U:I64 m) {M:Int} (T:I64 M) {K:Int} (S:I64 K) {L:Nat} {B:Option Addr} {H x:Nat} {y:List Int} {N:Nat} {z:Option Addr} {J A:Nat} {C:List Int} {P:Nat} {o:Nat} {p:Option Addr} {G q:Nat} {s:List Int} (Q:Rep O0 w (.sl si) [.slice p G q] s) {d:Option Addr} {D l:Nat} {c:List Int} {u:Int} (R:I64 u) (hio:Tk O0 w [.own 3 si (.slice B H x) y,.own 3 si (.slice z J A) C,.own 3 si (.slice d D l) c,.box L 22 [.slice B H x],.box N 22 [.slice z J A],.box P 91 [.func (.func 49) #[] #[pg o]],.box o 60 [.slice p G q,.slice d D l,iv u]]) {r:(List Int)×(List Int)×(List Int)} (hb:F.qee n m M K y C s c u=some r):
    Calls prog 50 #[iv m,iv M,iv K,pg L,pg N,pg P] w fun e w'=> ∃v,e=.returned v∧v=.tuple #[]∧Cx (fun k=>k∈blocks [.own 3 si (.slice B H x) y,.own 3 si (.slice z J A) C,.own 3 si (.slice d D l) c,.box L 22 [.slice B H x],.box N 22 [.slice z J A],.box P 91 [.func (.func 49) #[] #[pg o]],.box o 60 [.slice p G q,.slice d D l,iv u]]) O0 w w' [.own 3 si (.slice B H x) r.1,.own 3 si (.slice z J A) r.2.1,.own 3 si (.slice d D l) r.2.2,.box L 22 [.slice B H x],.box N 22 [.slice z J A],.box P 91 [.func (.func 49) #[] #[pg o]],.box o 60 [.slice p G q,.slice d D l,iv u]]:=by
 unfold F.qee at hb
 have hC:=Cx.startTk hO hio
 have hsub:=hio.2.2
 replace hC:=hC.argTk (by first | exact hsub | exact fun k hk=>hsub k (by simpa [blocks,Fact.blk] using hk)) Q
 clear hO
 obtain ⟨rfl,V,X⟩:=Q.qaf
 obtain ⟨rfl,a0,a1⟩:=(hC.ow (i:=1) rfl).qaf
 obtain ⟨rfl,a2,a3⟩:=(hC.ow (i:=2) rfl).qaf
 obtain ⟨rfl,Y,Z⟩:=(hC.ow (i:=3) rfl).qaf
 clear hio hsub
 obtain ⟨I,hI,hC⟩: ∃I:Nat→Prop,I=(fun k=>k∈blocks [.own 3 si (.slice B y.length x) y,.own 3 si (.slice z C.length A) C,.own 3 si (.slice d c.length l) c,.box L 22 [.slice B y.length x],.box N 22 [.slice z C.length A],.box P 91 [.func (.func 49) #[] #[pg o]],.box o 60 [.slice p s.length q,.slice d c.length l,iv u]])∧Cx I O0 w w ([.ro (.sl si) [.slice p s.length q] s,.own 3 si (.slice B y.length x) y,.own 3 si (.slice z C.length A) C,.own 3 si (.slice d c.length l) c,.box L 22 [.slice B y.length x],.box N 22 [.slice z C.length A],.box P 91 [.func (.func 49) #[] #[pg o]],.box o 60 [.slice p s.length q,.slice d c.length l,iv u]]):=⟨_,rfl,hC⟩
 refine qao func50 rfl (by rw [ntmps50]; exact nb rfl) fun KR hKR=>?_
 refine Wc.seq fun _ hK9=>?_
 refine Wc.seq fun _ hK10=>rg<|lv (.slice B y.length x) (qah isAgg22 rfl ((hC.bx (i:=4) rfl).cell (j:=0) rfl))<|lp (iv m) (qaa rfl) ?_
 obtain ⟨x11,h12,hb⟩:=bd hb
 obtain ⟨ad13,cs14,hA,hc15,hr16⟩:=hC.elo (i:=1) rfl (qac h12).2
 subst hA
 refine lp (.pointer (some (ad13.add (m.toNat*1)))) (qag (a:=m) underlying22 sizeOf3 rfl rfl (qac h12).1) ?_
 obtain ⟨rfl,hr16'⟩:=hr16
 refine lv (iv x11) (qah isAgg3 rfl (hc15 0 _ rfl))<|lp (.bool (decide (x11<0))) (qau (k:=.i64) (a:=x11) (b:=0) rfl rfl)<|ln (hK10 _ _ ?_)
 refine Wc.cond (t:=(decide (x11<0))) (rfl) (fun hq17=>?_) (fun hq17=>?_)
 replace hb:=tt hq17 hb
 refine rg<|lv (.slice z C.length A) (qah isAgg22 rfl ((hC.bx (i:=5) rfl).cell (j:=0) rfl))<|lp (iv m) (qaa rfl)<|lp (iv M) (qaa rfl) ?_
 obtain ⟨x18,h19,hb⟩:=bd hb
 obtain ⟨ad20,cs21,hA,hc22,hr23⟩:=hC.elo (i:=2) rfl (qac h19).2
 subst hA
 refine lp (.pointer (some (ad20.add (m.toNat*1)))) (qag (a:=m) underlying22 sizeOf3 rfl rfl (qac h19).1)<|lex.sk (hC.put (i:=2) rfl rfl sizeOf3 (k:=m.toNat) (a:=M) (by have:=(qac h19).1; simp at this⊢; omega) (⟨rfl,I64.wr T⟩) rfl rfl rfl) ?_
 rintro w24 ⟨hC,hF⟩
 refine ln (hK9 _ _ ?_)
 refine rg<|lv (.slice (some ad13) y.length x) (qah isAgg22 rfl ((hC.bx (i:=4) rfl).cell (j:=0) rfl))<|lp (iv m) (qaa rfl)<|lp (iv K) (qaa rfl) ?_
 obtain ⟨x25,h26,hb⟩:=bd hb
 obtain ⟨ad27,cs28,hA,hc29,hr30⟩:=hC.elo (i:=1) rfl (qac h26).2
 obtain rfl:=Option.some.inj hA
 refine lp (.pointer (some (ad13.add (m.toNat*1)))) (qag (a:=m) underlying22 sizeOf3 rfl rfl (qac h26).1)<|lex.sk (hC.put (i:=1) rfl rfl sizeOf3 (k:=m.toNat) (a:=K) (by have:=(qac h26).1; simp at this⊢; omega) (⟨rfl,I64.wr S⟩) rfl rfl rfl) ?_
 rintro w31 ⟨hC,hF⟩
 refine ln ?_
 obtain rfl:=os hb
 subst hI
 refine hKR _ _ ?_
 refine ⟨_,res0 results50,_,rfl,rfl,hC.sE [1,2,3,4,5,6,7]⟩
 replace hb:=tf hq17 hb
 refine Wc.regionMix [] (frm [] [.own 3 si (.slice d c.length l) c,.box o 60 [.slice p s.length q,.slice d c.length l,iv u]] ([]:List Fact)) (fun _=>rfl) mixed (by decide+kernel) (by decide+kernel) fun w33 hw32=>?_
 replace hC:=hC.step (Fr.qbh hw32)
 have hM:=Fr.refl (fun k=>k∈blocks [.own 3 si (.slice d c.length l) c,.box o 60 [.slice p s.length q,.slice d c.length l,iv u]]) w33
 clear hw32
 have hS:=hC
 have hBf8:Beside [.own 3 si (.slice d c.length l) c,.box o 60 [.slice p s.length q,.slice d c.length l,iv u]] w33 (.slice d c.length l):=Beside.of (i:=0) rfl
 have hBf6: ∀g,g<w33.heap.size→some o=some g→g∈blocks [.own 3 si (.slice d c.length l) c,.box o 60 [.slice p s.length q,.slice d c.length l,iv u]]:=fun g _ hg=>Option.some.inj hg▸box_in (i:=1) rfl
 refine mixE.load hM (v:=.func (.func 49) #[] #[pg o]) (fun _ hF=>qah isAgg91 rfl ((hS.bx2 (i:=6) rfl [3,7] (by decide) hF).cell (j:=0) rfl))<|mixE.load hM (v:=.slice (some ad13) y.length x) (fun _ hF=>qah isAgg22 rfl ((hS.bx2 (i:=4) rfl [3,7] (by decide) hF).cell (j:=0) rfl))<|mp (iv m) (qaa rfl) ?_
 obtain ⟨x34,h35,hb⟩:=bd hb
 obtain ⟨ad36,cs37,hA,ho40,hc38,hr39⟩:=hS.elo2 (i:=1) rfl (qac h35).2 [3,7] (by decide)
 obtain rfl:=Option.some.inj hA
 refine mp (.pointer (some (ad13.add (m.toNat*1)))) (qag (a:=m) underlying22 sizeOf3 rfl rfl (qac h35).1) ?_
 obtain ⟨rfl,hr39'⟩:=hr39
 refine mixE.load hM (v:=iv x34) (fun _ hF=>qah isAgg3 rfl (hF.cell (hc38 0 _ rfl) (off1 ho40)))<|mp (iv M) (qaa rfl) ?_
 replace hC:Cx I O0 w w33 ([.own 3 si (.slice d c.length l) c,.box o 60 [.slice p s.length q,.slice d c.length l,iv u]]++[.ro (.sl si) [.slice p s.length q] s,.own 3 si (.slice (some ad13) y.length x) y,.own 3 si (.slice z C.length A) C,.box L 22 [.slice (some ad13) y.length x],.box N 22 [.slice z C.length A],.box P 91 [.func (.func 49) #[] #[pg o]]]):=hC.sE [3,7,0,1,2,4,5,6]
 obtain ⟨y41,h42,hb⟩:=bd hb
 refine mixE.cl hM (⟨_,_,qcf (vs:=[iv x34,iv M,pg o]) (ca:=#[pg o]) call49 rfl rfl rfl,braid_Closure_c1_ok n hC.lt (qbl hr39') T (hC.rd (i:=2) rfl) R hC.give h42⟩) ?_
 rintro _ w43 ⟨rfl,hK⟩
 have hL44: ∀f∈([.own 3 si (.slice d c.length l) c,.box o 60 [.slice p s.length q,.slice d c.length l,iv u]]:List Fact),∀g,g<w33.heap.size→f.blk=some g→g∈blocks [.own 3 si (.slice d c.length l) c,.box o 60 [.slice p s.length q,.slice d c.length l,iv u]]:=List.forall_mem_cons.2 ⟨hBf8,List.forall_mem_cons.2 ⟨hBf6,fun _ h=>absurd h List.not_mem_nil⟩⟩
 replace hM:=hM.besideL hL44 hK.fr
 refine ⟨hM,?_⟩
 replace hC:=hC.back hK
 clear hK
 refine mixE.nil ?_
 clear hS hM
 refine hK9 _ _<|Wc.fresh fun E45 hE=>?_
 have e0:E45 0=iv m:=cg hE 0 rfl
 have e2:E45 2=iv K:=cg hE 2 rfl
 have e3:E45 3=pg L:=cg hE 3 rfl
 clear hE
 refine rg<|lv (.slice (some ad13) y.length x) (qah isAgg22 e3 ((hC.bx (i:=5) rfl).cell (j:=0) rfl))<|lp _ (qaa e0)<|lp _ (qaa e2) ?_
 obtain ⟨x46,h47,hb⟩:=bd hb
 obtain ⟨ad48,cs49,hA,hc50,hr51⟩:=hC.elo (i:=3) rfl (qac h47).2
 obtain rfl:=Option.some.inj hA
 refine lp (.pointer (some (ad13.add (m.toNat*1)))) (qag (a:=m) underlying22 sizeOf3 rfl rfl (qac h47).1)<|lex.sk (hC.put (i:=3) rfl rfl sizeOf3 (k:=m.toNat) (a:=K) (by have:=(qac h47).1; simp at this⊢; omega) (⟨rfl,I64.wr S⟩) rfl rfl rfl) ?_
 rintro w52 ⟨hC,hF⟩
 refine ln ?_
 obtain rfl:=os hb
 subst hI
 refine hKR _ _ ?_
 refine ⟨_,res0 results50,_,rfl,rfl,hC.sE [3,4,0,5,6,7,1]⟩

theorem qgy (n:Nat) {w:World} {O0:List Nat} (hO: ∀k∈O0,k<w.heap.size) {d:Option Addr} {o f:Nat} {g:List Int} (p:Rep O0 w (.sl si) [.slice d o f] g) {j:Option Addr} {q l:Nat} {m:List Int} (s:Rep O0 w (.sl si) [.slice j q l] m) {h:Int} (A:I64 h) {c:Int} (B:I64 c) {r:Bool} (hb:F.qdc n g m h c=some r):
    Calls prog 68 #[.agg #[.slice d o f,.slice j q l,iv h],iv c] w fun e w'=> ∃v,e=.returned v∧v=.bool r∧Cx (fun _=>False) O0 w w' []:=by
 unfold F.qdc at hb
 have hC:=Cx.start hO
 replace hC:=hC.arg rfl p
 replace hC:=hC.arg rfl s
 clear hO
 obtain ⟨rfl,u,x⟩:=p.qaf
 obtain ⟨rfl,y,z⟩:=s.qaf
 refine qao func68 rfl (by rw [ntmps68]; exact nb rfl) fun KR hKR=>?_
 refine Wc.seq fun _ hK3=>rg<|lex.op (hC.box (cs:=[.slice d g.length f,.slice j m.length l,iv h]) rfl rfl) ?_
 rintro _ w5 ⟨g4,rfl,hC,hF,-⟩
 refine lp (.bool false) (qab rfl)<|ln (hK3 _ _ ?_)
 refine Wc.seq fun _ hK7=>?_
 refine Wc.seq fun _ hK8=>rg<|lp (iv c) (qaa rfl) ?_
 obtain ⟨u9,h10,hb⟩:=bd hb
 refine lp (iv (Int.tmod c 4)) (pu_remc (a:=c) (b:=4) rfl rfl h10)<|ln (hK8 _ _ ?_)
 refine Wc.block<|Wc.seq fun _ hK11=>rg<|lp (.bool (decide ((Int.tmod c 4)=1))) (qcu (k:=.i64) (a:=(Int.tmod c 4)) (b:=1) rfl rfl)<|lp (.bool (decide ((Int.tmod c 4)=1))) (qab rfl)<|ln (hK11 _ _ ?_)
 refine Wc.cond (t:=(decide ((Int.tmod c 4)=1))) (rfl) (fun hq12=>?_) (fun hq12=>?_)
 replace hb:=tt hq12 hb
 refine Wc.seq fun _ hK13=>rg<|lp (.pointer (some ((⟨g4,0,none⟩:Addr).add 0))) (qal (sz:=1) underlying60 rfl sizeOf22 (by decide) rfl rfl)<|lv (.slice d g.length f) (qar (hC.bx (i:=0) rfl) isAgg22 rfl rfl)<|lp (iv c) (qaa rfl) ?_
 obtain ⟨u14,h15,hb⟩:=bd hb
 obtain ⟨z16,h17,hb⟩:=bd hb
 refine lp (iv z16) (pu_quoc (a:=c) (b:=4) rfl rfl h15 h17) ?_
 obtain ⟨x18,h19,hb⟩:=bd hb
 obtain ⟨ad20,cs21,hA,hc22,hr23⟩:=hC.elr (i:=2) rfl (qac h19).2
 subst hA
 refine lp (.pointer (some (ad20.add (z16.toNat*1)))) (qag (a:=z16) underlying22 sizeOf3 rfl rfl (qac h19).1) ?_
 obtain ⟨rfl,hr23'⟩:=hr23
 refine lv (iv x18) (qah isAgg3 rfl (hc22 0 _ rfl))<|lp (.bool (decide (x18=1))) (qcu (k:=.i64) (a:=x18) (b:=1) rfl rfl)<|lp (.bool (decide (x18=1))) (qab rfl)<|ln (hK13 _ _ ?_)
 obtain rfl:=os hb
 refine Wc.ret (hKR _ _ ?_)
 refine ⟨_,res1 results68 (tV (.bool (decide (x18=1))) rfl),_,rfl,rfl,hC.sE []⟩
 replace hb:=tf hq12 hb
 refine Wc.seq fun _ hK24=>rg<|lp (.bool (decide ((Int.tmod c 4)=2))) (qcu (k:=.i64) (a:=(Int.tmod c 4)) (b:=2) rfl rfl)<|lp (.bool (decide ((Int.tmod c 4)=2))) (qab rfl)<|ln (hK24 _ _ ?_)
 refine Wc.cond (t:=(decide ((Int.tmod c 4)=2))) (rfl) (fun hq25=>?_) (fun hq25=>?_)
 replace hb:=tt hq25 hb
 refine Wc.seq fun _ hK26=>rg<|lp (.bool true) (qab rfl)<|ln (hK26 _ _ ?_)
 obtain rfl:=os hb
 refine Wc.ret (hKR _ _ ?_)
 refine ⟨_,res1 results68 (tV (.bool true) rfl),_,rfl,rfl,hC.sE []⟩
 replace hb:=tf hq25 hb
 refine Wc.seq fun _ hK27=>rg<|lp (.bool (decide ((Int.tmod c 4)=3))) (qcu (k:=.i64) (a:=(Int.tmod c 4)) (b:=3) rfl rfl)<|lp (.bool (decide ((Int.tmod c 4)=3))) (qab rfl)<|ln (hK27 _ _ ?_)
 refine Wc.fresh fun E28 hE=>?_
 have e1:E28 1=iv c:=cg hE 1 rfl
 have e2:E28 2=pg g4:=cg hE 2 rfl
 have e4:E28 4=.bool false:=cg hE 4 rfl
 have e18:E28 18=.bool (decide ((Int.tmod c 4)=3)):=cg hE 18 rfl
 clear hE
 refine Wc.cond (t:=(decide ((Int.tmod c 4)=3))) (e18) (fun hq29=>?_) (fun hq29=>?_)
 replace hb:=tt hq29 hb
 refine Wc.seq fun _ hK30=>rg<|lp (.pointer (some ((⟨g4,0,none⟩:Addr).add 0))) (qal (sz:=1) underlying60 rfl sizeOf22 (by decide) rfl e2)<|lv (.slice d g.length f) (qar (hC.bx (i:=0) rfl) isAgg22 rfl rfl)<|lp _ (qaa e1) ?_
 obtain ⟨u31,h32,hb⟩:=bd hb
 obtain ⟨z33,h34,hb⟩:=bd hb
 refine lp (iv z33) (pu_quoc (a:=c) (b:=4) rfl rfl h32 h34) ?_
 obtain ⟨x35,h36,hb⟩:=bd hb
 obtain ⟨ad37,cs38,hA,hc39,hr40⟩:=hC.elr (i:=2) rfl (qac h36).2
 subst hA
 refine lp (.pointer (some (ad37.add (z33.toNat*1)))) (qag (a:=z33) underlying22 sizeOf3 rfl rfl (qac h36).1) ?_
 obtain ⟨rfl,hr40'⟩:=hr40
 refine lv (iv x35) (qah isAgg3 rfl (hc39 0 _ rfl))<|lp (.bool (decide (x35=(-1)))) (qcu (k:=.i64) (a:=x35) (b:=(-1)) rfl rfl)<|lp (.bool (decide (x35=(-1)))) (qab rfl)<|ln (hK30 _ _ ?_)
 obtain rfl:=os hb
 refine Wc.ret (hKR _ _ ?_)
 refine ⟨_,res1 results68 (tV (.bool (decide (x35=(-1)))) rfl),_,rfl,rfl,hC.sE []⟩
 replace hb:=tf hq29 hb
 refine Wc.skip (hK7 _ _ ?_)
 refine Wc.seq fun _ hK41=>rg<|lp (.bool false) (qab rfl)<|ln (hK41 _ _ ?_)
 obtain rfl:=os hb
 refine Wc.ret (hKR _ _ ?_)
 refine ⟨_,res1 results68 (tV (.bool false) rfl),_,rfl,rfl,hC.sE []⟩
