import Derived.Test.YticemffhlapnnaaS
import Derived.Test.YticemffhlapnnaaG0
import Derived.Test.YticemffhlapnnaaG3
import Derived.Test.YticemffhlapnnaaG4
import Derived.Test.YticemffhlapnnaaG5
import Derived.Test.YticemffhlapnnaaG6
import Derived.Test.YticemffhlapnnaaG28
import Derived.Test.YticemffhlapnnaaG34
set_option linter.all false
namespace Go.Proofs.Yticemffhlapnnaa
open Ev Try
set_option maxRecDepth 100000
set_option maxHeartbeats 4000000
theorem law44_GridlinkCloses_ok (n:Nat) {w:World} {O0:List Nat} (hO: ∀k∈O0,k<w.heap.size) {d:Int} (h:I64 d) {f:Option Addr} {j g:Nat} {c:List Int} (l:Rep O0 w (.sl si) [.slice f j g] c) {r:Bool} (hb:F.law44_GridlinkCloses n d c=some r):
    Calls prog 10 #[iv d,.slice f j g] w fun e w'=> ∃v,e=.returned v∧v=.bool r∧Cx (fun _=>False) O0 w w' []:=by
 unfold F.law44_GridlinkCloses at hb
 have hC:=Cx.start hO
 replace hC:=hC.arg rfl l
 clear hO
 obtain ⟨rfl,o,p⟩:=l.qad
 refine qaq func10 rfl (by rw [ntmps10]; exact nb rfl) fun KR hKR=>?_
 refine Wc.seq fun _ hK2=>rg<|lp (.bool false) (qab rfl)<|ln (hK2 _ _ ?_)
 refine Wc.seq fun _ hK3=>?_
 refine Wc.seq fun _ hK4=>rg ?_
 obtain ⟨y5,h6,hb⟩:=bd hb
 refine lex.cl (⟨_,_,qas (vs:=[]) call11 rfl rfl rfl,law44_awake_ok n hC.lt h6⟩) ?_
 rintro _ w7 ⟨rfl,hK⟩
 replace hC:=hC.merge hK
 clear hK
 refine lp (.bool (!y5)) (pu_not (q:=y5) rfl)<|ln (hK4 _ _ ?_)
 refine Wc.cond (t:=(!y5)) (rfl) (fun hq8=>?_) (fun hq8=>?_)
 replace hb:=tt hq8 hb
 refine Wc.seq fun _ hK9=>rg<|lp (.bool false) (qab rfl)<|ln (hK9 _ _ ?_)
 obtain rfl:=os hb
 refine Wc.ret (hKR _ _ ?_)
 refine ⟨_,res1 results10 (tV (.bool false) rfl),_,rfl,rfl,hC.sE []⟩
 replace hb:=tf hq8 hb
 refine Wc.skip (hK3 _ _ ?_)
 refine Wc.seq fun _ hK10=>rg<|lp (iv d) (qaa rfl)<|lp (.slice f c.length g) (qaa rfl)<|lp (.agg #[iv d,.slice f c.length g]) (qbr (places:=[(0,1),(1,1)]) (pv:=[(0,iv d),(1,.slice f c.length g)]) type40 underlying40 rfl (qar type3 (qar type22 qco rfl rfl) rfl rfl) rfl (by simp [Instr.fill,Value.cells]))<|lex.op (hC.alloc (cs:=[iv 0,.slice none 0 0]) zeroValue40 rfl) ?_
 rintro _ w12 ⟨g11,rfl,hC,hF,-⟩
 refine lex.sk (hC.seta (i:=0) (ds:=[iv d,.slice f c.length g]) rfl type40 rfl rfl rfl rfl rfl) ?_
 rintro w14 ⟨hC,hF⟩
 refine ln (hK10 _ _ ?_)
 refine Wc.seq fun _ hK15=>?_
 refine Wc.seq fun _ hK16=>rg<|lp (.slice f c.length g) (qaa rfl)<|lp (iv (c.length:Int)) (qao (A:=f) (n:=c.length) (m:=g) underlying22 rfl)<|lp (.bool (decide (40<(c.length:Int)))) (qed (k:=.i64) (a:=(c.length:Int)) (b:=40) rfl rfl)<|lp (.bool (decide (40<(c.length:Int)))) (qaa rfl) ?_
 rcases bS (decide (40<(c.length:Int))) with hq17 | hq17
 replace hb:=tt hq17 hb
 refine gs rfl rfl (decide (40<(c.length:Int))) rfl hq17<|gs rfl rfl (decide (40<(c.length:Int))) rfl hq17<|gs rfl rfl (decide (40<(c.length:Int))) rfl hq17<|lp (.bool true) (qbg (q:=(decide (40<(c.length:Int)))) rfl hq17 rfl)<|ln (hK16 _ _ ?_)
 refine Wc.cond_true (rfl) ?_
 refine Wc.seq fun _ hK18=>rg<|lp (.bool true) (qab rfl)<|ln (hK18 _ _ ?_)
 obtain rfl:=os hb
 refine Wc.ret (hKR _ _ ?_)
 refine ⟨_,res1 results10 (tV (.bool true) rfl),_,rfl,rfl,hC.sE []⟩
 replace hb:=tf hq17 hb
 refine gv rfl rfl (decide (40<(c.length:Int))) rfl hq17 (.agg #[iv d,.slice f c.length g]) (qbs (hC.bx (i:=0) rfl) isAgg40 sizeOf40 rfl) ?_
 obtain ⟨y19,h20,hb⟩:=bd hb
 refine lex.gcl (qdi rfl rfl (show _=Value.bool (decide (40<(c.length:Int))) from rfl) hq17) (⟨_,_,qas (vs:=[.agg #[iv d,.slice f c.length g]]) call22 rfl rfl rfl,braid_Valid_ok n hC.lt h (hC.rd (i:=1) rfl) h20⟩) ?_
 rintro _ w21 ⟨rfl,hK⟩
 replace hC:=hC.merge hK
 clear hK
 refine gp rfl rfl (decide (40<(c.length:Int))) rfl hq17 (.bool (!y19)) (pu_not (q:=y19) rfl)<|lp (.bool (!y19)) (qbc (q:=(decide (40<(c.length:Int)))) rfl hq17 rfl)<|ln (hK16 _ _ ?_)
 refine Wc.cond (t:=(!y19)) (rfl) (fun hq22=>?_) (fun hq22=>?_)
 replace hb:=tt hq22 hb
 refine Wc.seq fun _ hK23=>rg<|lp (.bool true) (qab rfl)<|ln (hK23 _ _ ?_)
 obtain rfl:=os hb
 refine Wc.ret (hKR _ _ ?_)
 refine ⟨_,res1 results10 (tV (.bool true) rfl),_,rfl,rfl,hC.sE []⟩
 replace hb:=tf hq22 hb
 refine Wc.skip (hK15 _ _ ?_)
 refine Wc.fresh fun E24 hE=>?_
 have e0:E24 0=iv d:=cg hE 0 rfl
 have e1:E24 1=.slice f c.length g:=cg hE 1 rfl
 have e4:E24 4=.bool false:=cg hE 4 rfl
 have e5:E24 5=pg g11:=cg hE 5 rfl
 clear hE
 refine Wc.seq fun _ hK25=>rg<|lv (.agg #[iv d,.slice f c.length g]) (qbs (hC.bx (i:=0) rfl) isAgg40 sizeOf40 e5) ?_
 obtain ⟨y26,h27,hb⟩:=bd hb
 refine lex.cl (⟨_,_,qas (vs:=[.agg #[iv d,.slice f c.length g]]) call18 rfl rfl rfl,gridlink_Braid_ok n hC.lt h (hC.rd (i:=1) rfl) h27⟩) ?_
 rintro _ w37 ⟨A28,m29,c30,A32,m33,c34,rfl,hr36,hK⟩
 replace hC:=hC.merge hK
 clear hK
 obtain ⟨rfl,hl38,hc39⟩:=(hC.ow (i:=0) rfl).qad
 obtain ⟨rfl,hl40,hc41⟩:=(hC.ow (i:=1) rfl).qad
 refine lp (.tuple #[.agg #[.slice A28 y26.1.length c30,.slice A32 y26.2.1.length c34],iv y26.2.2]) (qaa rfl)<|lp (.agg #[.slice A28 y26.1.length c30,.slice A32 y26.2.1.length c34]) (qbt rfl rfl)<|lp (iv y26.2.2) (qbt rfl rfl)<|lex.op (hC.alloc (cs:=[.slice none 0 0,.slice none 0 0]) zeroValue24 rfl) ?_
 rintro _ w43 ⟨g42,rfl,hC,hF,-⟩
 refine lex.sk (hC.seta (i:=0) (ds:=[.slice A28 y26.1.length c30,.slice A32 y26.2.1.length c34]) rfl type24 rfl rfl rfl rfl rfl) ?_
 rintro w45 ⟨hC,hF⟩
 refine lp (iv y26.2.2) (qab rfl)<|ln (hK25 _ _ ?_)
 refine Wc.seq fun _ hK46=>?_
 refine Wc.seq fun _ hK47=>rg<|lp (iv y26.2.2) (qaa rfl)<|lp (.bool (!(decide (y26.2.2=0)))) (pu_neq (k:=.i64) (a:=y26.2.2) (b:=0) rfl rfl)<|ln (hK47 _ _ ?_)
 refine Wc.cond (t:=(!(decide (y26.2.2=0)))) (rfl) (fun hq48=>?_) (fun hq48=>?_)
 replace hb:=tt hq48 hb
 refine Wc.seq fun _ hK49=>rg<|lp _ (qaa e0) ?_
 obtain ⟨z50,h51,hb⟩:=bd hb
 refine lp (iv z50) (qbx (a:=2) (b:=d) rfl rfl h51)<|lp _ (qaa e1)<|lp (iv (c.length:Int)) (qao (A:=f) (n:=c.length) (m:=g) underlying22 rfl) ?_
 obtain ⟨z52,h53,hb⟩:=bd hb
 refine lp (iv z52) (qal (a:=z50) (b:=(c.length:Int)) rfl rfl h53)<|lp (.bool (decide (40<z52))) (qed (k:=.i64) (a:=z52) (b:=40) rfl rfl)<|lp (.bool (decide (40<z52))) (qab rfl)<|ln (hK49 _ _ ?_)
 obtain rfl:=os hb
 refine Wc.ret (hKR _ _ ?_)
 refine ⟨_,res1 results10 (tV (.bool (decide (40<z52))) rfl),_,rfl,rfl,hC.sE []⟩
 replace hb:=tf hq48 hb
 refine Wc.skip (hK46 _ _ ?_)
 refine Wc.seq fun _ hK54=>rg<|lv (.agg #[.slice A28 y26.1.length c30,.slice A32 y26.2.1.length c34]) (qbs (hC.bx (i:=0) rfl) isAgg24 sizeOf24 rfl) ?_
 obtain ⟨y55,h56,hb⟩:=bd hb
 refine lex.cl (⟨_,_,qas (vs:=[.agg #[.slice A28 y26.1.length c30,.slice A32 y26.2.1.length c34]]) call13 rfl rfl rfl,gridlink_Diagram_ok n (hC.lentLt [.slice A28 y26.1.length c30,.slice A32 y26.2.1.length c34]) ((hC.ow (i:=1) rfl).lend (vs:=[.slice A28 y26.1.length c30,.slice A32 y26.2.1.length c34]) (by simp)) ((hC.ow (i:=2) rfl).lend (vs:=[.slice A28 y26.1.length c30,.slice A32 y26.2.1.length c34]) (by simp)) h56⟩) ?_
 rintro _ w67 ⟨A57,m58,c59,A61,m62,c63,rfl,hr65,hr66,hK⟩
 replace hC:=hC.mergeF hK rfl
 clear hK
 obtain ⟨rfl,hl68,hc69⟩:=(hC.ow (i:=0) rfl).qad
 obtain ⟨rfl,hl70,hc71⟩:=(hC.ow (i:=1) rfl).qad
 refine lp (.tuple #[.agg #[.slice A57 y55.1.length c59,.slice A61 y55.2.1.length c63,iv y55.2.2.1],iv y55.2.2.2]) (qaa rfl)<|lp (.agg #[.slice A57 y55.1.length c59,.slice A61 y55.2.1.length c63,iv y55.2.2.1]) (qbt rfl rfl)<|lp (iv y55.2.2.2) (qbt rfl rfl)<|lex.op (hC.alloc (cs:=[.slice none 0 0,.slice none 0 0,iv 0]) zeroValue28 rfl) ?_
 rintro _ w73 ⟨g72,rfl,hC,hF,-⟩
 refine lex.sk (hC.seta (i:=0) (ds:=[.slice A57 y55.1.length c59,.slice A61 y55.2.1.length c63,iv y55.2.2.1]) rfl type28 rfl rfl rfl rfl rfl) ?_
 rintro w75 ⟨hC,hF⟩
 refine lp (iv y55.2.2.2) (qab rfl)<|ln (hK54 _ _ ?_)
 refine Wc.fresh fun E76 hE=>?_
 have e4:=cg hE 4 e4
 have e5:=cg hE 5 e5
 have e6:E76 6=pg g42:=cg hE 6 rfl
 have e8:E76 8=pg g72:=cg hE 8 rfl
 have e9:E76 9=iv y55.2.2.2:=cg hE 9 rfl
 clear hE
 refine Wc.seq fun _ hK77=>rg<|lv (.agg #[iv d,.slice f c.length g]) (qbs (hC.bx (i:=6) rfl) isAgg40 sizeOf40 e5) ?_
 obtain ⟨y78,h79,hb⟩:=bd hb
 refine lex.cl (⟨_,_,qas (vs:=[.agg #[iv d,.slice f c.length g]]) call36 rfl rfl rfl,braid_Closure_ok n hC.lt h (hC.rd (i:=7) rfl) h79⟩) ?_
 rintro _ w90 ⟨A80,m81,c82,A84,m85,c86,rfl,hr88,hr89,hK⟩
 replace hC:=hC.merge hK
 clear hK
 obtain ⟨rfl,hl91,hc92⟩:=(hC.ow (i:=0) rfl).qad
 obtain ⟨rfl,hl93,hc94⟩:=(hC.ow (i:=1) rfl).qad
 refine lp (.tuple #[.agg #[.slice A80 y78.1.length c82,.slice A84 y78.2.1.length c86,iv y78.2.2.1],iv y78.2.2.2]) (qaa rfl)<|lp (.agg #[.slice A80 y78.1.length c82,.slice A84 y78.2.1.length c86,iv y78.2.2.1]) (qbt rfl rfl)<|lp (iv y78.2.2.2) (qbt rfl rfl)<|lex.op (hC.alloc (cs:=[.slice none 0 0,.slice none 0 0,iv 0]) zeroValue28 rfl) ?_
 rintro _ w96 ⟨g95,rfl,hC,hF,-⟩
 refine lex.sk (hC.seta (i:=0) (ds:=[.slice A80 y78.1.length c82,.slice A84 y78.2.1.length c86,iv y78.2.2.1]) rfl type28 rfl rfl rfl rfl rfl) ?_
 rintro w98 ⟨hC,hF⟩
 refine lp (iv y78.2.2.2) (qab rfl)<|ln (hK77 _ _ ?_)
 refine Wc.seq fun _ hK99=>rg<|lv (.agg #[.slice A28 y26.1.length c30,.slice A32 y26.2.1.length c34]) (qbs (hC.bx (i:=6) rfl) isAgg24 sizeOf24 e6) ?_
 obtain ⟨y100,h101,hb⟩:=bd hb
 refine lex.cl (⟨_,_,qas (vs:=[.agg #[.slice A28 y26.1.length c30,.slice A32 y26.2.1.length c34]]) call26 rfl rfl rfl,grid_Valid_ok n (hC.lentLt [.slice A28 y26.1.length c30,.slice A32 y26.2.1.length c34]) ((hC.ow (i:=7) rfl).lend (vs:=[.slice A28 y26.1.length c30,.slice A32 y26.2.1.length c34]) (by simp)) ((hC.ow (i:=8) rfl).lend (vs:=[.slice A28 y26.1.length c30,.slice A32 y26.2.1.length c34]) (by simp)) h101⟩) ?_
 rintro _ w102 ⟨rfl,hK⟩
 replace hC:=hC.mergeF hK rfl
 clear hK
 refine lp (.bool y100) (qaa rfl) ?_
 rcases bS y100 with hq103 | hq103
 replace hb:=tt hq103 hb
 refine gp rfl rfl y100 rfl hq103 (iv y55.2.2.2) (qaa e9)<|gp rfl rfl y100 rfl hq103 (.bool (decide (y55.2.2.2=0))) (qef (k:=.i64) (a:=y55.2.2.2) (b:=0) rfl rfl)<|lp (.bool (decide (y55.2.2.2=0))) (qbg (q:=y100) rfl hq103 rfl)<|lp (.bool (decide (y55.2.2.2=0))) (qaa rfl) ?_
 rcases bS (decide (y55.2.2.2=0)) with hq104 | hq104
 replace hb:=tt hq104 hb
 refine gp rfl rfl (decide (y55.2.2.2=0)) rfl hq104 (iv y78.2.2.2) (qaa rfl)<|gp rfl rfl (decide (y55.2.2.2=0)) rfl hq104 (.bool (decide (y78.2.2.2=0))) (qef (k:=.i64) (a:=y78.2.2.2) (b:=0) rfl rfl)<|lp (.bool (decide (y78.2.2.2=0))) (qbg (q:=(decide (y55.2.2.2=0))) rfl hq104 rfl)<|lp (.bool (decide (y78.2.2.2=0))) (qaa rfl) ?_
 rcases bS (decide (y78.2.2.2=0)) with hq105 | hq105
 replace hb:=tt hq105 hb
 refine gv rfl rfl (decide (y78.2.2.2=0)) rfl hq105 (.agg #[.slice A57 y55.1.length c59,.slice A61 y55.2.1.length c63,iv y55.2.2.1]) (qbs (hC.bx (i:=3) rfl) isAgg28 sizeOf28 e8)<|gv rfl rfl (decide (y78.2.2.2=0)) rfl hq105 (.agg #[.slice A80 y78.1.length c82,.slice A84 y78.2.1.length c86,iv y78.2.2.1]) (qbs (hC.bx (i:=0) rfl) isAgg28 sizeOf28 rfl) ?_
 obtain ⟨y106,h107,hb⟩:=bd hb
 refine lex.gcl (qdi rfl rfl (show _=Value.bool (decide (y78.2.2.2=0)) from rfl) hq105) (⟨_,_,qas (vs:=[.agg #[.slice A57 y55.1.length c59,.slice A61 y55.2.1.length c63,iv y55.2.2.1],.agg #[.slice A80 y78.1.length c82,.slice A84 y78.2.1.length c86,iv y78.2.2.1]]) call33 rfl rfl rfl,canon_Same_ok n (hC.lentLt [.slice A57 y55.1.length c59,.slice A61 y55.2.1.length c63,.slice A80 y78.1.length c82,.slice A84 y78.2.1.length c86]) ((hC.ow (i:=4) rfl).lend (vs:=[.slice A57 y55.1.length c59,.slice A61 y55.2.1.length c63,.slice A80 y78.1.length c82,.slice A84 y78.2.1.length c86]) (by simp)) ((hC.ow (i:=5) rfl).lend (vs:=[.slice A57 y55.1.length c59,.slice A61 y55.2.1.length c63,.slice A80 y78.1.length c82,.slice A84 y78.2.1.length c86]) (by simp)) hr65 ((hC.ow (i:=1) rfl).lend (vs:=[.slice A57 y55.1.length c59,.slice A61 y55.2.1.length c63,.slice A80 y78.1.length c82,.slice A84 y78.2.1.length c86]) (by simp)) ((hC.ow (i:=2) rfl).lend (vs:=[.slice A57 y55.1.length c59,.slice A61 y55.2.1.length c63,.slice A80 y78.1.length c82,.slice A84 y78.2.1.length c86]) (by simp)) hr88 h107⟩) ?_
 rintro _ w108 ⟨rfl,hK⟩
 replace hC:=hC.mergeF hK rfl
 clear hK
 refine lp (.bool y106) (qbg (q:=(decide (y78.2.2.2=0))) rfl hq105 rfl)<|lp (.bool y106) (qab rfl)<|ln (hK99 _ _ ?_)
 obtain rfl:=os hb
 refine Wc.ret (hKR _ _ ?_)
 refine ⟨_,res1 results10 (tV (.bool y106) rfl),_,rfl,rfl,hC.sE []⟩
 replace hb:=tf hq105 hb
 refine gs rfl rfl (decide (y78.2.2.2=0)) rfl hq105<|gs rfl rfl (decide (y78.2.2.2=0)) rfl hq105<|gs rfl rfl (decide (y78.2.2.2=0)) rfl hq105<|lp (.bool false) (qbc (q:=(decide (y78.2.2.2=0))) rfl hq105 rfl)<|lp (.bool false) (qab rfl)<|ln (hK99 _ _ ?_)
 obtain rfl:=os hb
 refine Wc.ret (hKR _ _ ?_)
 refine ⟨_,res1 results10 (tV (.bool false) rfl),_,rfl,rfl,hC.sE []⟩
 replace hb:=tf hq104 hb
 refine gs rfl rfl (decide (y55.2.2.2=0)) rfl hq104<|gs rfl rfl (decide (y55.2.2.2=0)) rfl hq104<|lp (.bool false) (qbc (q:=(decide (y55.2.2.2=0))) rfl hq104 rfl)<|lp (.bool false) (qaa rfl)<|gs rfl rfl false rfl rfl<|gs rfl rfl false rfl rfl<|gs rfl rfl false rfl rfl<|lp (.bool false) (qbc (q:=false) rfl rfl rfl)<|lp (.bool false) (qab rfl)<|ln (hK99 _ _ ?_)
 obtain rfl:=os hb
 refine Wc.ret (hKR _ _ ?_)
 refine ⟨_,res1 results10 (tV (.bool false) rfl),_,rfl,rfl,hC.sE []⟩
 replace hb:=tf hq103 hb
 refine gs rfl rfl y100 rfl hq103<|gs rfl rfl y100 rfl hq103<|lp (.bool false) (qbc (q:=y100) rfl hq103 rfl)<|lp (.bool false) (qaa rfl)<|gs rfl rfl false rfl rfl<|gs rfl rfl false rfl rfl<|lp (.bool false) (qbc (q:=false) rfl rfl rfl)<|lp (.bool false) (qaa rfl)<|gs rfl rfl false rfl rfl<|gs rfl rfl false rfl rfl<|gs rfl rfl false rfl rfl<|lp (.bool false) (qbc (q:=false) rfl rfl rfl)<|lp (.bool false) (qab rfl)<|ln (hK99 _ _ ?_)
 obtain rfl:=os hb
 refine Wc.ret (hKR _ _ ?_)
 refine ⟨_,res1 results10 (tV (.bool false) rfl),_,rfl,rfl,hC.sE []⟩
