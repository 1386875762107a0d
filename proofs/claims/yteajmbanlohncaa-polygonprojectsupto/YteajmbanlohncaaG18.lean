import Derived.Test.YteajmbanlohncaaS
import Derived.Test.YteajmbanlohncaaG6
import Derived.Test.YteajmbanlohncaaG10
import Derived.Test.YteajmbanlohncaaG11
import Derived.Test.YteajmbanlohncaaG12
import Derived.Test.YteajmbanlohncaaG14
import Derived.Test.YteajmbanlohncaaG15
import Derived.Test.YteajmbanlohncaaG16
import Derived.Test.YteajmbanlohncaaG17
set_option linter.unusedVariables false
set_option linter.unusedSimpArgs false
namespace Go.Proofs.Yteajmbanlohncaa
open Ev Try
set_option maxRecDepth 100000
set_option maxHeartbeats 4000000
theorem law46_PolygonProjects_ok (n:Nat) {w:World} {O0:List Nat} (hO: ∀k∈O0,k<w.heap.size) {c:Option Addr} {g d:Nat} {f:List (List (Int×(Int×Int)))} (h:Rep O0 w (.sl (.sl (.pr si (.pr si si)))) [.slice c g d] f) {r:Bool} (hb:F.law46_PolygonProjects n f=some r):
    Calls prog 4 #[.slice c g d] w fun e w'=> ∃v,e=.returned v∧v=.bool r∧Cx (fun _=>False) O0 w w' []:=by
 unfold F.law46_PolygonProjects at hb
 have hC:=Cx.start hO
 replace hC:=hC.arg rfl h
 clear hO
 obtain ⟨rfl,j,l⟩:=h.sl_len
 refine calls_of_Wc func4 rfl (by rw [ntmps4]; exact nb rfl) fun KR hKR=>?_
 refine Wc.seq fun _ hK2=>rg<|lp (.bool false) (pu_assign rfl)<|ln (hK2 _ _ ?_)
 refine Wc.seq fun _ hK3=>?_
 refine Wc.seq fun _ hK4=>rg ?_
 obtain ⟨y5,h6,hb⟩:=bd hb
 refine lex.cl (⟨_,_,op_call (vs:=[]) call11 rfl rfl rfl,law46_awake_ok n hC.lt h6⟩) ?_
 rintro _ w7 ⟨rfl,hK⟩
 replace hC:=hC.merge hK
 clear hK
 refine lp (.bool (!y5)) (pu_not (q:=y5) rfl)<|lp (.bool (!y5)) (pu_move rfl) ?_
 rcases bS (!y5) with hq8 | hq8
 replace hb:=tt hq8 hb
 refine gs rfl rfl (!y5) rfl hq8<|gs rfl rfl (!y5) rfl hq8<|gs rfl rfl (!y5) rfl hq8<|lp (.bool true) (pu_pickT (q:=(!y5)) rfl hq8 rfl)<|ln (hK4 _ _ ?_)
 refine Wc.cond_true (rfl) ?_
 refine Wc.seq fun _ hK9=>rg ?_
 obtain ⟨y10,h11,hb⟩:=bd hb
 refine lex.cl (⟨_,_,op_call (vs:=[]) call11 rfl rfl rfl,law46_awake_ok n hC.lt h11⟩) ?_
 rintro _ w12 ⟨rfl,hK⟩
 replace hC:=hC.merge hK
 clear hK
 refine lp (.bool y10) (pu_assign rfl)<|ln (hK9 _ _ ?_)
 obtain rfl:=os hb
 refine Wc.ret (hKR _ _ ?_)
 refine ⟨_,res1 results4 (tV (.bool y10) rfl),_,rfl,rfl,hC.sE []⟩
 replace hb:=tf hq8 hb
 refine gp rfl rfl (!y5) rfl hq8 (.slice c f.length d) (pu_move rfl) ?_
 obtain ⟨y13,h14,hb⟩:=bd hb
 refine lex.gcl (want_t rfl rfl (show _=Value.bool (!y5) from rfl) hq8) (⟨_,_,op_call (vs:=[.slice c f.length d]) call14 rfl rfl rfl,law46_few_ok n hC.lt (hC.rd (i:=0) rfl) h14⟩) ?_
 rintro _ w15 ⟨rfl,hK⟩
 replace hC:=hC.merge hK
 clear hK
 refine gp rfl rfl (!y5) rfl hq8 (.bool (!y13)) (pu_not (q:=y13) rfl)<|lp (.bool (!y13)) (pu_pickF (q:=(!y5)) rfl hq8 rfl)<|ln (hK4 _ _ ?_)
 refine Wc.cond (t:=(!y13)) (rfl) (fun hq16=>?_) (fun hq16=>?_)
 replace hb:=tt hq16 hb
 refine Wc.seq fun _ hK17=>rg ?_
 obtain ⟨y18,h19,hb⟩:=bd hb
 refine lex.cl (⟨_,_,op_call (vs:=[]) call11 rfl rfl rfl,law46_awake_ok n hC.lt h19⟩) ?_
 rintro _ w20 ⟨rfl,hK⟩
 replace hC:=hC.merge hK
 clear hK
 refine lp (.bool y18) (pu_assign rfl)<|ln (hK17 _ _ ?_)
 obtain rfl:=os hb
 refine Wc.ret (hKR _ _ ?_)
 refine ⟨_,res1 results4 (tV (.bool y18) rfl),_,rfl,rfl,hC.sE []⟩
 replace hb:=tf hq16 hb
 refine Wc.skip (hK3 _ _ ?_)
 refine Wc.seq fun _ hK21=>rg<|lp (.slice c f.length d) (pu_move rfl) ?_
 obtain ⟨y22,h23,hb⟩:=bd hb
 refine lex.cl (⟨_,_,op_call (vs:=[.slice c f.length d]) call15 rfl rfl rfl,polygon_Project_ok n hC.lt (hC.rd (i:=0) rfl) h23⟩) ?_
 rintro _ w34 ⟨A24,m25,c26,A28,m29,c30,rfl,hr32,hr33,hK⟩
 replace hC:=hC.merge hK
 clear hK
 obtain ⟨rfl,hl35,hc36⟩:=(hC.ow (i:=0) rfl).sl_len
 obtain ⟨rfl,hl37,hc38⟩:=(hC.ow (i:=1) rfl).sl_len
 refine lp (.tuple #[.agg #[.slice A24 y22.1.length c26,.slice A28 y22.2.1.length c30,iv y22.2.2.1],iv y22.2.2.2]) (pu_move rfl)<|lp (.agg #[.slice A24 y22.1.length c26,.slice A28 y22.2.1.length c30,iv y22.2.2.1]) (pu_extract rfl rfl)<|lp (iv y22.2.2.2) (pu_extract rfl rfl)<|lex.op (hC.alloc (cs:=[.slice none 0 0,.slice none 0 0,iv 0]) zeroValue32 rfl) ?_
 rintro _ w40 ⟨g39,rfl,hC,hF,-⟩
 refine lex.sk (hC.seta (i:=0) (ds:=[.slice A24 y22.1.length c26,.slice A28 y22.2.1.length c30,iv y22.2.2.1]) rfl type32 rfl rfl rfl rfl rfl) ?_
 rintro w42 ⟨hC,hF⟩
 refine lp (iv y22.2.2.2) (pu_assign rfl)<|ln (hK21 _ _ ?_)
 refine Wc.fresh fun E43 hE=>?_
 have e0:E43 0=.slice c f.length d:=cg hE 0 rfl
 have e2:E43 2=.bool false:=cg hE 2 rfl
 have e3:E43 3=pg g39:=cg hE 3 rfl
 have e4:E43 4=iv y22.2.2.2:=cg hE 4 rfl
 clear hE
 refine Wc.seq fun _ hK44=>?_
 refine Wc.seq fun _ hK45=>rg<|lp _ (pu_move e0) ?_
 obtain ⟨y46,h47,hb⟩:=bd hb
 refine lex.cl (⟨_,_,op_call (vs:=[.slice c f.length d]) call16 rfl rfl rfl,ref46_Valid_ok n hC.lt (hC.rd (i:=3) rfl) h47⟩) ?_
 rintro _ w48 ⟨rfl,hK⟩
 replace hC:=hC.merge hK
 clear hK
 refine lp (.bool (!y46)) (pu_not (q:=y46) rfl)<|ln (hK45 _ _ ?_)
 refine Wc.cond (t:=(!y46)) (rfl) (fun hq49=>?_) (fun hq49=>?_)
 replace hb:=tt hq49 hb
 refine Wc.seq fun _ hK50=>rg<|lp _ (pu_move e4)<|lp (.bool (decide (y22.2.2.2=1))) (pu_eql (k:=.i64) (a:=y22.2.2.2) (b:=1) rfl rfl)<|lp (.bool (decide (y22.2.2.2=1))) (pu_move rfl) ?_
 rcases bS (decide (y22.2.2.2=1)) with hq51 | hq51
 replace hb:=tt hq51 hb
 refine gv rfl rfl (decide (y22.2.2.2=1)) rfl hq51 (.agg #[.slice A24 y22.1.length c26,.slice A28 y22.2.1.length c30,iv y22.2.2.1]) (ld_blk (hC.bx (i:=0) rfl) isAgg32 sizeOf32 e3) ?_
 obtain ⟨y52,h53,hb⟩:=bd hb
 refine lex.gcl (want_t rfl rfl (show _=Value.bool (decide (y22.2.2.2=1)) from rfl) hq51) (⟨_,_,op_call (vs:=[.agg #[.slice A24 y22.1.length c26,.slice A28 y22.2.1.length c30,iv y22.2.2.1]]) call17 rfl rfl rfl,law46_zero_ok n (hC.lentLt [.slice A24 y22.1.length c26,.slice A28 y22.2.1.length c30]) ((hC.ow (i:=1) rfl).lend (vs:=[.slice A24 y22.1.length c26,.slice A28 y22.2.1.length c30]) (by simp)) ((hC.ow (i:=2) rfl).lend (vs:=[.slice A24 y22.1.length c26,.slice A28 y22.2.1.length c30]) (by simp)) hr32 h53⟩) ?_
 rintro _ w54 ⟨rfl,hK⟩
 replace hC:=hC.mergeF hK rfl
 clear hK
 refine lp (.bool y52) (pu_pickT (q:=(decide (y22.2.2.2=1))) rfl hq51 rfl)<|lp (.bool y52) (pu_move rfl) ?_
 rcases bS y52 with hq55 | hq55
 replace hb:=tt hq55 hb
 refine gp rfl rfl y52 rfl hq55 (.slice c f.length d) (pu_move e0) ?_
 obtain ⟨y56,h57,hb⟩:=bd hb
 refine lex.gcl (want_t rfl rfl (show _=Value.bool y52 from rfl) hq55) (⟨_,_,op_call (vs:=[.slice c f.length d]) call18 rfl rfl rfl,polygon_Generic_ok n hC.lt (hC.rd (i:=3) rfl) h57⟩) ?_
 rintro _ w58 ⟨rfl,hK⟩
 replace hC:=hC.merge hK
 clear hK
 refine gp rfl rfl y52 rfl hq55 (.bool (!y56)) (pu_not (q:=y56) rfl)<|lp (.bool (!y56)) (pu_pickT (q:=y52) rfl hq55 rfl)<|lp (.bool (!y56)) (pu_assign rfl)<|ln (hK50 _ _ ?_)
 obtain rfl:=os hb
 refine Wc.ret (hKR _ _ ?_)
 refine ⟨_,res1 results4 (tV (.bool (!y56)) rfl),_,rfl,rfl,hC.sE []⟩
 replace hb:=tf hq55 hb
 refine gs rfl rfl y52 rfl hq55<|gs rfl rfl y52 rfl hq55<|gs rfl rfl y52 rfl hq55<|lp (.bool false) (pu_pickF (q:=y52) rfl hq55 rfl)<|lp (.bool false) (pu_assign rfl)<|ln (hK50 _ _ ?_)
 obtain rfl:=os hb
 refine Wc.ret (hKR _ _ ?_)
 refine ⟨_,res1 results4 (tV (.bool false) rfl),_,rfl,rfl,hC.sE []⟩
 replace hb:=tf hq51 hb
 refine gs rfl rfl (decide (y22.2.2.2=1)) rfl hq51<|gs rfl rfl (decide (y22.2.2.2=1)) rfl hq51<|lp (.bool false) (pu_pickF (q:=(decide (y22.2.2.2=1))) rfl hq51 rfl)<|lp (.bool false) (pu_move rfl)<|gs rfl rfl false rfl rfl<|gs rfl rfl false rfl rfl<|gs rfl rfl false rfl rfl<|lp (.bool false) (pu_pickF (q:=false) rfl rfl rfl)<|lp (.bool false) (pu_assign rfl)<|ln (hK50 _ _ ?_)
 obtain rfl:=os hb
 refine Wc.ret (hKR _ _ ?_)
 refine ⟨_,res1 results4 (tV (.bool false) rfl),_,rfl,rfl,hC.sE []⟩
 replace hb:=tf hq49 hb
 refine Wc.skip (hK44 _ _ ?_)
 refine Wc.seq fun _ hK59=>?_
 refine Wc.seq fun _ hK60=>rg<|lp _ (pu_move e0) ?_
 obtain ⟨y61,h62,hb⟩:=bd hb
 refine lex.cl (⟨_,_,op_call (vs:=[.slice c f.length d]) call18 rfl rfl rfl,polygon_Generic_ok n hC.lt (hC.rd (i:=3) rfl) h62⟩) ?_
 rintro _ w63 ⟨rfl,hK⟩
 replace hC:=hC.merge hK
 clear hK
 refine lp _ (pu_move e0) ?_
 obtain ⟨y64,h65,hb⟩:=bd hb
 refine lex.cl (⟨_,_,op_call (vs:=[.slice c f.length d]) call19 rfl rfl rfl,ref46_Generic_ok n hC.lt (hC.rd (i:=3) rfl) h65⟩) ?_
 rintro _ w66 ⟨rfl,hK⟩
 replace hC:=hC.merge hK
 clear hK
 refine lp (.bool (!(y61 == y64))) (pu_neqb (p:=y61) (q:=y64) underlying4 rfl rfl)<|ln (hK60 _ _ ?_)
 refine Wc.cond (t:=(!(y61 == y64))) (rfl) (fun hq67=>?_) (fun hq67=>?_)
 replace hb:=tt hq67 hb
 refine Wc.seq fun _ hK68=>rg<|lp (.bool false) (pu_assign rfl)<|ln (hK68 _ _ ?_)
 obtain rfl:=os hb
 refine Wc.ret (hKR _ _ ?_)
 refine ⟨_,res1 results4 (tV (.bool false) rfl),_,rfl,rfl,hC.sE []⟩
 replace hb:=tf hq67 hb
 refine Wc.skip (hK59 _ _ ?_)
 refine Wc.seq fun _ hK69=>?_
 refine Wc.seq fun _ hK70=>rg<|lp _ (pu_move e0) ?_
 obtain ⟨y71,h72,hb⟩:=bd hb
 refine lex.cl (⟨_,_,op_call (vs:=[.slice c f.length d]) call19 rfl rfl rfl,ref46_Generic_ok n hC.lt (hC.rd (i:=3) rfl) h72⟩) ?_
 rintro _ w73 ⟨rfl,hK⟩
 replace hC:=hC.merge hK
 clear hK
 refine lp (.bool (!y71)) (pu_not (q:=y71) rfl)<|ln (hK70 _ _ ?_)
 refine Wc.fresh fun E74 hE=>?_
 have e0:=cg hE 0 e0
 have e2:=cg hE 2 e2
 have e3:=cg hE 3 e3
 have e4:=cg hE 4 e4
 have e40:E74 40=.bool (!y71):=cg hE 40 rfl
 clear hE
 refine Wc.cond (t:=(!y71)) (e40) (fun hq75=>?_) (fun hq75=>?_)
 replace hb:=tt hq75 hb
 refine Wc.seq fun _ hK76=>rg<|lp _ (pu_move e4)<|lp (.bool (decide (y22.2.2.2=15))) (pu_eql (k:=.i64) (a:=y22.2.2.2) (b:=15) rfl rfl)<|lp (.bool (decide (y22.2.2.2=15))) (pu_move rfl) ?_
 rcases bS (decide (y22.2.2.2=15)) with hq77 | hq77
 replace hb:=tt hq77 hb
 refine gv rfl rfl (decide (y22.2.2.2=15)) rfl hq77 (.agg #[.slice A24 y22.1.length c26,.slice A28 y22.2.1.length c30,iv y22.2.2.1]) (ld_blk (hC.bx (i:=0) rfl) isAgg32 sizeOf32 e3) ?_
 obtain ⟨y78,h79,hb⟩:=bd hb
 refine lex.gcl (want_t rfl rfl (show _=Value.bool (decide (y22.2.2.2=15)) from rfl) hq77) (⟨_,_,op_call (vs:=[.agg #[.slice A24 y22.1.length c26,.slice A28 y22.2.1.length c30,iv y22.2.2.1]]) call17 rfl rfl rfl,law46_zero_ok n (hC.lentLt [.slice A24 y22.1.length c26,.slice A28 y22.2.1.length c30]) ((hC.ow (i:=1) rfl).lend (vs:=[.slice A24 y22.1.length c26,.slice A28 y22.2.1.length c30]) (by simp)) ((hC.ow (i:=2) rfl).lend (vs:=[.slice A24 y22.1.length c26,.slice A28 y22.2.1.length c30]) (by simp)) hr32 h79⟩) ?_
 rintro _ w80 ⟨rfl,hK⟩
 replace hC:=hC.mergeF hK rfl
 clear hK
 refine lp (.bool y78) (pu_pickT (q:=(decide (y22.2.2.2=15))) rfl hq77 rfl)<|lp (.bool y78) (pu_assign rfl)<|ln (hK76 _ _ ?_)
 obtain rfl:=os hb
 refine Wc.ret (hKR _ _ ?_)
 refine ⟨_,res1 results4 (tV (.bool y78) rfl),_,rfl,rfl,hC.sE []⟩
 replace hb:=tf hq77 hb
 refine gs rfl rfl (decide (y22.2.2.2=15)) rfl hq77<|gs rfl rfl (decide (y22.2.2.2=15)) rfl hq77<|lp (.bool false) (pu_pickF (q:=(decide (y22.2.2.2=15))) rfl hq77 rfl)<|lp (.bool false) (pu_assign rfl)<|ln (hK76 _ _ ?_)
 obtain rfl:=os hb
 refine Wc.ret (hKR _ _ ?_)
 refine ⟨_,res1 results4 (tV (.bool false) rfl),_,rfl,rfl,hC.sE []⟩
 replace hb:=tf hq75 hb
 refine Wc.skip (hK69 _ _ ?_)
 refine Wc.seq fun _ hK81=>rg<|lp _ (pu_move e0) ?_
 obtain ⟨y82,h83,hb⟩:=bd hb
 refine lex.cl (⟨_,_,op_call (vs:=[.slice c f.length d]) call20 rfl rfl rfl,ref46_Project_ok n hC.lt (hC.rd (i:=3) rfl) h83⟩) ?_
 rintro _ w93 ⟨A84,m85,c86,A88,m89,c90,rfl,hr92,hK⟩
 replace hC:=hC.merge hK
 clear hK
 obtain ⟨rfl,hl94,hc95⟩:=(hC.ow (i:=0) rfl).sl_len
 obtain ⟨rfl,hl96,hc97⟩:=(hC.ow (i:=1) rfl).sl_len
 refine lex.op (hC.alloc (cs:=[.slice none 0 0,.slice none 0 0,iv 0]) zeroValue39 rfl) ?_
 rintro _ w99 ⟨g98,rfl,hC,hF,-⟩
 refine lex.sk (hC.seta (i:=0) (ds:=[.slice A84 y82.1.length c86,.slice A88 y82.2.1.length c90,iv y82.2.2]) rfl type39 rfl rfl rfl rfl rfl) ?_
 rintro w101 ⟨hC,hF⟩
 refine ln (hK81 _ _ ?_)
 refine Wc.seq fun _ hK102=>?_
 refine Wc.seq fun _ hK103=>rg<|lp (.pointer (some ((⟨g98,0,none⟩:Addr).add 1))) (pu_field (sz:=1) underlying39 rfl sizeOf30 (by decide) rfl rfl)<|lv (.slice A88 y82.2.1.length c90) (ld_fld (hC.bx (i:=0) rfl) isAgg30 rfl rfl)<|lp (iv (y82.2.1.length:Int)) (pu_len (A:=A88) (n:=y82.2.1.length) (m:=c90) underlying30 rfl)<|lp (.bool (decide (64<(y82.2.1.length:Int)))) (pu_gtr (k:=.i64) (a:=(y82.2.1.length:Int)) (b:=64) rfl rfl)<|ln (hK103 _ _ ?_)
 refine Wc.cond (t:=(decide (64<(y82.2.1.length:Int)))) (rfl) (fun hq104=>?_) (fun hq104=>?_)
 replace hb:=tt hq104 hb
 refine Wc.seq fun _ hK105=>rg<|lp _ (pu_move e4)<|lp (.bool (decide (y22.2.2.2=5))) (pu_eql (k:=.i64) (a:=y22.2.2.2) (b:=5) rfl rfl)<|lp (.bool (decide (y22.2.2.2=5))) (pu_move rfl) ?_
 rcases bS (decide (y22.2.2.2=5)) with hq106 | hq106
 replace hb:=tt hq106 hb
 refine gv rfl rfl (decide (y22.2.2.2=5)) rfl hq106 (.agg #[.slice A24 y22.1.length c26,.slice A28 y22.2.1.length c30,iv y22.2.2.1]) (ld_blk (hC.bx (i:=3) rfl) isAgg32 sizeOf32 e3) ?_
 obtain ⟨y107,h108,hb⟩:=bd hb
 refine lex.gcl (want_t rfl rfl (show _=Value.bool (decide (y22.2.2.2=5)) from rfl) hq106) (⟨_,_,op_call (vs:=[.agg #[.slice A24 y22.1.length c26,.slice A28 y22.2.1.length c30,iv y22.2.2.1]]) call17 rfl rfl rfl,law46_zero_ok n (hC.lentLt [.slice A24 y22.1.length c26,.slice A28 y22.2.1.length c30]) ((hC.ow (i:=4) rfl).lend (vs:=[.slice A24 y22.1.length c26,.slice A28 y22.2.1.length c30]) (by simp)) ((hC.ow (i:=5) rfl).lend (vs:=[.slice A24 y22.1.length c26,.slice A28 y22.2.1.length c30]) (by simp)) hr32 h108⟩) ?_
 rintro _ w109 ⟨rfl,hK⟩
 replace hC:=hC.mergeF hK rfl
 clear hK
 refine lp (.bool y107) (pu_pickT (q:=(decide (y22.2.2.2=5))) rfl hq106 rfl)<|lp (.bool y107) (pu_assign rfl)<|ln (hK105 _ _ ?_)
 obtain rfl:=os hb
 refine Wc.ret (hKR _ _ ?_)
 refine ⟨_,res1 results4 (tV (.bool y107) rfl),_,rfl,rfl,hC.sE []⟩
 replace hb:=tf hq106 hb
 refine gs rfl rfl (decide (y22.2.2.2=5)) rfl hq106<|gs rfl rfl (decide (y22.2.2.2=5)) rfl hq106<|lp (.bool false) (pu_pickF (q:=(decide (y22.2.2.2=5))) rfl hq106 rfl)<|lp (.bool false) (pu_assign rfl)<|ln (hK105 _ _ ?_)
 obtain rfl:=os hb
 refine Wc.ret (hKR _ _ ?_)
 refine ⟨_,res1 results4 (tV (.bool false) rfl),_,rfl,rfl,hC.sE []⟩
 replace hb:=tf hq104 hb
 refine Wc.skip (hK102 _ _ ?_)
 refine Wc.seq fun _ hK110=>?_
 refine Wc.regionMix [] (frm [] ([]:List Fact) ([]:List Fact)) (fun _=>rfl) mixed (by decide+kernel) (by decide+kernel) fun w112 hw111=>?_
 replace hC:=hC.step (Fr.of_drew hw111)
 have hM:=Fr.refl (fun k=>k∈blocks ([]:List Fact)) w112
 clear hw111
 have hS:=hC
 refine mp (iv y22.2.2.2) (pu_move e4)<|mp (.bool (decide (y22.2.2.2=0))) (pu_eql (k:=.i64) (a:=y22.2.2.2) (b:=0) rfl rfl)<|mp (.bool (decide (y22.2.2.2=0))) (pu_move rfl) ?_
 rcases bS (decide (y22.2.2.2=0)) with hq113 | hq113
 replace hb:=tt hq113 hb
 refine mixE.gload rfl (want_t rfl rfl (show _=Value.bool (decide (y22.2.2.2=0)) from rfl) hq113) hM (v:=.agg #[.slice A24 y22.1.length c26,.slice A28 y22.2.1.length c30,iv y22.2.2.1]) (fun _ hF=>ld_blk (hS.bx2 (i:=3) rfl [] (by decide) hF) isAgg32 sizeOf32 e3)<|mixE.gload rfl (want_t rfl rfl (show _=Value.bool (decide (y22.2.2.2=0)) from rfl) hq113) hM (v:=.agg #[.slice A84 y82.1.length c86,.slice A88 y82.2.1.length c90,iv y82.2.2]) (fun _ hF=>ld_blk (hS.bx2 (i:=0) rfl [] (by decide) hF) isAgg39 sizeOf39 rfl) ?_
 obtain ⟨y114,h115,hb⟩:=bd hb
 refine mixE.gcl rfl (want_t rfl rfl (show _=Value.bool (decide (y22.2.2.2=0)) from rfl) hq113) hM (⟨_,_,op_call (vs:=[.agg #[.slice A84 y82.1.length c86,.slice A88 y82.2.1.length c90,iv y82.2.2]]) call22 rfl rfl rfl,ref02_Diagram_ok n (hC.lentLt [.slice A84 y82.1.length c86,.slice A88 y82.2.1.length c90]) ((hC.ow (i:=1) rfl).lend (vs:=[.slice A84 y82.1.length c86,.slice A88 y82.2.1.length c90]) (by simp)) ((hC.ow (i:=2) rfl).lend (vs:=[.slice A84 y82.1.length c86,.slice A88 y82.2.1.length c90]) (by simp)) hr92 h115⟩) ?_
 rintro _ w125 ⟨A116,m117,c118,A120,m121,c122,rfl,hr124,hK⟩
 have hBf119:=Beside.cl (i:=0) hM hK rfl
 have hBf123:=Beside.cl (i:=1) hM hK rfl
 replace hM:=hM.none hK.fr
 refine ⟨hM,?_⟩
 replace hC:=hC.mergeF hK rfl
 clear hK
 obtain ⟨rfl,hl126,hc127⟩:=(hC.ow (i:=0) rfl).sl_len
 obtain ⟨rfl,hl128,hc129⟩:=(hC.ow (i:=1) rfl).sl_len
 obtain ⟨y130,h131,hb⟩:=bd hb
 refine mixE.gcl rfl (want_t rfl rfl (show _=Value.bool (decide (y22.2.2.2=0)) from rfl) hq113) hM (⟨_,_,op_call (vs:=[.agg #[.slice A24 y22.1.length c26,.slice A28 y22.2.1.length c30,iv y22.2.2.1],.agg #[.slice A116 y114.1.length c118,.slice A120 y114.2.1.length c122,iv y114.2.2]]) call21 rfl rfl rfl,ref01_Equal_ok n (hC.lentLt [.slice A116 y114.1.length c118,.slice A120 y114.2.1.length c122,.slice A24 y22.1.length c26,.slice A28 y22.2.1.length c30]) ((hC.ow (i:=6) rfl).lend (vs:=[.slice A116 y114.1.length c118,.slice A120 y114.2.1.length c122,.slice A24 y22.1.length c26,.slice A28 y22.2.1.length c30]) (by simp)) ((hC.ow (i:=7) rfl).lend (vs:=[.slice A116 y114.1.length c118,.slice A120 y114.2.1.length c122,.slice A24 y22.1.length c26,.slice A28 y22.2.1.length c30]) (by simp)) hr32 ((hC.ow (i:=0) rfl).lend (vs:=[.slice A116 y114.1.length c118,.slice A120 y114.2.1.length c122,.slice A24 y22.1.length c26,.slice A28 y22.2.1.length c30]) (by simp)) ((hC.ow (i:=1) rfl).lend (vs:=[.slice A116 y114.1.length c118,.slice A120 y114.2.1.length c122,.slice A24 y22.1.length c26,.slice A28 y22.2.1.length c30]) (by simp)) hr124 h131⟩) ?_
 rintro _ w132 ⟨rfl,hK⟩
 replace hM:=hM.none hK.fr
 refine ⟨hM,?_⟩
 replace hC:=hC.mergeF hK rfl
 clear hK
 refine mp (.bool y130) (pu_pickT (q:=(decide (y22.2.2.2=0))) rfl hq113 rfl)<|mp (.bool y130) (pu_assign rfl)<|mixE.nil ?_
 clear hS hM
 refine hK110 _ _ ?_
 obtain rfl:=os hb
 refine Wc.ret (hKR _ _ ?_)
 refine ⟨_,res1 results4 (tV (.bool y130) rfl),_,rfl,rfl,hC.sE []⟩
 replace hb:=tf hq113 hb
 refine mixE.gskip (want_f rfl rfl (show _=Value.bool (decide (y22.2.2.2=0)) from rfl) hq113)<|mixE.gskip (want_f rfl rfl (show _=Value.bool (decide (y22.2.2.2=0)) from rfl) hq113)<|mixE.gskip (want_f rfl rfl (show _=Value.bool (decide (y22.2.2.2=0)) from rfl) hq113)<|mixE.gskip (want_f rfl rfl (show _=Value.bool (decide (y22.2.2.2=0)) from rfl) hq113)<|mp (.bool false) (pu_pickF (q:=(decide (y22.2.2.2=0))) rfl hq113 rfl)<|mp (.bool false) (pu_assign rfl)<|mixE.nil ?_
 clear hS hM
 refine hK110 _ _ ?_
 obtain rfl:=os hb
 refine Wc.ret (hKR _ _ ?_)
 refine ⟨_,res1 results4 (tV (.bool false) rfl),_,rfl,rfl,hC.sE []⟩
end Go.Proofs.Yteajmbanlohncaa
