import Derived.Test.YticemffhlapnnaaS
import Derived.Test.YticemffhlapnnaaG0
import Derived.Test.YticemffhlapnnaaG3
import Derived.Test.YticemffhlapnnaaG6
import Derived.Test.YticemffhlapnnaaG7
import Derived.Test.YticemffhlapnnaaG23
import Derived.Test.YticemffhlapnnaaG25
import Derived.Test.YticemffhlapnnaaG28
set_option linter.unusedVariables false
set_option linter.unusedSimpArgs false
namespace Go.Proofs.Yticemffhlapnnaa
open Ev Try
set_option maxRecDepth 100000
set_option maxHeartbeats 4000000
theorem law44_GridlinkRotates_ok (n:Nat) {w:World} {O0:List Nat} (hO: ∀k∈O0,k<w.heap.size) {d:Option Addr} {l f:Nat} {c:List Int} (o:Rep O0 w (.sl si) [.slice d l f] c) {g:Option Addr} {p h:Nat} {j:List Int} (s:Rep O0 w (.sl si) [.slice g p h] j) {r:Bool} (hb:F.law44_GridlinkRotates n c j=some r):
    Calls prog 8 #[.agg #[.slice d l f,.slice g p h]] w fun e w'=> ∃v,e=.returned v∧v=.bool r∧Cx (fun _=>False) O0 w w' []:=by
 unfold F.law44_GridlinkRotates at hb
 have hC:=Cx.start hO
 replace hC:=hC.arg rfl o
 replace hC:=hC.arg rfl s
 clear hO
 obtain ⟨rfl,u,x⟩:=o.sl_len
 obtain ⟨rfl,y,z⟩:=s.sl_len
 refine calls_of_Wc func8 rfl (by rw [ntmps8]; exact nb rfl) fun KR hKR=>?_
 refine Wc.seq fun _ hK3=>rg<|lex.op (hC.box (cs:=[.slice d c.length f,.slice g j.length h]) rfl rfl) ?_
 rintro _ w5 ⟨g4,rfl,hC,hF,-⟩
 refine lp (.bool false) (pu_assign rfl)<|ln (hK3 _ _ ?_)
 refine Wc.seq fun _ hK7=>?_
 refine Wc.seq fun _ hK8=>rg ?_
 obtain ⟨y9,h10,hb⟩:=bd hb
 refine lex.cl (⟨_,_,op_call (vs:=[]) call11 rfl rfl rfl,law44_awake_ok n hC.lt h10⟩) ?_
 rintro _ w11 ⟨rfl,hK⟩
 replace hC:=hC.merge hK
 clear hK
 refine lp (.bool (!y9)) (pu_not (q:=y9) rfl)<|ln (hK8 _ _ ?_)
 refine Wc.cond (t:=(!y9)) (rfl) (fun hq12=>?_) (fun hq12=>?_)
 replace hb:=tt hq12 hb
 refine Wc.seq fun _ hK13=>rg<|lp (.bool false) (pu_assign rfl)<|ln (hK13 _ _ ?_)
 obtain rfl:=os hb
 refine Wc.ret (hKR _ _ ?_)
 refine ⟨_,res1 results8 (tV (.bool false) rfl),_,rfl,rfl,hC.sE []⟩
 replace hb:=tf hq12 hb
 refine Wc.skip (hK7 _ _ ?_)
 refine Wc.seq fun _ hK14=>?_
 refine Wc.seq fun _ hK15=>rg<|lv (.agg #[.slice d c.length f,.slice g j.length h]) (ld_blk (hC.bx (i:=0) rfl) isAgg24 sizeOf24 rfl) ?_
 obtain ⟨y16,h17,hb⟩:=bd hb
 refine lex.cl (⟨_,_,op_call (vs:=[.agg #[.slice d c.length f,.slice g j.length h]]) call12 rfl rfl rfl,law44_small_ok n hC.lt (hC.rd (i:=2) rfl) (hC.rd (i:=1) rfl) h17⟩) ?_
 rintro _ w19 ⟨rfl,hr18,hK⟩
 replace hC:=hC.merge hK
 clear hK
 refine lp (.bool (decide (y16=0))) (pu_eql (k:=.i64) (a:=y16) (b:=0) rfl rfl)<|lp (.bool (decide (y16=0))) (pu_move rfl) ?_
 rcases bS (decide (y16=0)) with hq20 | hq20
 replace hb:=tt hq20 hb
 refine gs rfl rfl (decide (y16=0)) rfl hq20<|gs rfl rfl (decide (y16=0)) rfl hq20<|gs rfl rfl (decide (y16=0)) rfl hq20<|lp (.bool true) (pu_pickT (q:=(decide (y16=0))) rfl hq20 rfl)<|lp (.bool true) (pu_move rfl)<|gs rfl rfl true rfl rfl<|gs rfl rfl true rfl rfl<|gs rfl rfl true rfl rfl<|gs rfl rfl true rfl rfl<|lp (.bool true) (pu_pickT (q:=true) rfl rfl rfl)<|ln (hK15 _ _ ?_)
 refine Wc.cond_true (rfl) ?_
 refine Wc.seq fun _ hK21=>rg<|lp (.bool true) (pu_assign rfl)<|ln (hK21 _ _ ?_)
 obtain rfl:=os hb
 refine Wc.ret (hKR _ _ ?_)
 refine ⟨_,res1 results8 (tV (.bool true) rfl),_,rfl,rfl,hC.sE []⟩
 replace hb:=tf hq20 hb
 refine gv rfl rfl (decide (y16=0)) rfl hq20 (.agg #[.slice d c.length f,.slice g j.length h]) (ld_blk (hC.bx (i:=0) rfl) isAgg24 sizeOf24 rfl) ?_
 obtain ⟨y22,h23,hb⟩:=bd hb
 refine lex.gcl (want_t rfl rfl (show _=Value.bool (decide (y16=0)) from rfl) hq20) (⟨_,_,op_call (vs:=[.agg #[.slice d c.length f,.slice g j.length h]]) call26 rfl rfl rfl,grid_Valid_ok n hC.lt (hC.rd (i:=2) rfl) (hC.rd (i:=1) rfl) h23⟩) ?_
 rintro _ w24 ⟨rfl,hK⟩
 replace hC:=hC.merge hK
 clear hK
 refine gp rfl rfl (decide (y16=0)) rfl hq20 (.bool (!y22)) (pu_not (q:=y22) rfl)<|lp (.bool (!y22)) (pu_pickF (q:=(decide (y16=0))) rfl hq20 rfl)<|lp (.bool (!y22)) (pu_move rfl) ?_
 rcases bS (!y22) with hq25 | hq25
 replace hb:=tt hq25 hb
 refine gs rfl rfl (!y22) rfl hq25<|gs rfl rfl (!y22) rfl hq25<|gs rfl rfl (!y22) rfl hq25<|gs rfl rfl (!y22) rfl hq25<|lp (.bool true) (pu_pickT (q:=(!y22)) rfl hq25 rfl)<|ln (hK15 _ _ ?_)
 refine Wc.cond_true (rfl) ?_
 refine Wc.seq fun _ hK26=>rg<|lp (.bool true) (pu_assign rfl)<|ln (hK26 _ _ ?_)
 obtain rfl:=os hb
 refine Wc.ret (hKR _ _ ?_)
 refine ⟨_,res1 results8 (tV (.bool true) rfl),_,rfl,rfl,hC.sE []⟩
 replace hb:=tf hq25 hb
 refine gp rfl rfl (!y22) rfl hq25 (.pointer (some ((⟨g4,0,none⟩:Addr).add 0))) (pu_field (sz:=1) underlying24 rfl sizeOf22 (by decide) rfl rfl)<|gv rfl rfl (!y22) rfl hq25 (.slice d c.length f) (ld_fld (hC.bx (i:=0) rfl) isAgg22 rfl rfl)<|gp rfl rfl (!y22) rfl hq25 (iv (c.length:Int)) (pu_len (A:=d) (n:=c.length) (m:=f) underlying22 rfl)<|gp rfl rfl (!y22) rfl hq25 (.bool (decide (10<(c.length:Int)))) (pu_gtr (k:=.i64) (a:=(c.length:Int)) (b:=10) rfl rfl)<|lp (.bool (decide (10<(c.length:Int)))) (pu_pickF (q:=(!y22)) rfl hq25 rfl)<|ln (hK15 _ _ ?_)
 refine Wc.cond (t:=(decide (10<(c.length:Int)))) (rfl) (fun hq27=>?_) (fun hq27=>?_)
 replace hb:=tt hq27 hb
 refine Wc.seq fun _ hK28=>rg<|lp (.bool true) (pu_assign rfl)<|ln (hK28 _ _ ?_)
 obtain rfl:=os hb
 refine Wc.ret (hKR _ _ ?_)
 refine ⟨_,res1 results8 (tV (.bool true) rfl),_,rfl,rfl,hC.sE []⟩
 replace hb:=tf hq27 hb
 refine Wc.skip (hK14 _ _ ?_)
 refine Wc.fresh fun E29 hE=>?_
 have e1:E29 1=pg g4:=cg hE 1 rfl
 have e2:E29 2=.bool false:=cg hE 2 rfl
 clear hE
 refine Wc.seq fun _ hK30=>rg<|lv (.agg #[.slice d c.length f,.slice g j.length h]) (ld_blk (hC.bx (i:=0) rfl) isAgg24 sizeOf24 e1) ?_
 obtain ⟨y31,h32,hb⟩:=bd hb
 refine lex.cl (⟨_,_,op_call (vs:=[.agg #[.slice d c.length f,.slice g j.length h]]) call31 rfl rfl rfl,grid_Rotate_ok n hC.lt (hC.rd (i:=2) rfl) (hC.rd (i:=1) rfl) h32⟩) ?_
 rintro _ w42 ⟨A33,m34,c35,A37,m38,c39,rfl,hr41,hK⟩
 replace hC:=hC.merge hK
 clear hK
 obtain ⟨rfl,hl43,hc44⟩:=(hC.ow (i:=0) rfl).sl_len
 obtain ⟨rfl,hl45,hc46⟩:=(hC.ow (i:=1) rfl).sl_len
 refine lp (.tuple #[.agg #[.slice A33 y31.1.length c35,.slice A37 y31.2.1.length c39],iv y31.2.2]) (pu_move rfl)<|lp (.agg #[.slice A33 y31.1.length c35,.slice A37 y31.2.1.length c39]) (pu_extract rfl rfl)<|lp (iv y31.2.2) (pu_extract rfl rfl)<|lex.op (hC.alloc (cs:=[.slice none 0 0,.slice none 0 0]) zeroValue24 rfl) ?_
 rintro _ w48 ⟨g47,rfl,hC,hF,-⟩
 refine lex.sk (hC.seta (i:=0) (ds:=[.slice A33 y31.1.length c35,.slice A37 y31.2.1.length c39]) rfl type24 rfl rfl rfl rfl rfl) ?_
 rintro w50 ⟨hC,hF⟩
 refine lp (iv y31.2.2) (pu_assign rfl)<|ln (hK30 _ _ ?_)
 refine Wc.seq fun _ hK51=>rg<|lv (.agg #[.slice d c.length f,.slice g j.length h]) (ld_blk (hC.bx (i:=3) rfl) isAgg24 sizeOf24 e1) ?_
 obtain ⟨y52,h53,hb⟩:=bd hb
 refine lex.cl (⟨_,_,op_call (vs:=[.agg #[.slice d c.length f,.slice g j.length h]]) call13 rfl rfl rfl,gridlink_Diagram_ok n hC.lt (hC.rd (i:=5) rfl) (hC.rd (i:=4) rfl) h53⟩) ?_
 rintro _ w64 ⟨A54,m55,c56,A58,m59,c60,rfl,hr62,hr63,hK⟩
 replace hC:=hC.merge hK
 clear hK
 obtain ⟨rfl,hl65,hc66⟩:=(hC.ow (i:=0) rfl).sl_len
 obtain ⟨rfl,hl67,hc68⟩:=(hC.ow (i:=1) rfl).sl_len
 refine lp (.tuple #[.agg #[.slice A54 y52.1.length c56,.slice A58 y52.2.1.length c60,iv y52.2.2.1],iv y52.2.2.2]) (pu_move rfl)<|lp (.agg #[.slice A54 y52.1.length c56,.slice A58 y52.2.1.length c60,iv y52.2.2.1]) (pu_extract rfl rfl)<|lp (iv y52.2.2.2) (pu_extract rfl rfl)<|lex.op (hC.alloc (cs:=[.slice none 0 0,.slice none 0 0,iv 0]) zeroValue28 rfl) ?_
 rintro _ w70 ⟨g69,rfl,hC,hF,-⟩
 refine lex.sk (hC.seta (i:=0) (ds:=[.slice A54 y52.1.length c56,.slice A58 y52.2.1.length c60,iv y52.2.2.1]) rfl type28 rfl rfl rfl rfl rfl) ?_
 rintro w72 ⟨hC,hF⟩
 refine lp (iv y52.2.2.2) (pu_assign rfl)<|ln (hK51 _ _ ?_)
 refine Wc.fresh fun E73 hE=>?_
 have e2:=cg hE 2 e2
 have e3:E73 3=pg g47:=cg hE 3 rfl
 have e4:E73 4=iv y31.2.2:=cg hE 4 rfl
 have e5:E73 5=pg g69:=cg hE 5 rfl
 have e6:E73 6=iv y52.2.2.2:=cg hE 6 rfl
 clear hE
 refine Wc.seq fun _ hK74=>rg<|lv (.agg #[.slice A33 y31.1.length c35,.slice A37 y31.2.1.length c39]) (ld_blk (hC.bx (i:=3) rfl) isAgg24 sizeOf24 e3) ?_
 obtain ⟨y75,h76,hb⟩:=bd hb
 refine lex.cl (⟨_,_,op_call (vs:=[.agg #[.slice A33 y31.1.length c35,.slice A37 y31.2.1.length c39]]) call13 rfl rfl rfl,gridlink_Diagram_ok n (hC.lentLt [.slice A33 y31.1.length c35,.slice A37 y31.2.1.length c39]) ((hC.ow (i:=4) rfl).lend (vs:=[.slice A33 y31.1.length c35,.slice A37 y31.2.1.length c39]) (by simp)) ((hC.ow (i:=5) rfl).lend (vs:=[.slice A33 y31.1.length c35,.slice A37 y31.2.1.length c39]) (by simp)) h76⟩) ?_
 rintro _ w87 ⟨A77,m78,c79,A81,m82,c83,rfl,hr85,hr86,hK⟩
 replace hC:=hC.mergeF hK rfl
 clear hK
 obtain ⟨rfl,hl88,hc89⟩:=(hC.ow (i:=0) rfl).sl_len
 obtain ⟨rfl,hl90,hc91⟩:=(hC.ow (i:=1) rfl).sl_len
 refine lp (.tuple #[.agg #[.slice A77 y75.1.length c79,.slice A81 y75.2.1.length c83,iv y75.2.2.1],iv y75.2.2.2]) (pu_move rfl)<|lp (.agg #[.slice A77 y75.1.length c79,.slice A81 y75.2.1.length c83,iv y75.2.2.1]) (pu_extract rfl rfl)<|lp (iv y75.2.2.2) (pu_extract rfl rfl)<|lex.op (hC.alloc (cs:=[.slice none 0 0,.slice none 0 0,iv 0]) zeroValue28 rfl) ?_
 rintro _ w93 ⟨g92,rfl,hC,hF,-⟩
 refine lex.sk (hC.seta (i:=0) (ds:=[.slice A77 y75.1.length c79,.slice A81 y75.2.1.length c83,iv y75.2.2.1]) rfl type28 rfl rfl rfl rfl rfl) ?_
 rintro w95 ⟨hC,hF⟩
 refine lp (iv y75.2.2.2) (pu_assign rfl)<|ln (hK74 _ _ ?_)
 refine Wc.seq fun _ hK96=>?_
 refine Wc.seq fun _ hK97=>rg<|lp _ (pu_move e4)<|lp (.bool (!(decide (y31.2.2=0)))) (pu_neq (k:=.i64) (a:=y31.2.2) (b:=0) rfl rfl)<|lp (.bool (!(decide (y31.2.2=0)))) (pu_move rfl) ?_
 rcases bS (!(decide (y31.2.2=0))) with hq98 | hq98
 replace hb:=tt hq98 hb
 refine gs rfl rfl (!(decide (y31.2.2=0))) rfl hq98<|gs rfl rfl (!(decide (y31.2.2=0))) rfl hq98<|gs rfl rfl (!(decide (y31.2.2=0))) rfl hq98<|lp (.bool true) (pu_pickT (q:=(!(decide (y31.2.2=0)))) rfl hq98 rfl)<|ln (hK97 _ _ ?_)
 refine Wc.cond_true (rfl) ?_
 refine Wc.seq fun _ hK99=>rg<|lp (.bool false) (pu_assign rfl)<|ln (hK99 _ _ ?_)
 obtain rfl:=os hb
 refine Wc.ret (hKR _ _ ?_)
 refine ⟨_,res1 results8 (tV (.bool false) rfl),_,rfl,rfl,hC.sE []⟩
 replace hb:=tf hq98 hb
 refine gp rfl rfl (!(decide (y31.2.2=0))) rfl hq98 (iv y52.2.2.2) (pu_move e6)<|gp rfl rfl (!(decide (y31.2.2=0))) rfl hq98 (iv y75.2.2.2) (pu_move rfl)<|gp rfl rfl (!(decide (y31.2.2=0))) rfl hq98 (.bool (!(decide (y52.2.2.2=y75.2.2.2)))) (pu_neq (k:=.i64) (a:=y52.2.2.2) (b:=y75.2.2.2) rfl rfl)<|lp (.bool (!(decide (y52.2.2.2=y75.2.2.2)))) (pu_pickF (q:=(!(decide (y31.2.2=0)))) rfl hq98 rfl)<|ln (hK97 _ _ ?_)
 refine Wc.cond (t:=(!(decide (y52.2.2.2=y75.2.2.2)))) (rfl) (fun hq100=>?_) (fun hq100=>?_)
 replace hb:=tt hq100 hb
 refine Wc.seq fun _ hK101=>rg<|lp (.bool false) (pu_assign rfl)<|ln (hK101 _ _ ?_)
 obtain rfl:=os hb
 refine Wc.ret (hKR _ _ ?_)
 refine ⟨_,res1 results8 (tV (.bool false) rfl),_,rfl,rfl,hC.sE []⟩
 replace hb:=tf hq100 hb
 refine Wc.skip (hK96 _ _ ?_)
 refine Wc.fresh fun E102 hE=>?_
 have e2:=cg hE 2 e2
 have e5:=cg hE 5 e5
 have e6:=cg hE 6 e6
 have e7:E102 7=pg g92:=cg hE 7 rfl
 clear hE
 refine Wc.seq fun _ hK103=>?_
 refine Wc.seq fun _ hK104=>rg<|lp _ (pu_move e6)<|lp (.bool (!(decide (y52.2.2.2=0)))) (pu_neq (k:=.i64) (a:=y52.2.2.2) (b:=0) rfl rfl)<|ln (hK104 _ _ ?_)
 refine Wc.cond (t:=(!(decide (y52.2.2.2=0)))) (rfl) (fun hq105=>?_) (fun hq105=>?_)
 replace hb:=tt hq105 hb
 refine Wc.seq fun _ hK106=>rg<|lp _ (pu_move e6)<|lp (.bool (decide (y52.2.2.2=5))) (pu_eql (k:=.i64) (a:=y52.2.2.2) (b:=5) rfl rfl)<|lp (.bool (decide (y52.2.2.2=5))) (pu_assign rfl)<|ln (hK106 _ _ ?_)
 obtain rfl:=os hb
 refine Wc.ret (hKR _ _ ?_)
 refine ⟨_,res1 results8 (tV (.bool (decide (y52.2.2.2=5))) rfl),_,rfl,rfl,hC.sE []⟩
 replace hb:=tf hq105 hb
 refine Wc.skip (hK103 _ _ ?_)
 refine Wc.seq fun _ hK107=>rg<|lv (.agg #[.slice A54 y52.1.length c56,.slice A58 y52.2.1.length c60,iv y52.2.2.1]) (ld_blk (hC.bx (i:=3) rfl) isAgg28 sizeOf28 e5) ?_
 obtain ⟨y108,h109,hb⟩:=bd hb
 refine lex.cl (⟨_,_,op_call (vs:=[.agg #[.slice A54 y52.1.length c56,.slice A58 y52.2.1.length c60,iv y52.2.2.1]]) call32 rfl rfl rfl,mirror_Mirror_ok n (hC.lentLt [.slice A54 y52.1.length c56,.slice A58 y52.2.1.length c60]) ((hC.ow (i:=4) rfl).lend (vs:=[.slice A54 y52.1.length c56,.slice A58 y52.2.1.length c60]) (by simp)) ((hC.ow (i:=5) rfl).lend (vs:=[.slice A54 y52.1.length c56,.slice A58 y52.2.1.length c60]) (by simp)) hr62 h109⟩) ?_
 rintro _ w120 ⟨A110,m111,c112,A114,m115,c116,rfl,hr118,hr119,hK⟩
 replace hC:=hC.mergeF hK rfl
 clear hK
 obtain ⟨rfl,hl121,hc122⟩:=(hC.ow (i:=0) rfl).sl_len
 obtain ⟨rfl,hl123,hc124⟩:=(hC.ow (i:=1) rfl).sl_len
 refine lp (.tuple #[.agg #[.slice A110 y108.1.length c112,.slice A114 y108.2.1.length c116,iv y108.2.2.1],iv y108.2.2.2]) (pu_move rfl)<|lp (.agg #[.slice A110 y108.1.length c112,.slice A114 y108.2.1.length c116,iv y108.2.2.1]) (pu_extract rfl rfl)<|lp (iv y108.2.2.2) (pu_extract rfl rfl)<|lex.op (hC.alloc (cs:=[.slice none 0 0,.slice none 0 0,iv 0]) zeroValue28 rfl) ?_
 rintro _ w126 ⟨g125,rfl,hC,hF,-⟩
 refine lex.sk (hC.seta (i:=0) (ds:=[.slice A110 y108.1.length c112,.slice A114 y108.2.1.length c116,iv y108.2.2.1]) rfl type28 rfl rfl rfl rfl rfl) ?_
 rintro w128 ⟨hC,hF⟩
 refine lp (iv y108.2.2.2) (pu_assign rfl)<|ln (hK107 _ _ ?_)
 refine Wc.seq fun _ hK129=>rg<|lp (iv y108.2.2.2) (pu_move rfl)<|lp (.bool (decide (y108.2.2.2=0))) (pu_eql (k:=.i64) (a:=y108.2.2.2) (b:=0) rfl rfl)<|lp (.bool (decide (y108.2.2.2=0))) (pu_move rfl) ?_
 rcases bS (decide (y108.2.2.2=0)) with hq130 | hq130
 replace hb:=tt hq130 hb
 refine gv rfl rfl (decide (y108.2.2.2=0)) rfl hq130 (.agg #[.slice A77 y75.1.length c79,.slice A81 y75.2.1.length c83,iv y75.2.2.1]) (ld_blk (hC.bx (i:=3) rfl) isAgg28 sizeOf28 e7)<|gv rfl rfl (decide (y108.2.2.2=0)) rfl hq130 (.agg #[.slice A110 y108.1.length c112,.slice A114 y108.2.1.length c116,iv y108.2.2.1]) (ld_blk (hC.bx (i:=0) rfl) isAgg28 sizeOf28 rfl) ?_
 obtain ⟨y131,h132,hb⟩:=bd hb
 refine lex.gcl (want_t rfl rfl (show _=Value.bool (decide (y108.2.2.2=0)) from rfl) hq130) (⟨_,_,op_call (vs:=[.agg #[.slice A77 y75.1.length c79,.slice A81 y75.2.1.length c83,iv y75.2.2.1],.agg #[.slice A110 y108.1.length c112,.slice A114 y108.2.1.length c116,iv y108.2.2.1]]) call33 rfl rfl rfl,canon_Same_ok n (hC.lentLt [.slice A110 y108.1.length c112,.slice A114 y108.2.1.length c116,.slice A77 y75.1.length c79,.slice A81 y75.2.1.length c83]) ((hC.ow (i:=4) rfl).lend (vs:=[.slice A110 y108.1.length c112,.slice A114 y108.2.1.length c116,.slice A77 y75.1.length c79,.slice A81 y75.2.1.length c83]) (by simp)) ((hC.ow (i:=5) rfl).lend (vs:=[.slice A110 y108.1.length c112,.slice A114 y108.2.1.length c116,.slice A77 y75.1.length c79,.slice A81 y75.2.1.length c83]) (by simp)) hr85 ((hC.ow (i:=1) rfl).lend (vs:=[.slice A110 y108.1.length c112,.slice A114 y108.2.1.length c116,.slice A77 y75.1.length c79,.slice A81 y75.2.1.length c83]) (by simp)) ((hC.ow (i:=2) rfl).lend (vs:=[.slice A110 y108.1.length c112,.slice A114 y108.2.1.length c116,.slice A77 y75.1.length c79,.slice A81 y75.2.1.length c83]) (by simp)) hr118 h132⟩) ?_
 rintro _ w133 ⟨rfl,hK⟩
 replace hC:=hC.mergeF hK rfl
 clear hK
 refine lp (.bool y131) (pu_pickT (q:=(decide (y108.2.2.2=0))) rfl hq130 rfl)<|lp (.bool y131) (pu_assign rfl)<|ln (hK129 _ _ ?_)
 obtain rfl:=os hb
 refine Wc.ret (hKR _ _ ?_)
 refine ⟨_,res1 results8 (tV (.bool y131) rfl),_,rfl,rfl,hC.sE []⟩
 replace hb:=tf hq130 hb
 refine gs rfl rfl (decide (y108.2.2.2=0)) rfl hq130<|gs rfl rfl (decide (y108.2.2.2=0)) rfl hq130<|gs rfl rfl (decide (y108.2.2.2=0)) rfl hq130<|lp (.bool false) (pu_pickF (q:=(decide (y108.2.2.2=0))) rfl hq130 rfl)<|lp (.bool false) (pu_assign rfl)<|ln (hK129 _ _ ?_)
 obtain rfl:=os hb
 refine Wc.ret (hKR _ _ ?_)
 refine ⟨_,res1 results8 (tV (.bool false) rfl),_,rfl,rfl,hC.sE []⟩
end Go.Proofs.Yticemffhlapnnaa
