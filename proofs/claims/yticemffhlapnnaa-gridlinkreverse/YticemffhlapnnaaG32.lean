import Derived.Test.YticemffhlapnnaaS
import Derived.Test.YticemffhlapnnaaG0
import Derived.Test.YticemffhlapnnaaG3
import Derived.Test.YticemffhlapnnaaG6
import Derived.Test.YticemffhlapnnaaG7
import Derived.Test.YticemffhlapnnaaG14
import Derived.Test.YticemffhlapnnaaG17
import Derived.Test.YticemffhlapnnaaG28
import Derived.Test.YticemffhlapnnaaG30
import Derived.Test.YticemffhlapnnaaG31
set_option linter.unusedVariables false
set_option linter.unusedSimpArgs false
namespace Go.Proofs.Yticemffhlapnnaa
open Ev Try
set_option maxRecDepth 100000
set_option maxHeartbeats 4000000
theorem law44_GridlinkReverse_ok (n:Nat) {w:World} {O0:List Nat} (hO: ∀k∈O0,k<w.heap.size) {d:Option Addr} {p f:Nat} {c:List Int} (s:Rep O0 w (.sl si) [.slice d p f] c) {g:Option Addr} {u h:Nat} {j:List Int} (x:Rep O0 w (.sl si) [.slice g u h] j) {r:Bool} (hb:F.law44_GridlinkReverse n c j=some r):
    Calls prog 9 #[.agg #[.slice d p f,.slice g u h]] w fun e w'=> ∃v,e=.returned v∧v=.bool r∧Cx (fun _=>False) O0 w w' []:=by
 unfold F.law44_GridlinkReverse at hb
 have hC:=Cx.start hO
 replace hC:=hC.arg rfl s
 replace hC:=hC.arg rfl x
 clear hO
 obtain ⟨rfl,y,z⟩:=s.sl_len
 obtain ⟨rfl,B,C⟩:=x.sl_len
 refine calls_of_Wc func9 rfl (by rw [ntmps9]; exact nb rfl) fun KR hKR=>?_
 refine Wc.seq fun _ hK3=>rg<|lex.op (hC.box (cs:=[.slice d c.length f,.slice g j.length h]) rfl rfl) ?_
 rintro _ w5 ⟨g4,rfl,hC,hF,-⟩
 refine lp (.bool false) (pu_assign rfl)<|ln (hK3 _ _ ?_)
 refine Wc.seq fun _ hK7=>?_
 refine Wc.seq fun _ hK8=>rg ?_
 obtain ⟨y9,h10,hb⟩:=bd hb
 refine lex.cl (⟨_,_,op_call (vs:=[]) call11 rfl rfl rfl,law44_awake_ok n hC.lt h10⟩) ?_
 rintro _ w11 ⟨rfl,hK⟩
 replace hC:=hC.merge hK
 clear hK
 refine lp (.bool (!y9)) (pu_not (q:=y9) rfl)<|ln (hK8 _ _ ?_)
 refine Wc.cond (t:=(!y9)) (rfl) (fun hq12=>?_) (fun hq12=>?_)
 replace hb:=tt hq12 hb
 refine Wc.seq fun _ hK13=>rg<|lp (.bool false) (pu_assign rfl)<|ln (hK13 _ _ ?_)
 obtain rfl:=os hb
 refine Wc.ret (hKR _ _ ?_)
 refine ⟨_,res1 results9 (tV (.bool false) rfl),_,rfl,rfl,hC.sE []⟩
 replace hb:=tf hq12 hb
 refine Wc.skip (hK7 _ _ ?_)
 refine Wc.seq fun _ hK14=>?_
 refine Wc.seq fun _ hK15=>rg<|lv (.agg #[.slice d c.length f,.slice g j.length h]) (ld_blk (hC.bx (i:=0) rfl) isAgg24 sizeOf24 rfl) ?_
 obtain ⟨y16,h17,hb⟩:=bd hb
 refine lex.cl (⟨_,_,op_call (vs:=[.agg #[.slice d c.length f,.slice g j.length h]]) call12 rfl rfl rfl,law44_small_ok n hC.lt (hC.rd (i:=2) rfl) (hC.rd (i:=1) rfl) h17⟩) ?_
 rintro _ w19 ⟨rfl,hr18,hK⟩
 replace hC:=hC.merge hK
 clear hK
 refine lp (.bool (decide (y16=0))) (pu_eql (k:=.i64) (a:=y16) (b:=0) rfl rfl)<|lp (.bool (decide (y16=0))) (pu_move rfl) ?_
 rcases bS (decide (y16=0)) with hq20 | hq20
 replace hb:=tt hq20 hb
 refine gs rfl rfl (decide (y16=0)) rfl hq20<|gs rfl rfl (decide (y16=0)) rfl hq20<|gs rfl rfl (decide (y16=0)) rfl hq20<|lp (.bool true) (pu_pickT (q:=(decide (y16=0))) rfl hq20 rfl)<|lp (.bool true) (pu_move rfl)<|gs rfl rfl true rfl rfl<|gs rfl rfl true rfl rfl<|gs rfl rfl true rfl rfl<|gs rfl rfl true rfl rfl<|lp (.bool true) (pu_pickT (q:=true) rfl rfl rfl)<|ln (hK15 _ _ ?_)
 refine Wc.cond_true (rfl) ?_
 refine Wc.seq fun _ hK21=>rg<|lp (.bool true) (pu_assign rfl)<|ln (hK21 _ _ ?_)
 obtain rfl:=os hb
 refine Wc.ret (hKR _ _ ?_)
 refine ⟨_,res1 results9 (tV (.bool true) rfl),_,rfl,rfl,hC.sE []⟩
 replace hb:=tf hq20 hb
 refine gv rfl rfl (decide (y16=0)) rfl hq20 (.agg #[.slice d c.length f,.slice g j.length h]) (ld_blk (hC.bx (i:=0) rfl) isAgg24 sizeOf24 rfl) ?_
 obtain ⟨y22,h23,hb⟩:=bd hb
 refine lex.gcl (want_t rfl rfl (show _=Value.bool (decide (y16=0)) from rfl) hq20) (⟨_,_,op_call (vs:=[.agg #[.slice d c.length f,.slice g j.length h]]) call26 rfl rfl rfl,grid_Valid_ok n hC.lt (hC.rd (i:=2) rfl) (hC.rd (i:=1) rfl) h23⟩) ?_
 rintro _ w24 ⟨rfl,hK⟩
 replace hC:=hC.merge hK
 clear hK
 refine gp rfl rfl (decide (y16=0)) rfl hq20 (.bool (!y22)) (pu_not (q:=y22) rfl)<|lp (.bool (!y22)) (pu_pickF (q:=(decide (y16=0))) rfl hq20 rfl)<|lp (.bool (!y22)) (pu_move rfl) ?_
 rcases bS (!y22) with hq25 | hq25
 replace hb:=tt hq25 hb
 refine gs rfl rfl (!y22) rfl hq25<|gs rfl rfl (!y22) rfl hq25<|gs rfl rfl (!y22) rfl hq25<|gs rfl rfl (!y22) rfl hq25<|lp (.bool true) (pu_pickT (q:=(!y22)) rfl hq25 rfl)<|ln (hK15 _ _ ?_)
 refine Wc.cond_true (rfl) ?_
 refine Wc.seq fun _ hK26=>rg<|lp (.bool true) (pu_assign rfl)<|ln (hK26 _ _ ?_)
 obtain rfl:=os hb
 refine Wc.ret (hKR _ _ ?_)
 refine ⟨_,res1 results9 (tV (.bool true) rfl),_,rfl,rfl,hC.sE []⟩
 replace hb:=tf hq25 hb
 refine gp rfl rfl (!y22) rfl hq25 (.pointer (some ((⟨g4,0,none⟩:Addr).add 0))) (pu_field (sz:=1) underlying24 rfl sizeOf22 (by decide) rfl rfl)<|gv rfl rfl (!y22) rfl hq25 (.slice d c.length f) (ld_fld (hC.bx (i:=0) rfl) isAgg22 rfl rfl)<|gp rfl rfl (!y22) rfl hq25 (iv (c.length:Int)) (pu_len (A:=d) (n:=c.length) (m:=f) underlying22 rfl)<|gp rfl rfl (!y22) rfl hq25 (.bool (decide (10<(c.length:Int)))) (pu_gtr (k:=.i64) (a:=(c.length:Int)) (b:=10) rfl rfl)<|lp (.bool (decide (10<(c.length:Int)))) (pu_pickF (q:=(!y22)) rfl hq25 rfl)<|ln (hK15 _ _ ?_)
 refine Wc.cond (t:=(decide (10<(c.length:Int)))) (rfl) (fun hq27=>?_) (fun hq27=>?_)
 replace hb:=tt hq27 hb
 refine Wc.seq fun _ hK28=>rg<|lp (.bool true) (pu_assign rfl)<|ln (hK28 _ _ ?_)
 obtain rfl:=os hb
 refine Wc.ret (hKR _ _ ?_)
 refine ⟨_,res1 results9 (tV (.bool true) rfl),_,rfl,rfl,hC.sE []⟩
 replace hb:=tf hq27 hb
 refine Wc.skip (hK14 _ _ ?_)
 refine Wc.fresh fun E29 hE=>?_
 have e1:E29 1=pg g4:=cg hE 1 rfl
 have e2:E29 2=.bool false:=cg hE 2 rfl
 clear hE
 refine Wc.seq fun _ hK30=>rg<|lp (.pointer (some ((⟨g4,0,none⟩:Addr).add 0))) (pu_field (sz:=1) underlying24 rfl sizeOf22 (by decide) rfl e1)<|lv (.slice d c.length f) (ld_fld (hC.bx (i:=0) rfl) isAgg22 rfl rfl)<|lp (iv (c.length:Int)) (pu_len (A:=d) (n:=c.length) (m:=f) underlying22 rfl)<|lp (iv (c.length:Int)) (pu_assign rfl)<|ln (hK30 _ _ ?_)
 refine Wc.seq fun _ hK31=>rg<|lv (.agg #[.slice d c.length f,.slice g j.length h]) (ld_blk (hC.bx (i:=0) rfl) isAgg24 sizeOf24 e1) ?_
 obtain ⟨y32,h33,hb⟩:=bd hb
 refine lex.cl (⟨_,_,op_call (vs:=[.agg #[.slice d c.length f,.slice g j.length h]]) call23 rfl rfl rfl,gridlink_Reverse_ok n hC.lt (hC.rd (i:=2) rfl) (hC.rd (i:=1) rfl) h33⟩) ?_
 rintro _ w43 ⟨A34,m35,c36,A38,m39,c40,rfl,hr42,hK⟩
 replace hC:=hC.merge hK
 clear hK
 obtain ⟨rfl,hl44,hc45⟩:=(hC.ow (i:=0) rfl).sl_len
 obtain ⟨rfl,hl46,hc47⟩:=(hC.ow (i:=1) rfl).sl_len
 refine lp (.tuple #[.agg #[.slice A34 y32.1.length c36,.slice A38 y32.2.1.length c40],iv y32.2.2]) (pu_move rfl)<|lp (.agg #[.slice A34 y32.1.length c36,.slice A38 y32.2.1.length c40]) (pu_extract rfl rfl)<|lp (iv y32.2.2) (pu_extract rfl rfl)<|lex.op (hC.alloc (cs:=[.slice none 0 0,.slice none 0 0]) zeroValue24 rfl) ?_
 rintro _ w49 ⟨g48,rfl,hC,hF,-⟩
 refine lex.sk (hC.seta (i:=0) (ds:=[.slice A34 y32.1.length c36,.slice A38 y32.2.1.length c40]) rfl type24 rfl rfl rfl rfl rfl) ?_
 rintro w51 ⟨hC,hF⟩
 refine lp (iv y32.2.2) (pu_assign rfl)<|ln (hK31 _ _ ?_)
 refine Wc.fresh fun E52 hE=>?_
 have e1:=cg hE 1 e1
 have e2:=cg hE 2 e2
 have e3:E52 3=iv (c.length:Int):=cg hE 3 rfl
 have e4:E52 4=pg g48:=cg hE 4 rfl
 have e5:E52 5=iv y32.2.2:=cg hE 5 rfl
 clear hE
 refine Wc.seq fun _ hK53=>rg<|lv (.agg #[.slice d c.length f,.slice g j.length h]) (ld_blk (hC.bx (i:=3) rfl) isAgg24 sizeOf24 e1) ?_
 obtain ⟨y54,h55,hb⟩:=bd hb
 refine lex.cl (⟨_,_,op_call (vs:=[.agg #[.slice d c.length f,.slice g j.length h]]) call24 rfl rfl rfl,gridlink_Reflect_ok n hC.lt (hC.rd (i:=5) rfl) (hC.rd (i:=4) rfl) h55⟩) ?_
 rintro _ w65 ⟨A56,m57,c58,A60,m61,c62,rfl,hr64,hK⟩
 replace hC:=hC.merge hK
 clear hK
 obtain ⟨rfl,hl66,hc67⟩:=(hC.ow (i:=0) rfl).sl_len
 obtain ⟨rfl,hl68,hc69⟩:=(hC.ow (i:=1) rfl).sl_len
 refine lp (.tuple #[.agg #[.slice A56 y54.1.length c58,.slice A60 y54.2.1.length c62],iv y54.2.2]) (pu_move rfl)<|lp (.agg #[.slice A56 y54.1.length c58,.slice A60 y54.2.1.length c62]) (pu_extract rfl rfl)<|lp (iv y54.2.2) (pu_extract rfl rfl)<|lex.op (hC.alloc (cs:=[.slice none 0 0,.slice none 0 0]) zeroValue24 rfl) ?_
 rintro _ w71 ⟨g70,rfl,hC,hF,-⟩
 refine lex.sk (hC.seta (i:=0) (ds:=[.slice A56 y54.1.length c58,.slice A60 y54.2.1.length c62]) rfl type24 rfl rfl rfl rfl rfl) ?_
 rintro w73 ⟨hC,hF⟩
 refine lp (iv y54.2.2) (pu_assign rfl)<|ln (hK53 _ _ ?_)
 refine Wc.seq fun _ hK74=>?_
 refine Wc.seq fun _ hK75=>rg<|lp _ (pu_move e5)<|lp (.bool (!(decide (y32.2.2=0)))) (pu_neq (k:=.i64) (a:=y32.2.2) (b:=0) rfl rfl)<|lp (.bool (!(decide (y32.2.2=0)))) (pu_move rfl) ?_
 rcases bS (!(decide (y32.2.2=0))) with hq76 | hq76
 replace hb:=tt hq76 hb
 refine gs rfl rfl (!(decide (y32.2.2=0))) rfl hq76<|gs rfl rfl (!(decide (y32.2.2=0))) rfl hq76<|lp (.bool true) (pu_pickT (q:=(!(decide (y32.2.2=0)))) rfl hq76 rfl)<|lp (.bool true) (pu_move rfl)<|gs rfl rfl true rfl rfl<|gs rfl rfl true rfl rfl<|gs rfl rfl true rfl rfl<|gs rfl rfl true rfl rfl<|gs rfl rfl true rfl rfl<|gs rfl rfl true rfl rfl<|gs rfl rfl true rfl rfl<|gs rfl rfl true rfl rfl<|lp (.bool true) (pu_pickT (q:=true) rfl rfl rfl)<|lp (.bool true) (pu_move rfl)<|gs rfl rfl true rfl rfl<|gs rfl rfl true rfl rfl<|gs rfl rfl true rfl rfl<|gs rfl rfl true rfl rfl<|gs rfl rfl true rfl rfl<|lp (.bool true) (pu_pickT (q:=true) rfl rfl rfl)<|lp (.bool true) (pu_move rfl)<|gs rfl rfl true rfl rfl<|gs rfl rfl true rfl rfl<|gs rfl rfl true rfl rfl<|gs rfl rfl true rfl rfl<|gs rfl rfl true rfl rfl<|lp (.bool true) (pu_pickT (q:=true) rfl rfl rfl)<|ln (hK75 _ _ ?_)
 refine Wc.cond_true (rfl) ?_
 refine Wc.seq fun _ hK77=>rg<|lp (.bool false) (pu_assign rfl)<|ln (hK77 _ _ ?_)
 obtain rfl:=os hb
 refine Wc.ret (hKR _ _ ?_)
 refine ⟨_,res1 results9 (tV (.bool false) rfl),_,rfl,rfl,hC.sE []⟩
 replace hb:=tf hq76 hb
 refine gp rfl rfl (!(decide (y32.2.2=0))) rfl hq76 (iv y54.2.2) (pu_move rfl)<|gp rfl rfl (!(decide (y32.2.2=0))) rfl hq76 (.bool (!(decide (y54.2.2=0)))) (pu_neq (k:=.i64) (a:=y54.2.2) (b:=0) rfl rfl)<|lp (.bool (!(decide (y54.2.2=0)))) (pu_pickF (q:=(!(decide (y32.2.2=0)))) rfl hq76 rfl)<|lp (.bool (!(decide (y54.2.2=0)))) (pu_move rfl) ?_
 rcases bS (!(decide (y54.2.2=0))) with hq78 | hq78
 replace hb:=tt hq78 hb
 refine gs rfl rfl (!(decide (y54.2.2=0))) rfl hq78<|gs rfl rfl (!(decide (y54.2.2=0))) rfl hq78<|gs rfl rfl (!(decide (y54.2.2=0))) rfl hq78<|gs rfl rfl (!(decide (y54.2.2=0))) rfl hq78<|gs rfl rfl (!(decide (y54.2.2=0))) rfl hq78<|gs rfl rfl (!(decide (y54.2.2=0))) rfl hq78<|gs rfl rfl (!(decide (y54.2.2=0))) rfl hq78<|gs rfl rfl (!(decide (y54.2.2=0))) rfl hq78<|lp (.bool true) (pu_pickT (q:=(!(decide (y54.2.2=0)))) rfl hq78 rfl)<|lp (.bool true) (pu_move rfl)<|gs rfl rfl true rfl rfl<|gs rfl rfl true rfl rfl<|gs rfl rfl true rfl rfl<|gs rfl rfl true rfl rfl<|gs rfl rfl true rfl rfl<|lp (.bool true) (pu_pickT (q:=true) rfl rfl rfl)<|lp (.bool true) (pu_move rfl)<|gs rfl rfl true rfl rfl<|gs rfl rfl true rfl rfl<|gs rfl rfl true rfl rfl<|gs rfl rfl true rfl rfl<|gs rfl rfl true rfl rfl<|lp (.bool true) (pu_pickT (q:=true) rfl rfl rfl)<|ln (hK75 _ _ ?_)
 refine Wc.cond_true (rfl) ?_
 refine Wc.seq fun _ hK79=>rg<|lp (.bool false) (pu_assign rfl)<|ln (hK79 _ _ ?_)
 obtain rfl:=os hb
 refine Wc.ret (hKR _ _ ?_)
 refine ⟨_,res1 results9 (tV (.bool false) rfl),_,rfl,rfl,hC.sE []⟩
 replace hb:=tf hq78 hb
 refine gv rfl rfl (!(decide (y54.2.2=0))) rfl hq78 (.agg #[.slice A34 y32.1.length c36,.slice A38 y32.2.1.length c40]) (ld_blk (hC.bx (i:=3) rfl) isAgg24 sizeOf24 e4)<|gp rfl rfl (!(decide (y54.2.2=0))) rfl hq78 (.pointer (some ((⟨g4,0,none⟩:Addr).add 1))) (pu_field (sz:=1) underlying24 rfl sizeOf22 (by decide) rfl e1)<|gv rfl rfl (!(decide (y54.2.2=0))) rfl hq78 (.slice g j.length h) (ld_fld (hC.bx (i:=6) rfl) isAgg22 rfl rfl)<|gp rfl rfl (!(decide (y54.2.2=0))) rfl hq78 (.pointer (some ((⟨g4,0,none⟩:Addr).add 0))) (pu_field (sz:=1) underlying24 rfl sizeOf22 (by decide) rfl e1)<|gv rfl rfl (!(decide (y54.2.2=0))) rfl hq78 (.slice d c.length f) (ld_fld (hC.bx (i:=6) rfl) isAgg22 rfl rfl)<|gp rfl rfl (!(decide (y54.2.2=0))) rfl hq78 (.agg #[.slice g j.length h,.slice d c.length f]) (pu_builds (places:=[(0,1),(1,1)]) (pv:=[(0,.slice g j.length h),(1,.slice d c.length f)]) type24 underlying24 rfl (mp_cons type22 (mp_cons type22 mp_nil rfl rfl) rfl rfl) rfl (by simp [Instr.fill,Value.cells])) ?_
 obtain ⟨y80,h81,hb⟩:=bd hb
 refine lex.gcl (want_t rfl rfl (show _=Value.bool (!(decide (y54.2.2=0))) from rfl) hq78) (⟨_,_,op_call (vs:=[.agg #[.slice A34 y32.1.length c36,.slice A38 y32.2.1.length c40],.agg #[.slice g j.length h,.slice d c.length f]]) call20 rfl rfl rfl,ref42_Same_ok n (hC.lentLt [.slice A34 y32.1.length c36,.slice A38 y32.2.1.length c40]) ((hC.ow (i:=4) rfl).lend (vs:=[.slice A34 y32.1.length c36,.slice A38 y32.2.1.length c40]) (by simp)) ((hC.ow (i:=5) rfl).lend (vs:=[.slice A34 y32.1.length c36,.slice A38 y32.2.1.length c40]) (by simp)) ((hC.rd (i:=7) rfl).lent [.slice A34 y32.1.length c36,.slice A38 y32.2.1.length c40]) ((hC.rd (i:=8) rfl).lent [.slice A34 y32.1.length c36,.slice A38 y32.2.1.length c40]) h81⟩) ?_
 rintro _ w82 ⟨rfl,hK⟩
 replace hC:=hC.mergeF hK rfl
 clear hK
 refine gp rfl rfl (!(decide (y54.2.2=0))) rfl hq78 (.bool (!y80)) (pu_not (q:=y80) rfl)<|lp (.bool (!y80)) (pu_pickF (q:=(!(decide (y54.2.2=0)))) rfl hq78 rfl)<|lp (.bool (!y80)) (pu_move rfl) ?_
 rcases bS (!y80) with hq83 | hq83
 replace hb:=tt hq83 hb
 refine gs rfl rfl (!y80) rfl hq83<|gs rfl rfl (!y80) rfl hq83<|gs rfl rfl (!y80) rfl hq83<|gs rfl rfl (!y80) rfl hq83<|gs rfl rfl (!y80) rfl hq83<|lp (.bool true) (pu_pickT (q:=(!y80)) rfl hq83 rfl)<|lp (.bool true) (pu_move rfl)<|gs rfl rfl true rfl rfl<|gs rfl rfl true rfl rfl<|gs rfl rfl true rfl rfl<|gs rfl rfl true rfl rfl<|gs rfl rfl true rfl rfl<|lp (.bool true) (pu_pickT (q:=true) rfl rfl rfl)<|ln (hK75 _ _ ?_)
 refine Wc.cond_true (rfl) ?_
 refine Wc.seq fun _ hK84=>rg<|lp (.bool false) (pu_assign rfl)<|ln (hK84 _ _ ?_)
 obtain rfl:=os hb
 refine Wc.ret (hKR _ _ ?_)
 refine ⟨_,res1 results9 (tV (.bool false) rfl),_,rfl,rfl,hC.sE []⟩
 replace hb:=tf hq83 hb
 refine gp rfl rfl (!y80) rfl hq83 (.pointer (some ((⟨g70,0,none⟩:Addr).add 0))) (pu_field (sz:=1) underlying24 rfl sizeOf22 (by decide) rfl rfl)<|gv rfl rfl (!y80) rfl hq83 (.slice A56 y54.1.length c58) (ld_fld (hC.bx (i:=0) rfl) isAgg22 rfl rfl)<|gp rfl rfl (!y80) rfl hq83 (iv (y54.1.length:Int)) (pu_len (A:=A56) (n:=y54.1.length) (m:=c58) underlying22 rfl)<|gp rfl rfl (!y80) rfl hq83 (iv (c.length:Int)) (pu_move e3)<|gp rfl rfl (!y80) rfl hq83 (.bool (!(decide ((y54.1.length:Int)=(c.length:Int))))) (pu_neq (k:=.i64) (a:=(y54.1.length:Int)) (b:=(c.length:Int)) rfl rfl)<|lp (.bool (!(decide ((y54.1.length:Int)=(c.length:Int))))) (pu_pickF (q:=(!y80)) rfl hq83 rfl)<|lp (.bool (!(decide ((y54.1.length:Int)=(c.length:Int))))) (pu_move rfl) ?_
 rcases bS (!(decide ((y54.1.length:Int)=(c.length:Int)))) with hq85 | hq85
 replace hb:=tt hq85 hb
 refine gs rfl rfl (!(decide ((y54.1.length:Int)=(c.length:Int)))) rfl hq85<|gs rfl rfl (!(decide ((y54.1.length:Int)=(c.length:Int)))) rfl hq85<|gs rfl rfl (!(decide ((y54.1.length:Int)=(c.length:Int)))) rfl hq85<|gs rfl rfl (!(decide ((y54.1.length:Int)=(c.length:Int)))) rfl hq85<|gs rfl rfl (!(decide ((y54.1.length:Int)=(c.length:Int)))) rfl hq85<|lp (.bool true) (pu_pickT (q:=(!(decide ((y54.1.length:Int)=(c.length:Int))))) rfl hq85 rfl)<|ln (hK75 _ _ ?_)
 refine Wc.cond_true (rfl) ?_
 refine Wc.seq fun _ hK86=>rg<|lp (.bool false) (pu_assign rfl)<|ln (hK86 _ _ ?_)
 obtain rfl:=os hb
 refine Wc.ret (hKR _ _ ?_)
 refine ⟨_,res1 results9 (tV (.bool false) rfl),_,rfl,rfl,hC.sE []⟩
 replace hb:=tf hq85 hb
 refine gp rfl rfl (!(decide ((y54.1.length:Int)=(c.length:Int)))) rfl hq85 (.pointer (some ((⟨g70,0,none⟩:Addr).add 1))) (pu_field (sz:=1) underlying24 rfl sizeOf22 (by decide) rfl rfl)<|gv rfl rfl (!(decide ((y54.1.length:Int)=(c.length:Int)))) rfl hq85 (.slice A60 y54.2.1.length c62) (ld_fld (hC.bx (i:=0) rfl) isAgg22 rfl rfl)<|gp rfl rfl (!(decide ((y54.1.length:Int)=(c.length:Int)))) rfl hq85 (iv (y54.2.1.length:Int)) (pu_len (A:=A60) (n:=y54.2.1.length) (m:=c62) underlying22 rfl)<|gp rfl rfl (!(decide ((y54.1.length:Int)=(c.length:Int)))) rfl hq85 (iv (c.length:Int)) (pu_move e3)<|gp rfl rfl (!(decide ((y54.1.length:Int)=(c.length:Int)))) rfl hq85 (.bool (!(decide ((y54.2.1.length:Int)=(c.length:Int))))) (pu_neq (k:=.i64) (a:=(y54.2.1.length:Int)) (b:=(c.length:Int)) rfl rfl)<|lp (.bool (!(decide ((y54.2.1.length:Int)=(c.length:Int))))) (pu_pickF (q:=(!(decide ((y54.1.length:Int)=(c.length:Int))))) rfl hq85 rfl)<|ln (hK75 _ _ ?_)
 refine Wc.cond (t:=(!(decide ((y54.2.1.length:Int)=(c.length:Int))))) (rfl) (fun hq87=>?_) (fun hq87=>?_)
 replace hb:=tt hq87 hb
 refine Wc.seq fun _ hK88=>rg<|lp (.bool false) (pu_assign rfl)<|ln (hK88 _ _ ?_)
 obtain rfl:=os hb
 refine Wc.ret (hKR _ _ ?_)
 refine ⟨_,res1 results9 (tV (.bool false) rfl),_,rfl,rfl,hC.sE []⟩
 replace hb:=tf hq87 hb
 refine Wc.skip (hK74 _ _ ?_)
 refine Wc.fresh fun E89 hE=>?_
 have e1:=cg hE 1 e1
 have e2:=cg hE 2 e2
 have e3:=cg hE 3 e3
 have e4:=cg hE 4 e4
 have e6:E89 6=pg g70:=cg hE 6 rfl
 clear hE
 refine Wc.seq fun _ hK90=>?_
 refine Wc.seq fun _ hK91=>rg<|lp _ (pu_move e3)<|lp (iv 0) (pu_move rfl)<|ln (hK91 _ _ ?_)
 obtain ⟨o92,hl0,hb⟩:=bd hb
 refine Wc.cut (fun E wv=> ∃(l:Int),E 1=pg g4∧E 2=.bool false∧E 4=pg g48∧E 6=pg g70∧I64 l∧Cx (fun _=>False) O0 w wv [.box g4 24 [.slice d c.length f,.slice g j.length h],.ro (.sl si) [.slice d c.length f] c,.ro (.sl si) [.slice g j.length h] j,.box g48 24 [.slice A34 y32.1.length c36,.slice A38 y32.2.1.length c40],.own 3 si (.slice A34 y32.1.length c36) y32.1,.own 3 si (.slice A38 y32.2.1.length c40) y32.2.1,.box g70 24 [.slice A56 y54.1.length c58,.slice A60 y54.2.1.length c62],.own 3 si (.slice A56 y54.1.length c58) y54.1,.own 3 si (.slice A60 y54.2.1.length c62) y54.2.1]∧((F.gridlink_Diagram n c j).bind fun y152=>cond (!(decide (y152.2.2.2=0))) (some (decide (y152.2.2.2=5))) ((F.gridlink_Diagram n y32.1 y32.2.1).bind fun y178=>(F.gridlink_Diagram n y54.1 y54.2.1).bind fun y201=>(F.mirror_Reverse n y152.1 y152.2.1 y152.2.2.1).bind fun y223=>(F.mirror_Reflect n y152.1 y152.2.1 y152.2.2.1).bind fun y246=>cond (decide (y178.2.2.2=0)) (cond (decide (y201.2.2.2=0)) (cond (decide (y223.2.2.2=0)) (cond (decide (y246.2.2.2=0)) ((F.canon_Same n y178.1 y178.2.1 y178.2.2.1 y223.1 y223.2.1 y223.2.2.1).bind fun y272=>cond y272 ((F.canon_Same n y201.1 y201.2.1 y201.2.2.1 y246.1 y246.2.1 y246.2.2.1).bind fun y276=>some y276) (some false)) (some false)) (some false)) (some false)) (some false)):Option (Bool))=some r) (fun _ hK93=>?_) ?_
 refine Wc.block ?_
 refine Wc.loop (fun m E wv=> ∃(l:Int),E 1=pg g4∧E 2=.bool false∧E 3=iv (c.length:Int)∧E 4=pg g48∧E 6=pg g70∧E 78=iv (c.length:Int)∧E 79=iv l∧I64 l∧Cx (fun _=>False) O0 w wv [.box g4 24 [.slice d c.length f,.slice g j.length h],.ro (.sl si) [.slice d c.length f] c,.ro (.sl si) [.slice g j.length h] j,.box g48 24 [.slice A34 y32.1.length c36,.slice A38 y32.2.1.length c40],.own 3 si (.slice A34 y32.1.length c36) y32.1,.own 3 si (.slice A38 y32.2.1.length c40) y32.2.1,.box g70 24 [.slice A56 y54.1.length c58,.slice A60 y54.2.1.length c62],.own 3 si (.slice A56 y54.1.length c58) y54.1,.own 3 si (.slice A60 y54.2.1.length c62) y54.2.1]∧loopN m (F.law44_GridlinkReverse_b0 n c j y54) l=some o92) n ⟨0,e1,e2,e3,e4,e6,rfl,rfl,(show I64 0 from by unfold I64; omega),hC.sE [6,8,7,3,4,5,0,1,2],hl0⟩ ?_
 have hbK0:=hb
 clear hb hC hl0
 rintro m95 E97 w96 ⟨l,e1,e2,e3,e4,e6,e78,e79,o,hC,hl0⟩ K94 hK94
 obtain ⟨m95',o98,rfl,hb,hl0⟩:=loopN_some hl0
 unfold F.law44_GridlinkReverse_b0 at hb
 refine Wc.seq fun _ hK99=>rg<|lp _ (pu_lss e79 e78)<|ln (hK99 _ _ ?_)
 refine Wc.seq fun _ hK100=>?_
 refine Wc.cond (t:=(decide (l<(c.length:Int)))) (rfl) (fun hq101=>?_) (fun hq101=>?_)
 replace hb:=tt hq101 hb
 refine Wc.skip (hK100 _ _ ?_)
 refine Wc.seq fun _ hK102=>?_
 refine Wc.block<|Wc.seq fun _ hK103=>rg<|lp _ (pu_move e79)<|lp (iv l) (pu_assign rfl)<|ln (hK103 _ _ ?_)
 refine Wc.seq fun _ hK104=>?_
 refine Wc.regionMix [] (frm [] ([]:List Fact) ([]:List Fact)) (fun _=>rfl) mixed (by decide+kernel) (by decide+kernel) fun w106 hw105=>?_
 replace hC:=hC.step (Fr.of_drew hw105)
 have hM:=Fr.refl (fun k=>k∈blocks ([]:List Fact)) w106
 clear hw105
 have hS:=hC
 refine mp (.pointer (some ((⟨g70,0,none⟩:Addr).add 0))) (pu_field (sz:=1) underlying24 rfl sizeOf22 (by decide) rfl e6)<|mixE.load hM (v:=.slice A56 y54.1.length c58) (fun _ hF=>ld_fld (hS.bx2 (i:=6) rfl [] (by decide) hF) isAgg22 rfl rfl)<|mp (iv l) (pu_move rfl) ?_
 obtain ⟨x107,h108,hb⟩:=bd hb
 obtain ⟨ad109,cs110,hA,ho113,hc111,hr112⟩:=hS.elo2 (i:=7) rfl (get_some h108).2 [] (by decide)
 subst hA
 refine mp (.pointer (some (ad109.add (l.toNat*1)))) (pu_index (a:=l) underlying22 sizeOf3 rfl rfl (get_some h108).1) ?_
 obtain ⟨rfl,hr112'⟩:=hr112
 refine mixE.load hM (v:=iv x107) (fun _ hF=>ld_one isAgg3 rfl (hF.cell (hc111 0 _ rfl) (off1 ho113)))<|mp (.pointer (some ((⟨g4,0,none⟩:Addr).add 0))) (pu_field (sz:=1) underlying24 rfl sizeOf22 (by decide) rfl e1)<|mixE.load hM (v:=.slice d c.length f) (fun _ hF=>ld_fld (hS.bx2 (i:=0) rfl [] (by decide) hF) isAgg22 rfl rfl)<|mp (iv (c.length:Int)) (pu_move e3) ?_
 obtain ⟨z114,h115,hb⟩:=bd hb
 refine mp (iv z114) (pu_subc (a:=(c.length:Int)) (b:=1) rfl rfl h115)<|mp (iv l) (pu_move rfl) ?_
 obtain ⟨z116,h117,hb⟩:=bd hb
 refine mp (iv z116) (pu_subc (a:=z114) (b:=l) rfl rfl h117) ?_
 obtain ⟨x118,h119,hb⟩:=bd hb
 obtain ⟨ad120,cs121,hA,ho124,hc122,hr123⟩:=hS.elr2 (i:=1) rfl (get_some h119).2 []
 subst hA
 refine mp (.pointer (some (ad120.add (z116.toNat*1)))) (pu_index (a:=z116) underlying22 sizeOf3 rfl rfl (get_some h119).1) ?_
 obtain ⟨rfl,hr123'⟩:=hr123
 refine mixE.load hM (v:=iv x118) (fun _ hF=>ld_one isAgg3 rfl (hF.cell (hc122 0 _ rfl) (off1 ho124)))<|mp (.bool (!(decide (x107=x118)))) (pu_neq (k:=.i64) (a:=x107) (b:=x118) rfl rfl)<|mp (.bool (!(decide (x107=x118)))) (pu_move rfl) ?_
 rcases bS (!(decide (x107=x118))) with hq125 | hq125
 replace hb:=tt hq125 hb
 refine mixE.gskip (want_f rfl rfl (show _=Value.bool (!(decide (x107=x118))) from rfl) hq125)<|mixE.gskip (want_f rfl rfl (show _=Value.bool (!(decide (x107=x118))) from rfl) hq125)<|mixE.gskip (want_f rfl rfl (show _=Value.bool (!(decide (x107=x118))) from rfl) hq125)<|mixE.gskip (want_f rfl rfl (show _=Value.bool (!(decide (x107=x118))) from rfl) hq125)<|mixE.gskip (want_f rfl rfl (show _=Value.bool (!(decide (x107=x118))) from rfl) hq125)<|mixE.gskip (want_f rfl rfl (show _=Value.bool (!(decide (x107=x118))) from rfl) hq125)<|mixE.gskip (want_f rfl rfl (show _=Value.bool (!(decide (x107=x118))) from rfl) hq125)<|mixE.gskip (want_f rfl rfl (show _=Value.bool (!(decide (x107=x118))) from rfl) hq125)<|mixE.gskip (want_f rfl rfl (show _=Value.bool (!(decide (x107=x118))) from rfl) hq125)<|mixE.gskip (want_f rfl rfl (show _=Value.bool (!(decide (x107=x118))) from rfl) hq125)<|mixE.gskip (want_f rfl rfl (show _=Value.bool (!(decide (x107=x118))) from rfl) hq125)<|mixE.gskip (want_f rfl rfl (show _=Value.bool (!(decide (x107=x118))) from rfl) hq125)<|mixE.gskip (want_f rfl rfl (show _=Value.bool (!(decide (x107=x118))) from rfl) hq125)<|mixE.gskip (want_f rfl rfl (show _=Value.bool (!(decide (x107=x118))) from rfl) hq125)<|mp (.bool true) (pu_pickT (q:=(!(decide (x107=x118)))) rfl hq125 rfl)<|mixE.nil ?_
 clear hS hM
 refine hK104 _ _ ?_
 refine Wc.cond_true (rfl) ?_
 refine Wc.seq fun _ hK126=>rg<|lp (.bool false) (pu_assign rfl)<|ln (hK126 _ _ ?_)
 obtain rfl:=os hb
 obtain rfl:=(lX hl0).symm
 replace hb:=hbK0
 obtain rfl:=os hb
 refine Wc.ret (hKR _ _ ?_)
 refine ⟨_,res1 results9 (tV (.bool false) rfl),_,rfl,rfl,hC.sE []⟩
 replace hb:=tf hq125 hb
 refine mixE.gpure rfl (want_t rfl rfl (show _=Value.bool (!(decide (x107=x118))) from rfl) hq125) (v:=.pointer (some ((⟨g70,0,none⟩:Addr).add 1))) (pu_field (sz:=1) underlying24 rfl sizeOf22 (by decide) rfl e6)<|mixE.gload rfl (want_t rfl rfl (show _=Value.bool (!(decide (x107=x118))) from rfl) hq125) hM (v:=.slice A60 y54.2.1.length c62) (fun _ hF=>ld_fld (hS.bx2 (i:=6) rfl [] (by decide) hF) isAgg22 rfl rfl)<|mixE.gpure rfl (want_t rfl rfl (show _=Value.bool (!(decide (x107=x118))) from rfl) hq125) (v:=iv l) (pu_move rfl) ?_
 obtain ⟨x127,h128,hb⟩:=bd hb
 obtain ⟨ad129,cs130,hA,ho133,hc131,hr132⟩:=hS.elo2 (i:=8) rfl (get_some h128).2 [] (by decide)
 subst hA
 refine mixE.gpure rfl (want_t rfl rfl (show _=Value.bool (!(decide (x107=x118))) from rfl) hq125) (v:=.pointer (some (ad129.add (l.toNat*1)))) (pu_index (a:=l) underlying22 sizeOf3 rfl rfl (get_some h128).1) ?_
 obtain ⟨rfl,hr132'⟩:=hr132
 refine mixE.gload rfl (want_t rfl rfl (show _=Value.bool (!(decide (x107=x118))) from rfl) hq125) hM (v:=iv x127) (fun _ hF=>ld_one isAgg3 rfl (hF.cell (hc131 0 _ rfl) (off1 ho133)))<|mixE.gpure rfl (want_t rfl rfl (show _=Value.bool (!(decide (x107=x118))) from rfl) hq125) (v:=.pointer (some ((⟨g4,0,none⟩:Addr).add 1))) (pu_field (sz:=1) underlying24 rfl sizeOf22 (by decide) rfl e1)<|mixE.gload rfl (want_t rfl rfl (show _=Value.bool (!(decide (x107=x118))) from rfl) hq125) hM (v:=.slice g j.length h) (fun _ hF=>ld_fld (hS.bx2 (i:=0) rfl [] (by decide) hF) isAgg22 rfl rfl)<|mixE.gpure rfl (want_t rfl rfl (show _=Value.bool (!(decide (x107=x118))) from rfl) hq125) (v:=iv (c.length:Int)) (pu_move e3) ?_
 obtain ⟨z134,h135,hb⟩:=bd hb
 refine mixE.gpure rfl (want_t rfl rfl (show _=Value.bool (!(decide (x107=x118))) from rfl) hq125) (v:=iv z134) (pu_subc (a:=(c.length:Int)) (b:=1) rfl rfl h135)<|mixE.gpure rfl (want_t rfl rfl (show _=Value.bool (!(decide (x107=x118))) from rfl) hq125) (v:=iv l) (pu_move rfl) ?_
 obtain ⟨z136,h137,hb⟩:=bd hb
 refine mixE.gpure rfl (want_t rfl rfl (show _=Value.bool (!(decide (x107=x118))) from rfl) hq125) (v:=iv z136) (pu_subc (a:=z134) (b:=l) rfl rfl h137) ?_
 obtain ⟨x138,h139,hb⟩:=bd hb
 obtain ⟨ad140,cs141,hA,ho144,hc142,hr143⟩:=hS.elr2 (i:=2) rfl (get_some h139).2 []
 subst hA
 refine mixE.gpure rfl (want_t rfl rfl (show _=Value.bool (!(decide (x107=x118))) from rfl) hq125) (v:=.pointer (some (ad140.add (z136.toNat*1)))) (pu_index (a:=z136) underlying22 sizeOf3 rfl rfl (get_some h139).1) ?_
 obtain ⟨rfl,hr143'⟩:=hr143
 refine mixE.gload rfl (want_t rfl rfl (show _=Value.bool (!(decide (x107=x118))) from rfl) hq125) hM (v:=iv x138) (fun _ hF=>ld_one isAgg3 rfl (hF.cell (hc142 0 _ rfl) (off1 ho144)))<|mixE.gpure rfl (want_t rfl rfl (show _=Value.bool (!(decide (x107=x118))) from rfl) hq125) (v:=.bool (!(decide (x127=x138)))) (pu_neq (k:=.i64) (a:=x127) (b:=x138) rfl rfl)<|mp (.bool (!(decide (x127=x138)))) (pu_pickF (q:=(!(decide (x107=x118)))) rfl hq125 rfl)<|mixE.nil ?_
 clear hS hM
 refine hK104 _ _<|Wc.cond (t:=(!(decide (x127=x138)))) (rfl) (fun hq145=>?_) (fun hq145=>?_)
 replace hb:=tt hq145 hb
 refine Wc.seq fun _ hK146=>rg<|lp (.bool false) (pu_assign rfl)<|ln (hK146 _ _ ?_)
 obtain rfl:=os hb
 obtain rfl:=(lX hl0).symm
 replace hb:=hbK0
 obtain rfl:=os hb
 refine Wc.ret (hKR _ _ ?_)
 refine ⟨_,res1 results9 (tV (.bool false) rfl),_,rfl,rfl,hC.sE []⟩
 replace hb:=tf hq145 hb
 refine Wc.skip (hK102 _ _ ?_)
 refine rg ?_
 obtain ⟨z147,h148,hb⟩:=bd hb
 refine lp (iv z147) (pu_addc (a:=l) (b:=1) e79 rfl h148)<|lp (iv z147) (pu_move rfl)<|ln ?_
 obtain rfl:=os hb
 exact hK94 m95' _ _ (Nat.lt_succ_self _) ⟨z147,e1,e2,e3,e4,e6,e78,rfl,(chk_rng h148),hC.sE [0,1,2,3,4,5,6,7,8],lN hl0⟩
 replace hb:=tf hq101 hb
 refine Wc.exit rfl ?_
 obtain rfl:=os hb
 obtain rfl:=(lX hl0).symm
 exact hK93 _ _ ⟨l,e1,e2,e4,e6,o,hC.sE [0,1,2,3,4,5,6,7,8],hbK0⟩
 clear hb hC hl0
 rintro E150 w149 ⟨l,e1,e2,e4,e6,o,hC,hb⟩
 refine hK90 _ _<|Wc.seq fun _ hK151=>rg<|lv (.agg #[.slice d c.length f,.slice g j.length h]) (ld_blk (hC.bx (i:=0) rfl) isAgg24 sizeOf24 e1) ?_
 obtain ⟨y152,h153,hb⟩:=bd hb
 refine lex.cl (⟨_,_,op_call (vs:=[.agg #[.slice d c.length f,.slice g j.length h]]) call13 rfl rfl rfl,gridlink_Diagram_ok n hC.lt (hC.rd (i:=1) rfl) (hC.rd (i:=2) rfl) h153⟩) ?_
 rintro _ w164 ⟨A154,m155,c156,A158,m159,c160,rfl,hr162,hr163,hK⟩
 replace hC:=hC.merge hK
 clear hK
 obtain ⟨rfl,hl165,hc166⟩:=(hC.ow (i:=0) rfl).sl_len
 obtain ⟨rfl,hl167,hc168⟩:=(hC.ow (i:=1) rfl).sl_len
 refine lp (.tuple #[.agg #[.slice A154 y152.1.length c156,.slice A158 y152.2.1.length c160,iv y152.2.2.1],iv y152.2.2.2]) (pu_move rfl)<|lp (.agg #[.slice A154 y152.1.length c156,.slice A158 y152.2.1.length c160,iv y152.2.2.1]) (pu_extract rfl rfl)<|lp (iv y152.2.2.2) (pu_extract rfl rfl)<|lex.op (hC.alloc (cs:=[.slice none 0 0,.slice none 0 0,iv 0]) zeroValue28 rfl) ?_
 rintro _ w170 ⟨g169,rfl,hC,hF,-⟩
 refine lex.sk (hC.seta (i:=0) (ds:=[.slice A154 y152.1.length c156,.slice A158 y152.2.1.length c160,iv y152.2.2.1]) rfl type28 rfl rfl rfl rfl rfl) ?_
 rintro w172 ⟨hC,hF⟩
 refine lp (iv y152.2.2.2) (pu_assign rfl)<|ln (hK151 _ _ ?_)
 refine Wc.seq fun _ hK173=>?_
 refine Wc.seq fun _ hK174=>rg<|lp (iv y152.2.2.2) (pu_move rfl)<|lp (.bool (!(decide (y152.2.2.2=0)))) (pu_neq (k:=.i64) (a:=y152.2.2.2) (b:=0) rfl rfl)<|ln (hK174 _ _ ?_)
 refine Wc.cond (t:=(!(decide (y152.2.2.2=0)))) (rfl) (fun hq175=>?_) (fun hq175=>?_)
 replace hb:=tt hq175 hb
 refine Wc.seq fun _ hK176=>rg<|lp (iv y152.2.2.2) (pu_move rfl)<|lp (.bool (decide (y152.2.2.2=5))) (pu_eql (k:=.i64) (a:=y152.2.2.2) (b:=5) rfl rfl)<|lp (.bool (decide (y152.2.2.2=5))) (pu_assign rfl)<|ln (hK176 _ _ ?_)
 obtain rfl:=os hb
 refine Wc.ret (hKR _ _ ?_)
 refine ⟨_,res1 results9 (tV (.bool (decide (y152.2.2.2=5))) rfl),_,rfl,rfl,hC.sE []⟩
 replace hb:=tf hq175 hb
 refine Wc.skip (hK173 _ _ ?_)
 refine Wc.seq fun _ hK177=>rg<|lv (.agg #[.slice A34 y32.1.length c36,.slice A38 y32.2.1.length c40]) (ld_blk (hC.bx (i:=6) rfl) isAgg24 sizeOf24 e4) ?_
 obtain ⟨y178,h179,hb⟩:=bd hb
 refine lex.cl (⟨_,_,op_call (vs:=[.agg #[.slice A34 y32.1.length c36,.slice A38 y32.2.1.length c40]]) call13 rfl rfl rfl,gridlink_Diagram_ok n (hC.lentLt [.slice A34 y32.1.length c36,.slice A38 y32.2.1.length c40]) ((hC.ow (i:=7) rfl).lend (vs:=[.slice A34 y32.1.length c36,.slice A38 y32.2.1.length c40]) (by simp)) ((hC.ow (i:=8) rfl).lend (vs:=[.slice A34 y32.1.length c36,.slice A38 y32.2.1.length c40]) (by simp)) h179⟩) ?_
 rintro _ w190 ⟨A180,m181,c182,A184,m185,c186,rfl,hr188,hr189,hK⟩
 replace hC:=hC.mergeF hK rfl
 clear hK
 obtain ⟨rfl,hl191,hc192⟩:=(hC.ow (i:=0) rfl).sl_len
 obtain ⟨rfl,hl193,hc194⟩:=(hC.ow (i:=1) rfl).sl_len
 refine lp (.tuple #[.agg #[.slice A180 y178.1.length c182,.slice A184 y178.2.1.length c186,iv y178.2.2.1],iv y178.2.2.2]) (pu_move rfl)<|lp (.agg #[.slice A180 y178.1.length c182,.slice A184 y178.2.1.length c186,iv y178.2.2.1]) (pu_extract rfl rfl)<|lp (iv y178.2.2.2) (pu_extract rfl rfl)<|lex.op (hC.alloc (cs:=[.slice none 0 0,.slice none 0 0,iv 0]) zeroValue28 rfl) ?_
 rintro _ w196 ⟨g195,rfl,hC,hF,-⟩
 refine lex.sk (hC.seta (i:=0) (ds:=[.slice A180 y178.1.length c182,.slice A184 y178.2.1.length c186,iv y178.2.2.1]) rfl type28 rfl rfl rfl rfl rfl) ?_
 rintro w198 ⟨hC,hF⟩
 refine lp (iv y178.2.2.2) (pu_assign rfl)<|ln (hK177 _ _ ?_)
 refine Wc.fresh fun E199 hE=>?_
 have e2:=cg hE 2 e2
 have e6:=cg hE 6 e6
 have e9:E199 9=pg g169:=cg hE 9 rfl
 have e11:E199 11=pg g195:=cg hE 11 rfl
 have e12:E199 12=iv y178.2.2.2:=cg hE 12 rfl
 clear hE
 refine Wc.seq fun _ hK200=>rg<|lv (.agg #[.slice A56 y54.1.length c58,.slice A60 y54.2.1.length c62]) (ld_blk (hC.bx (i:=12) rfl) isAgg24 sizeOf24 e6) ?_
 obtain ⟨y201,h202,hb⟩:=bd hb
 refine lex.cl (⟨_,_,op_call (vs:=[.agg #[.slice A56 y54.1.length c58,.slice A60 y54.2.1.length c62]]) call13 rfl rfl rfl,gridlink_Diagram_ok n (hC.lentLt [.slice A56 y54.1.length c58,.slice A60 y54.2.1.length c62]) ((hC.ow (i:=13) rfl).lend (vs:=[.slice A56 y54.1.length c58,.slice A60 y54.2.1.length c62]) (by simp)) ((hC.ow (i:=14) rfl).lend (vs:=[.slice A56 y54.1.length c58,.slice A60 y54.2.1.length c62]) (by simp)) h202⟩) ?_
 rintro _ w213 ⟨A203,m204,c205,A207,m208,c209,rfl,hr211,hr212,hK⟩
 replace hC:=hC.mergeF hK rfl
 clear hK
 obtain ⟨rfl,hl214,hc215⟩:=(hC.ow (i:=0) rfl).sl_len
 obtain ⟨rfl,hl216,hc217⟩:=(hC.ow (i:=1) rfl).sl_len
 refine lp (.tuple #[.agg #[.slice A203 y201.1.length c205,.slice A207 y201.2.1.length c209,iv y201.2.2.1],iv y201.2.2.2]) (pu_move rfl)<|lp (.agg #[.slice A203 y201.1.length c205,.slice A207 y201.2.1.length c209,iv y201.2.2.1]) (pu_extract rfl rfl)<|lp (iv y201.2.2.2) (pu_extract rfl rfl)<|lex.op (hC.alloc (cs:=[.slice none 0 0,.slice none 0 0,iv 0]) zeroValue28 rfl) ?_
 rintro _ w219 ⟨g218,rfl,hC,hF,-⟩
 refine lex.sk (hC.seta (i:=0) (ds:=[.slice A203 y201.1.length c205,.slice A207 y201.2.1.length c209,iv y201.2.2.1]) rfl type28 rfl rfl rfl rfl rfl) ?_
 rintro w221 ⟨hC,hF⟩
 refine lp (iv y201.2.2.2) (pu_assign rfl)<|ln (hK200 _ _ ?_)
 refine Wc.seq fun _ hK222=>rg<|lv (.agg #[.slice A154 y152.1.length c156,.slice A158 y152.2.1.length c160,iv y152.2.2.1]) (ld_blk (hC.bx (i:=6) rfl) isAgg28 sizeOf28 e9) ?_
 obtain ⟨y223,h224,hb⟩:=bd hb
 refine lex.cl (⟨_,_,op_call (vs:=[.agg #[.slice A154 y152.1.length c156,.slice A158 y152.2.1.length c160,iv y152.2.2.1]]) call34 rfl rfl rfl,mirror_Reverse_ok n (hC.lentLt [.slice A154 y152.1.length c156,.slice A158 y152.2.1.length c160]) ((hC.ow (i:=7) rfl).lend (vs:=[.slice A154 y152.1.length c156,.slice A158 y152.2.1.length c160]) (by simp)) ((hC.ow (i:=8) rfl).lend (vs:=[.slice A154 y152.1.length c156,.slice A158 y152.2.1.length c160]) (by simp)) hr162 h224⟩) ?_
 rintro _ w235 ⟨A225,m226,c227,A229,m230,c231,rfl,hr233,hr234,hK⟩
 replace hC:=hC.mergeF hK rfl
 clear hK
 obtain ⟨rfl,hl236,hc237⟩:=(hC.ow (i:=0) rfl).sl_len
 obtain ⟨rfl,hl238,hc239⟩:=(hC.ow (i:=1) rfl).sl_len
 refine lp (.tuple #[.agg #[.slice A225 y223.1.length c227,.slice A229 y223.2.1.length c231,iv y223.2.2.1],iv y223.2.2.2]) (pu_move rfl)<|lp (.agg #[.slice A225 y223.1.length c227,.slice A229 y223.2.1.length c231,iv y223.2.2.1]) (pu_extract rfl rfl)<|lp (iv y223.2.2.2) (pu_extract rfl rfl)<|lex.op (hC.alloc (cs:=[.slice none 0 0,.slice none 0 0,iv 0]) zeroValue28 rfl) ?_
 rintro _ w241 ⟨g240,rfl,hC,hF,-⟩
 refine lex.sk (hC.seta (i:=0) (ds:=[.slice A225 y223.1.length c227,.slice A229 y223.2.1.length c231,iv y223.2.2.1]) rfl type28 rfl rfl rfl rfl rfl) ?_
 rintro w243 ⟨hC,hF⟩
 refine lp (iv y223.2.2.2) (pu_assign rfl)<|ln (hK222 _ _ ?_)
 refine Wc.fresh fun E244 hE=>?_
 have e2:=cg hE 2 e2
 have e9:=cg hE 9 e9
 have e11:=cg hE 11 e11
 have e12:=cg hE 12 e12
 have e13:E244 13=pg g218:=cg hE 13 rfl
 have e14:E244 14=iv y201.2.2.2:=cg hE 14 rfl
 have e15:E244 15=pg g240:=cg hE 15 rfl
 have e16:E244 16=iv y223.2.2.2:=cg hE 16 rfl
 clear hE
 refine Wc.seq fun _ hK245=>rg<|lv (.agg #[.slice A154 y152.1.length c156,.slice A158 y152.2.1.length c160,iv y152.2.2.1]) (ld_blk (hC.bx (i:=9) rfl) isAgg28 sizeOf28 e9) ?_
 obtain ⟨y246,h247,hb⟩:=bd hb
 refine lex.cl (⟨_,_,op_call (vs:=[.agg #[.slice A154 y152.1.length c156,.slice A158 y152.2.1.length c160,iv y152.2.2.1]]) call35 rfl rfl rfl,mirror_Reflect_ok n (hC.lentLt [.slice A154 y152.1.length c156,.slice A158 y152.2.1.length c160]) ((hC.ow (i:=10) rfl).lend (vs:=[.slice A154 y152.1.length c156,.slice A158 y152.2.1.length c160]) (by simp)) ((hC.ow (i:=11) rfl).lend (vs:=[.slice A154 y152.1.length c156,.slice A158 y152.2.1.length c160]) (by simp)) hr162 h247⟩) ?_
 rintro _ w258 ⟨A248,m249,c250,A252,m253,c254,rfl,hr256,hr257,hK⟩
 replace hC:=hC.mergeF hK rfl
 clear hK
 obtain ⟨rfl,hl259,hc260⟩:=(hC.ow (i:=0) rfl).sl_len
 obtain ⟨rfl,hl261,hc262⟩:=(hC.ow (i:=1) rfl).sl_len
 refine lp (.tuple #[.agg #[.slice A248 y246.1.length c250,.slice A252 y246.2.1.length c254,iv y246.2.2.1],iv y246.2.2.2]) (pu_move rfl)<|lp (.agg #[.slice A248 y246.1.length c250,.slice A252 y246.2.1.length c254,iv y246.2.2.1]) (pu_extract rfl rfl)<|lp (iv y246.2.2.2) (pu_extract rfl rfl)<|lex.op (hC.alloc (cs:=[.slice none 0 0,.slice none 0 0,iv 0]) zeroValue28 rfl) ?_
 rintro _ w264 ⟨g263,rfl,hC,hF,-⟩
 refine lex.sk (hC.seta (i:=0) (ds:=[.slice A248 y246.1.length c250,.slice A252 y246.2.1.length c254,iv y246.2.2.1]) rfl type28 rfl rfl rfl rfl rfl) ?_
 rintro w266 ⟨hC,hF⟩
 refine lp (iv y246.2.2.2) (pu_assign rfl)<|ln (hK245 _ _ ?_)
 refine Wc.seq fun _ hK267=>rg<|lp _ (pu_move e12)<|lp (.bool (decide (y178.2.2.2=0))) (pu_eql (k:=.i64) (a:=y178.2.2.2) (b:=0) rfl rfl)<|lp (.bool (decide (y178.2.2.2=0))) (pu_move rfl) ?_
 rcases bS (decide (y178.2.2.2=0)) with hq268 | hq268
 replace hb:=tt hq268 hb
 refine gp rfl rfl (decide (y178.2.2.2=0)) rfl hq268 (iv y201.2.2.2) (pu_move e14)<|gp rfl rfl (decide (y178.2.2.2=0)) rfl hq268 (.bool (decide (y201.2.2.2=0))) (pu_eql (k:=.i64) (a:=y201.2.2.2) (b:=0) rfl rfl)<|lp (.bool (decide (y201.2.2.2=0))) (pu_pickT (q:=(decide (y178.2.2.2=0))) rfl hq268 rfl)<|lp (.bool (decide (y201.2.2.2=0))) (pu_move rfl) ?_
 rcases bS (decide (y201.2.2.2=0)) with hq269 | hq269
 replace hb:=tt hq269 hb
 refine gp rfl rfl (decide (y201.2.2.2=0)) rfl hq269 (iv y223.2.2.2) (pu_move e16)<|gp rfl rfl (decide (y201.2.2.2=0)) rfl hq269 (.bool (decide (y223.2.2.2=0))) (pu_eql (k:=.i64) (a:=y223.2.2.2) (b:=0) rfl rfl)<|lp (.bool (decide (y223.2.2.2=0))) (pu_pickT (q:=(decide (y201.2.2.2=0))) rfl hq269 rfl)<|lp (.bool (decide (y223.2.2.2=0))) (pu_move rfl) ?_
 rcases bS (decide (y223.2.2.2=0)) with hq270 | hq270
 replace hb:=tt hq270 hb
 refine gp rfl rfl (decide (y223.2.2.2=0)) rfl hq270 (iv y246.2.2.2) (pu_move rfl)<|gp rfl rfl (decide (y223.2.2.2=0)) rfl hq270 (.bool (decide (y246.2.2.2=0))) (pu_eql (k:=.i64) (a:=y246.2.2.2) (b:=0) rfl rfl)<|lp (.bool (decide (y246.2.2.2=0))) (pu_pickT (q:=(decide (y223.2.2.2=0))) rfl hq270 rfl)<|lp (.bool (decide (y246.2.2.2=0))) (pu_move rfl) ?_
 rcases bS (decide (y246.2.2.2=0)) with hq271 | hq271
 replace hb:=tt hq271 hb
 refine gv rfl rfl (decide (y246.2.2.2=0)) rfl hq271 (.agg #[.slice A180 y178.1.length c182,.slice A184 y178.2.1.length c186,iv y178.2.2.1]) (ld_blk (hC.bx (i:=9) rfl) isAgg28 sizeOf28 e11)<|gv rfl rfl (decide (y246.2.2.2=0)) rfl hq271 (.agg #[.slice A225 y223.1.length c227,.slice A229 y223.2.1.length c231,iv y223.2.2.1]) (ld_blk (hC.bx (i:=3) rfl) isAgg28 sizeOf28 e15) ?_
 obtain ⟨y272,h273,hb⟩:=bd hb
 refine lex.gcl (want_t rfl rfl (show _=Value.bool (decide (y246.2.2.2=0)) from rfl) hq271) (⟨_,_,op_call (vs:=[.agg #[.slice A180 y178.1.length c182,.slice A184 y178.2.1.length c186,iv y178.2.2.1],.agg #[.slice A225 y223.1.length c227,.slice A229 y223.2.1.length c231,iv y223.2.2.1]]) call33 rfl rfl rfl,canon_Same_ok n (hC.lentLt [.slice A180 y178.1.length c182,.slice A184 y178.2.1.length c186,.slice A225 y223.1.length c227,.slice A229 y223.2.1.length c231]) ((hC.ow (i:=10) rfl).lend (vs:=[.slice A180 y178.1.length c182,.slice A184 y178.2.1.length c186,.slice A225 y223.1.length c227,.slice A229 y223.2.1.length c231]) (by simp)) ((hC.ow (i:=11) rfl).lend (vs:=[.slice A180 y178.1.length c182,.slice A184 y178.2.1.length c186,.slice A225 y223.1.length c227,.slice A229 y223.2.1.length c231]) (by simp)) hr188 ((hC.ow (i:=4) rfl).lend (vs:=[.slice A180 y178.1.length c182,.slice A184 y178.2.1.length c186,.slice A225 y223.1.length c227,.slice A229 y223.2.1.length c231]) (by simp)) ((hC.ow (i:=5) rfl).lend (vs:=[.slice A180 y178.1.length c182,.slice A184 y178.2.1.length c186,.slice A225 y223.1.length c227,.slice A229 y223.2.1.length c231]) (by simp)) hr233 h273⟩) ?_
 rintro _ w274 ⟨rfl,hK⟩
 replace hC:=hC.mergeF hK rfl
 clear hK
 refine lp (.bool y272) (pu_pickT (q:=(decide (y246.2.2.2=0))) rfl hq271 rfl)<|lp (.bool y272) (pu_move rfl) ?_
 rcases bS y272 with hq275 | hq275
 replace hb:=tt hq275 hb
 refine gv rfl rfl y272 rfl hq275 (.agg #[.slice A203 y201.1.length c205,.slice A207 y201.2.1.length c209,iv y201.2.2.1]) (ld_blk (hC.bx (i:=6) rfl) isAgg28 sizeOf28 e13)<|gv rfl rfl y272 rfl hq275 (.agg #[.slice A248 y246.1.length c250,.slice A252 y246.2.1.length c254,iv y246.2.2.1]) (ld_blk (hC.bx (i:=0) rfl) isAgg28 sizeOf28 rfl) ?_
 obtain ⟨y276,h277,hb⟩:=bd hb
 refine lex.gcl (want_t rfl rfl (show _=Value.bool y272 from rfl) hq275) (⟨_,_,op_call (vs:=[.agg #[.slice A203 y201.1.length c205,.slice A207 y201.2.1.length c209,iv y201.2.2.1],.agg #[.slice A248 y246.1.length c250,.slice A252 y246.2.1.length c254,iv y246.2.2.1]]) call33 rfl rfl rfl,canon_Same_ok n (hC.lentLt [.slice A203 y201.1.length c205,.slice A207 y201.2.1.length c209,.slice A248 y246.1.length c250,.slice A252 y246.2.1.length c254]) ((hC.ow (i:=7) rfl).lend (vs:=[.slice A203 y201.1.length c205,.slice A207 y201.2.1.length c209,.slice A248 y246.1.length c250,.slice A252 y246.2.1.length c254]) (by simp)) ((hC.ow (i:=8) rfl).lend (vs:=[.slice A203 y201.1.length c205,.slice A207 y201.2.1.length c209,.slice A248 y246.1.length c250,.slice A252 y246.2.1.length c254]) (by simp)) hr211 ((hC.ow (i:=1) rfl).lend (vs:=[.slice A203 y201.1.length c205,.slice A207 y201.2.1.length c209,.slice A248 y246.1.length c250,.slice A252 y246.2.1.length c254]) (by simp)) ((hC.ow (i:=2) rfl).lend (vs:=[.slice A203 y201.1.length c205,.slice A207 y201.2.1.length c209,.slice A248 y246.1.length c250,.slice A252 y246.2.1.length c254]) (by simp)) hr256 h277⟩) ?_
 rintro _ w278 ⟨rfl,hK⟩
 replace hC:=hC.mergeF hK rfl
 clear hK
 refine lp (.bool y276) (pu_pickT (q:=y272) rfl hq275 rfl)<|lp (.bool y276) (pu_assign rfl)<|ln (hK267 _ _ ?_)
 obtain rfl:=os hb
 refine Wc.ret (hKR _ _ ?_)
 refine ⟨_,res1 results9 (tV (.bool y276) rfl),_,rfl,rfl,hC.sE []⟩
 replace hb:=tf hq275 hb
 refine gs rfl rfl y272 rfl hq275<|gs rfl rfl y272 rfl hq275<|gs rfl rfl y272 rfl hq275<|lp (.bool false) (pu_pickF (q:=y272) rfl hq275 rfl)<|lp (.bool false) (pu_assign rfl)<|ln (hK267 _ _ ?_)
 obtain rfl:=os hb
 refine Wc.ret (hKR _ _ ?_)
 refine ⟨_,res1 results9 (tV (.bool false) rfl),_,rfl,rfl,hC.sE []⟩
 replace hb:=tf hq271 hb
 refine gs rfl rfl (decide (y246.2.2.2=0)) rfl hq271<|gs rfl rfl (decide (y246.2.2.2=0)) rfl hq271<|gs rfl rfl (decide (y246.2.2.2=0)) rfl hq271<|lp (.bool false) (pu_pickF (q:=(decide (y246.2.2.2=0))) rfl hq271 rfl)<|lp (.bool false) (pu_move rfl)<|gs rfl rfl false rfl rfl<|gs rfl rfl false rfl rfl<|gs rfl rfl false rfl rfl<|lp (.bool false) (pu_pickF (q:=false) rfl rfl rfl)<|lp (.bool false) (pu_assign rfl)<|ln (hK267 _ _ ?_)
 obtain rfl:=os hb
 refine Wc.ret (hKR _ _ ?_)
 refine ⟨_,res1 results9 (tV (.bool false) rfl),_,rfl,rfl,hC.sE []⟩
 replace hb:=tf hq270 hb
 refine gs rfl rfl (decide (y223.2.2.2=0)) rfl hq270<|gs rfl rfl (decide (y223.2.2.2=0)) rfl hq270<|lp (.bool false) (pu_pickF (q:=(decide (y223.2.2.2=0))) rfl hq270 rfl)<|lp (.bool false) (pu_move rfl)<|gs rfl rfl false rfl rfl<|gs rfl rfl false rfl rfl<|gs rfl rfl false rfl rfl<|lp (.bool false) (pu_pickF (q:=false) rfl rfl rfl)<|lp (.bool false) (pu_move rfl)<|gs rfl rfl false rfl rfl<|gs rfl rfl false rfl rfl<|gs rfl rfl false rfl rfl<|lp (.bool false) (pu_pickF (q:=false) rfl rfl rfl)<|lp (.bool false) (pu_assign rfl)<|ln (hK267 _ _ ?_)
 obtain rfl:=os hb
 refine Wc.ret (hKR _ _ ?_)
 refine ⟨_,res1 results9 (tV (.bool false) rfl),_,rfl,rfl,hC.sE []⟩
 replace hb:=tf hq269 hb
 refine gs rfl rfl (decide (y201.2.2.2=0)) rfl hq269<|gs rfl rfl (decide (y201.2.2.2=0)) rfl hq269<|lp (.bool false) (pu_pickF (q:=(decide (y201.2.2.2=0))) rfl hq269 rfl)<|lp (.bool false) (pu_move rfl)<|gs rfl rfl false rfl rfl<|gs rfl rfl false rfl rfl<|lp (.bool false) (pu_pickF (q:=false) rfl rfl rfl)<|lp (.bool false) (pu_move rfl)<|gs rfl rfl false rfl rfl<|gs rfl rfl false rfl rfl<|gs rfl rfl false rfl rfl<|lp (.bool false) (pu_pickF (q:=false) rfl rfl rfl)<|lp (.bool false) (pu_move rfl)<|gs rfl rfl false rfl rfl<|gs rfl rfl false rfl rfl<|gs rfl rfl false rfl rfl<|lp (.bool false) (pu_pickF (q:=false) rfl rfl rfl)<|lp (.bool false) (pu_assign rfl)<|ln (hK267 _ _ ?_)
 obtain rfl:=os hb
 refine Wc.ret (hKR _ _ ?_)
 refine ⟨_,res1 results9 (tV (.bool false) rfl),_,rfl,rfl,hC.sE []⟩
 replace hb:=tf hq268 hb
 refine gs rfl rfl (decide (y178.2.2.2=0)) rfl hq268<|gs rfl rfl (decide (y178.2.2.2=0)) rfl hq268<|lp (.bool false) (pu_pickF (q:=(decide (y178.2.2.2=0))) rfl hq268 rfl)<|lp (.bool false) (pu_move rfl)<|gs rfl rfl false rfl rfl<|gs rfl rfl false rfl rfl<|lp (.bool false) (pu_pickF (q:=false) rfl rfl rfl)<|lp (.bool false) (pu_move rfl)<|gs rfl rfl false rfl rfl<|gs rfl rfl false rfl rfl<|lp (.bool false) (pu_pickF (q:=false) rfl rfl rfl)<|lp (.bool false) (pu_move rfl)<|gs rfl rfl false rfl rfl<|gs rfl rfl false rfl rfl<|gs rfl rfl false rfl rfl<|lp (.bool false) (pu_pickF (q:=false) rfl rfl rfl)<|lp (.bool false) (pu_move rfl)<|gs rfl rfl false rfl rfl<|gs rfl rfl false rfl rfl<|gs rfl rfl false rfl rfl<|lp (.bool false) (pu_pickF (q:=false) rfl rfl rfl)<|lp (.bool false) (pu_assign rfl)<|ln (hK267 _ _ ?_)
 obtain rfl:=os hb
 refine Wc.ret (hKR _ _ ?_)
 refine ⟨_,res1 results9 (tV (.bool false) rfl),_,rfl,rfl,hC.sE []⟩
end Go.Proofs.Yticemffhlapnnaa
