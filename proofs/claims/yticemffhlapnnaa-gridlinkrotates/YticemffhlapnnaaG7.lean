import Derived.Test.YticemffhlapnnaaS
set_option linter.unusedVariables false
set_option linter.unusedSimpArgs false
namespace Go.Proofs.Yticemffhlapnnaa
open Ev Try
set_option maxRecDepth 100000
set_option maxHeartbeats 4000000
theorem law44_small_ok (n:Nat) {w:World} {O0:List Nat} (hO: ∀k∈O0,k<w.heap.size) {f:Option Addr} {l g:Nat} {c:List Int} (o:Rep O0 w (.sl si) [.slice f l g] c) {h:Option Addr} {p j:Nat} {d:List Int} (s:Rep O0 w (.sl si) [.slice h p j] d) {r:Int} (hb:F.law44_small n c d=some r):
    Calls prog 12 #[.agg #[.slice f l g,.slice h p j]] w fun e w'=> ∃v,e=.returned v∧v=iv r∧I64 r∧Cx (fun _=>False) O0 w w' []:=by
 unfold F.law44_small at hb
 have hC:=Cx.start hO
 replace hC:=hC.arg rfl o
 replace hC:=hC.arg rfl s
 clear hO
 obtain ⟨rfl,u,x⟩:=o.sl_len
 obtain ⟨rfl,y,z⟩:=s.sl_len
 refine calls_of_Wc func12 rfl (by rw [ntmps12]; exact nb rfl) fun KR hKR=>?_
 refine Wc.seq fun _ hK3=>rg<|lex.op (hC.box (cs:=[.slice f c.length g,.slice h d.length j]) rfl rfl) ?_
 rintro _ w5 ⟨g4,rfl,hC,hF,-⟩
 refine lp (iv 0) (pu_assign rfl)<|ln (hK3 _ _ ?_)
 refine Wc.seq fun _ hK7=>?_
 refine Wc.seq fun _ hK8=>rg<|lp (.pointer (some ((⟨g4,0,none⟩:Addr).add 0))) (pu_field (sz:=1) underlying24 rfl sizeOf22 (by decide) rfl rfl)<|lv (.slice f c.length g) (ld_fld (hC.bx (i:=0) rfl) isAgg22 rfl rfl)<|lp (iv (c.length:Int)) (pu_len (A:=f) (n:=c.length) (m:=g) underlying22 rfl)<|lp (.bool (decide (45<(c.length:Int)))) (pu_gtr (k:=.i64) (a:=(c.length:Int)) (b:=45) rfl rfl)<|lp (.bool (decide (45<(c.length:Int)))) (pu_move rfl) ?_
 rcases bS (decide (45<(c.length:Int))) with hq9 | hq9
 replace hb:=tt hq9 hb
 refine gs rfl rfl (decide (45<(c.length:Int))) rfl hq9<|gs rfl rfl (decide (45<(c.length:Int))) rfl hq9<|gs rfl rfl (decide (45<(c.length:Int))) rfl hq9<|gs rfl rfl (decide (45<(c.length:Int))) rfl hq9<|lp (.bool true) (pu_pickT (q:=(decide (45<(c.length:Int)))) rfl hq9 rfl)<|lp (.bool true) (pu_move rfl)<|gs rfl rfl true rfl rfl<|gs rfl rfl true rfl rfl<|gs rfl rfl true rfl rfl<|gs rfl rfl true rfl rfl<|gs rfl rfl true rfl rfl ?_
 refine lex.gskip (want_n rfl rfl rfl) ?_
 refine lex.gskip (want_n rfl rfl rfl) ?_
 refine lex.gskip (want_n rfl rfl rfl) ?_
 refine lex.gskip (want_n rfl rfl rfl) ?_
 refine gs rfl rfl true rfl rfl<|lp (.bool true) (pu_pickT (q:=true) rfl rfl rfl)<|ln (hK8 _ _ ?_)
 refine Wc.cond_true (rfl) ?_
 refine Wc.seq fun _ hK10=>rg<|lp (iv 0) (pu_assign rfl)<|ln (hK10 _ _ ?_)
 obtain rfl:=os hb
 refine Wc.ret (hKR _ _ ?_)
 refine ⟨_,res1 results12 (tV (iv 0) rfl),_,rfl,rfl,(show I64 0 from by unfold I64; omega),hC.sE []⟩
 replace hb:=tf hq9 hb
 refine gp rfl rfl (decide (45<(c.length:Int))) rfl hq9 (.pointer (some ((⟨g4,0,none⟩:Addr).add 1))) (pu_field (sz:=1) underlying24 rfl sizeOf22 (by decide) rfl rfl)<|gv rfl rfl (decide (45<(c.length:Int))) rfl hq9 (.slice h d.length j) (ld_fld (hC.bx (i:=0) rfl) isAgg22 rfl rfl)<|gp rfl rfl (decide (45<(c.length:Int))) rfl hq9 (iv (d.length:Int)) (pu_len (A:=h) (n:=d.length) (m:=j) underlying22 rfl)<|gp rfl rfl (decide (45<(c.length:Int))) rfl hq9 (.bool (decide (45<(d.length:Int)))) (pu_gtr (k:=.i64) (a:=(d.length:Int)) (b:=45) rfl rfl)<|lp (.bool (decide (45<(d.length:Int)))) (pu_pickF (q:=(decide (45<(c.length:Int)))) rfl hq9 rfl)<|lp (.bool (decide (45<(d.length:Int)))) (pu_move rfl) ?_
 rcases bS (decide (45<(d.length:Int))) with hq11 | hq11
 replace hb:=tt hq11 hb
 refine gs rfl rfl (decide (45<(d.length:Int))) rfl hq11<|gs rfl rfl (decide (45<(d.length:Int))) rfl hq11<|gs rfl rfl (decide (45<(d.length:Int))) rfl hq11<|gs rfl rfl (decide (45<(d.length:Int))) rfl hq11<|gs rfl rfl (decide (45<(d.length:Int))) rfl hq11 ?_
 refine lex.gskip (want_n rfl rfl rfl) ?_
 refine lex.gskip (want_n rfl rfl rfl) ?_
 refine lex.gskip (want_n rfl rfl rfl) ?_
 refine lex.gskip (want_n rfl rfl rfl) ?_
 refine gs rfl rfl (decide (45<(d.length:Int))) rfl hq11<|lp (.bool true) (pu_pickT (q:=(decide (45<(d.length:Int)))) rfl hq11 rfl)<|ln (hK8 _ _ ?_)
 refine Wc.cond_true (rfl) ?_
 refine Wc.seq fun _ hK12=>rg<|lp (iv 0) (pu_assign rfl)<|ln (hK12 _ _ ?_)
 obtain rfl:=os hb
 refine Wc.ret (hKR _ _ ?_)
 refine ⟨_,res1 results12 (tV (iv 0) rfl),_,rfl,rfl,(show I64 0 from by unfold I64; omega),hC.sE []⟩
 replace hb:=tf hq11 hb
 refine gp rfl rfl (decide (45<(d.length:Int))) rfl hq11 (.pointer (some ((⟨g4,0,none⟩:Addr).add 0))) (pu_field (sz:=1) underlying24 rfl sizeOf22 (by decide) rfl rfl)<|gv rfl rfl (decide (45<(d.length:Int))) rfl hq11 (.slice f c.length g) (ld_fld (hC.bx (i:=0) rfl) isAgg22 rfl rfl)<|gp rfl rfl (decide (45<(d.length:Int))) rfl hq11 (iv (c.length:Int)) (pu_len (A:=f) (n:=c.length) (m:=g) underlying22 rfl)<|gp rfl rfl (decide (45<(d.length:Int))) rfl hq11 (.bool (decide (12<(c.length:Int)))) (pu_gtr (k:=.i64) (a:=(c.length:Int)) (b:=12) rfl rfl)<|gp rfl rfl (decide (45<(d.length:Int))) rfl hq11 (.bool (decide (12<(c.length:Int)))) (pu_move rfl) ?_
 rcases bS (decide (12<(c.length:Int))) with hq13 | hq13
 replace hb:=tt hq13 hb
 refine gp rfl rfl (decide (12<(c.length:Int))) rfl hq13 (.pointer (some ((⟨g4,0,none⟩:Addr).add 0))) (pu_field (sz:=1) underlying24 rfl sizeOf22 (by decide) rfl rfl)<|gv rfl rfl (decide (12<(c.length:Int))) rfl hq13 (.slice f c.length g) (ld_fld (hC.bx (i:=0) rfl) isAgg22 rfl rfl)<|gp rfl rfl (decide (12<(c.length:Int))) rfl hq13 (iv (c.length:Int)) (pu_len (A:=f) (n:=c.length) (m:=g) underlying22 rfl)<|gp rfl rfl (decide (12<(c.length:Int))) rfl hq13 (.bool (decide ((c.length:Int)≤40))) (pu_leq (k:=.i64) (a:=(c.length:Int)) (b:=40) rfl rfl)<|gp rfl rfl (decide (45<(d.length:Int))) rfl hq11 (.bool (decide ((c.length:Int)≤40))) (pu_pickT (q:=(decide (12<(c.length:Int)))) rfl hq13 rfl)<|lp (.bool (decide ((c.length:Int)≤40))) (pu_pickF (q:=(decide (45<(d.length:Int)))) rfl hq11 rfl)<|ln (hK8 _ _ ?_)
 refine Wc.cond (t:=(decide ((c.length:Int)≤40))) (rfl) (fun hq14=>?_) (fun hq14=>?_)
 replace hb:=tt hq14 hb
 refine Wc.seq fun _ hK15=>rg<|lp (iv 0) (pu_assign rfl)<|ln (hK15 _ _ ?_)
 obtain rfl:=os hb
 refine Wc.ret (hKR _ _ ?_)
 refine ⟨_,res1 results12 (tV (iv 0) rfl),_,rfl,rfl,(show I64 0 from by unfold I64; omega),hC.sE []⟩
 replace hb:=tf hq14 hb
 refine Wc.skip (hK7 _ _ ?_)
 refine Wc.seq fun _ hK16=>rg<|lp (iv 1) (pu_assign rfl)<|ln (hK16 _ _ ?_)
 obtain rfl:=os hb
 refine Wc.ret (hKR _ _ ?_)
 refine ⟨_,res1 results12 (tV (iv 1) rfl),_,rfl,rfl,(show I64 1 from by unfold I64; omega),hC.sE []⟩
 replace hb:=tf hq13 hb
 refine gs rfl rfl (decide (12<(c.length:Int))) rfl hq13<|gs rfl rfl (decide (12<(c.length:Int))) rfl hq13<|gs rfl rfl (decide (12<(c.length:Int))) rfl hq13<|gs rfl rfl (decide (12<(c.length:Int))) rfl hq13<|gp rfl rfl (decide (45<(d.length:Int))) rfl hq11 (.bool false) (pu_pickF (q:=(decide (12<(c.length:Int)))) rfl hq13 rfl)<|lp (.bool false) (pu_pickF (q:=(decide (45<(d.length:Int)))) rfl hq11 rfl)<|ln (hK8 _ _ ?_)
 refine Wc.cond_false (rfl) ?_
 refine Wc.skip (hK7 _ _ ?_)
 refine Wc.seq fun _ hK17=>rg<|lp (iv 1) (pu_assign rfl)<|ln (hK17 _ _ ?_)
 obtain rfl:=os hb
 refine Wc.ret (hKR _ _ ?_)
 refine ⟨_,res1 results12 (tV (iv 1) rfl),_,rfl,rfl,(show I64 1 from by unfold I64; omega),hC.sE []⟩
end Go.Proofs.Yticemffhlapnnaa
