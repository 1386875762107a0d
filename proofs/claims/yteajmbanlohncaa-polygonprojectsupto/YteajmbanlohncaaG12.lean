import Derived.Test.YteajmbanlohncaaS
set_option linter.unusedVariables false
set_option linter.unusedSimpArgs false
namespace Go.Proofs.Yteajmbanlohncaa
open Ev Try
set_option maxRecDepth 100000
set_option maxHeartbeats 4000000
theorem law46_zero_ok (n:Nat) {w:World} {O0:List Nat} (hO: ∀k∈O0,k<w.heap.size) {g:Option Addr} {o h:Nat} {c:List Int} (p:Rep O0 w (.sl si) [.slice g o h] c) {j:Option Addr} {s l:Nat} {d:List Int} (t:Rep O0 w (.sl si) [.slice j s l] d) {f:Int} (B:I64 f) {r:Bool} (hb:F.law46_zero n c d f=some r):
    Calls prog 17 #[.agg #[.slice g o h,.slice j s l,iv f]] w fun e w'=> ∃v,e=.returned v∧v=.bool r∧Cx (fun _=>False) O0 w w' []:=by
 unfold F.law46_zero at hb
 have hC:=Cx.start hO
 replace hC:=hC.arg rfl p
 replace hC:=hC.arg rfl t
 clear hO
 obtain ⟨rfl,u,x⟩:=p.sl_len
 obtain ⟨rfl,y,z⟩:=t.sl_len
 refine calls_of_Wc func17 rfl (by rw [ntmps17]; exact nb rfl) fun KR hKR=>?_
 refine Wc.seq fun _ hK3=>rg<|lex.op (hC.box (cs:=[.slice g c.length h,.slice j d.length l,iv f]) rfl rfl) ?_
 rintro _ w5 ⟨g4,rfl,hC,hF,-⟩
 refine lp (.bool false) (pu_assign rfl)<|ln (hK3 _ _ ?_)
 refine Wc.seq fun _ hK7=>rg<|lp (.pointer (some ((⟨g4,0,none⟩:Addr).add 0))) (pu_field (sz:=1) underlying32 rfl sizeOf30 (by decide) rfl rfl)<|lv (.slice g c.length h) (ld_fld (hC.bx (i:=0) rfl) isAgg30 rfl rfl)<|lp (iv (c.length:Int)) (pu_len (A:=g) (n:=c.length) (m:=h) underlying30 rfl)<|lp (.bool (decide ((c.length:Int)=0))) (pu_eql (k:=.i64) (a:=(c.length:Int)) (b:=0) rfl rfl)<|lp (.bool (decide ((c.length:Int)=0))) (pu_move rfl) ?_
 rcases bS (decide ((c.length:Int)=0)) with hq8 | hq8
 replace hb:=tt hq8 hb
 refine gp rfl rfl (decide ((c.length:Int)=0)) rfl hq8 (.pointer (some ((⟨g4,0,none⟩:Addr).add 1))) (pu_field (sz:=1) underlying32 rfl sizeOf30 (by decide) rfl rfl)<|gv rfl rfl (decide ((c.length:Int)=0)) rfl hq8 (.slice j d.length l) (ld_fld (hC.bx (i:=0) rfl) isAgg30 rfl rfl)<|gp rfl rfl (decide ((c.length:Int)=0)) rfl hq8 (iv (d.length:Int)) (pu_len (A:=j) (n:=d.length) (m:=l) underlying30 rfl)<|gp rfl rfl (decide ((c.length:Int)=0)) rfl hq8 (.bool (decide ((d.length:Int)=0))) (pu_eql (k:=.i64) (a:=(d.length:Int)) (b:=0) rfl rfl)<|lp (.bool (decide ((d.length:Int)=0))) (pu_pickT (q:=(decide ((c.length:Int)=0))) rfl hq8 rfl)<|lp (.bool (decide ((d.length:Int)=0))) (pu_move rfl) ?_
 rcases bS (decide ((d.length:Int)=0)) with hq9 | hq9
 replace hb:=tt hq9 hb
 refine gp rfl rfl (decide ((d.length:Int)=0)) rfl hq9 (.pointer (some ((⟨g4,0,none⟩:Addr).add 2))) (pu_field (sz:=1) underlying32 rfl sizeOf3 (by decide) rfl rfl)<|gv rfl rfl (decide ((d.length:Int)=0)) rfl hq9 (iv f) (ld_fld (hC.bx (i:=0) rfl) isAgg3 rfl rfl)<|gp rfl rfl (decide ((d.length:Int)=0)) rfl hq9 (.bool (decide (f=0))) (pu_eql (k:=.i64) (a:=f) (b:=0) rfl rfl)<|lp (.bool (decide (f=0))) (pu_pickT (q:=(decide ((d.length:Int)=0))) rfl hq9 rfl)<|lp (.bool (decide (f=0))) (pu_assign rfl)<|ln (hK7 _ _ ?_)
 obtain rfl:=os hb
 refine Wc.ret (hKR _ _ ?_)
 refine ⟨_,res1 results17 (tV (.bool (decide (f=0))) rfl),_,rfl,rfl,hC.sE []⟩
 replace hb:=tf hq9 hb
 refine gs rfl rfl (decide ((d.length:Int)=0)) rfl hq9<|gs rfl rfl (decide ((d.length:Int)=0)) rfl hq9<|gs rfl rfl (decide ((d.length:Int)=0)) rfl hq9<|lp (.bool false) (pu_pickF (q:=(decide ((d.length:Int)=0))) rfl hq9 rfl)<|lp (.bool false) (pu_assign rfl)<|ln (hK7 _ _ ?_)
 obtain rfl:=os hb
 refine Wc.ret (hKR _ _ ?_)
 refine ⟨_,res1 results17 (tV (.bool false) rfl),_,rfl,rfl,hC.sE []⟩
 replace hb:=tf hq8 hb
 refine gs rfl rfl (decide ((c.length:Int)=0)) rfl hq8<|gs rfl rfl (decide ((c.length:Int)=0)) rfl hq8<|gs rfl rfl (decide ((c.length:Int)=0)) rfl hq8<|gs rfl rfl (decide ((c.length:Int)=0)) rfl hq8<|lp (.bool false) (pu_pickF (q:=(decide ((c.length:Int)=0))) rfl hq8 rfl)<|lp (.bool false) (pu_move rfl)<|gs rfl rfl false rfl rfl<|gs rfl rfl false rfl rfl<|gs rfl rfl false rfl rfl<|lp (.bool false) (pu_pickF (q:=false) rfl rfl rfl)<|lp (.bool false) (pu_assign rfl)<|ln (hK7 _ _ ?_)
 obtain rfl:=os hb
 refine Wc.ret (hKR _ _ ?_)
 refine ⟨_,res1 results17 (tV (.bool false) rfl),_,rfl,rfl,hC.sE []⟩
end Go.Proofs.Yteajmbanlohncaa
