import Derived.Test.YteajmbanlohncaaS
import Derived.Test.YteajmbanlohncaaG22
set_option linter.unusedVariables false
set_option linter.unusedSimpArgs false
namespace Go.Proofs.Yteajmbanlohncaa
open Ev Try
set_option maxRecDepth 100000
set_option maxHeartbeats 4000000
theorem diagram_Equal_ok (n:Nat) {w:World} {O0:List Nat} (hO: ∀k∈O0,k<w.heap.size) {f:Option Addr} {y g:Nat} {s:List Int} (z:Rep O0 w (.sl si) [.slice f y g] s) {h:Option Addr} {A j:Nat} {t:List Int} (B:Rep O0 w (.sl si) [.slice h A j] t) {c:Int} (S:I64 c) {l:Option Addr} {C m:Nat} {u:List Int} (D:Rep O0 w (.sl si) [.slice l C m] u) {o:Option Addr} {G p:Nat} {x:List Int} (H:Rep O0 w (.sl si) [.slice o G p] x) {d:Int} (T:I64 d) {r:Bool} (hb:F.diagram_Equal n s t c u x d=some r):
    Calls prog 26 #[.agg #[.slice f y g,.slice h A j,iv c],.agg #[.slice l C m,.slice o G p,iv d]] w fun e w'=> ∃v,e=.returned v∧v=.bool r∧Cx (fun _=>False) O0 w w' []:=by
 unfold F.diagram_Equal at hb
 have hC:=Cx.start hO
 replace hC:=hC.arg rfl z
 replace hC:=hC.arg rfl B
 replace hC:=hC.arg rfl D
 replace hC:=hC.arg rfl H
 clear hO
 obtain ⟨rfl,J,K⟩:=z.sl_len
 obtain ⟨rfl,L,M⟩:=B.sl_len
 obtain ⟨rfl,N,P⟩:=D.sl_len
 obtain ⟨rfl,Q,R⟩:=H.sl_len
 refine calls_of_Wc func26 rfl (by rw [ntmps26]; exact nb rfl) fun KR hKR=>?_
 refine Wc.seq fun _ hK5=>rg<|lex.op (hC.box (cs:=[.slice f s.length g,.slice h t.length j,iv c]) rfl rfl) ?_
 rintro _ w7 ⟨g6,rfl,hC,hF,-⟩
 refine lex.op (hC.box (cs:=[.slice l u.length m,.slice o x.length p,iv d]) rfl rfl) ?_
 rintro _ w10 ⟨g9,rfl,hC,hF,-⟩
 refine lp (.bool false) (pu_assign rfl)<|ln (hK5 _ _ ?_)
 refine Wc.seq fun _ hK12=>rg<|lp (.pointer (some ((⟨g6,0,none⟩:Addr).add 0))) (pu_field (sz:=1) underlying32 rfl sizeOf30 (by decide) rfl rfl)<|lv (.slice f s.length g) (ld_fld (hC.bx (i:=1) rfl) isAgg30 rfl rfl)<|lp (.pointer (some ((⟨g9,0,none⟩:Addr).add 0))) (pu_field (sz:=1) underlying32 rfl sizeOf30 (by decide) rfl rfl)<|lv (.slice l u.length m) (ld_fld (hC.bx (i:=0) rfl) isAgg30 rfl rfl) ?_
 obtain ⟨y13,h14,hb⟩:=bd hb
 refine lex.cl (⟨_,_,op_call (vs:=[.slice f s.length g,.slice l u.length m]) call64 rfl rfl rfl,slices_Equal_Lint_int_ok n hC.lt (hC.rd (i:=5) rfl) (hC.rd (i:=3) rfl) h14⟩) ?_
 rintro _ w15 ⟨rfl,hK⟩
 replace hC:=hC.merge hK
 clear hK
 refine lp (.bool y13) (pu_move rfl) ?_
 rcases bS y13 with hq16 | hq16
 replace hb:=tt hq16 hb
 refine gp rfl rfl y13 rfl hq16 (.pointer (some ((⟨g6,0,none⟩:Addr).add 1))) (pu_field (sz:=1) underlying32 rfl sizeOf30 (by decide) rfl rfl)<|gv rfl rfl y13 rfl hq16 (.slice h t.length j) (ld_fld (hC.bx (i:=1) rfl) isAgg30 rfl rfl)<|gp rfl rfl y13 rfl hq16 (.pointer (some ((⟨g9,0,none⟩:Addr).add 1))) (pu_field (sz:=1) underlying32 rfl sizeOf30 (by decide) rfl rfl)<|gv rfl rfl y13 rfl hq16 (.slice o x.length p) (ld_fld (hC.bx (i:=0) rfl) isAgg30 rfl rfl) ?_
 obtain ⟨y17,h18,hb⟩:=bd hb
 refine lex.gcl (want_t rfl rfl (show _=Value.bool y13 from rfl) hq16) (⟨_,_,op_call (vs:=[.slice h t.length j,.slice o x.length p]) call64 rfl rfl rfl,slices_Equal_Lint_int_ok n hC.lt (hC.rd (i:=4) rfl) (hC.rd (i:=2) rfl) h18⟩) ?_
 rintro _ w19 ⟨rfl,hK⟩
 replace hC:=hC.merge hK
 clear hK
 refine lp (.bool y17) (pu_pickT (q:=y13) rfl hq16 rfl)<|lp (.bool y17) (pu_move rfl) ?_
 rcases bS y17 with hq20 | hq20
 replace hb:=tt hq20 hb
 refine gp rfl rfl y17 rfl hq20 (.pointer (some ((⟨g6,0,none⟩:Addr).add 2))) (pu_field (sz:=1) underlying32 rfl sizeOf3 (by decide) rfl rfl)<|gv rfl rfl y17 rfl hq20 (iv c) (ld_fld (hC.bx (i:=1) rfl) isAgg3 rfl rfl)<|gp rfl rfl y17 rfl hq20 (.pointer (some ((⟨g9,0,none⟩:Addr).add 2))) (pu_field (sz:=1) underlying32 rfl sizeOf3 (by decide) rfl rfl)<|gv rfl rfl y17 rfl hq20 (iv d) (ld_fld (hC.bx (i:=0) rfl) isAgg3 rfl rfl)<|gp rfl rfl y17 rfl hq20 (.bool (decide (c=d))) (pu_eql (k:=.i64) (a:=c) (b:=d) rfl rfl)<|lp (.bool (decide (c=d))) (pu_pickT (q:=y17) rfl hq20 rfl)<|lp (.bool (decide (c=d))) (pu_assign rfl)<|ln (hK12 _ _ ?_)
 obtain rfl:=os hb
 refine Wc.ret (hKR _ _ ?_)
 refine ⟨_,res1 results26 (tV (.bool (decide (c=d))) rfl),_,rfl,rfl,hC.sE []⟩
 replace hb:=tf hq20 hb
 refine gs rfl rfl y17 rfl hq20<|gs rfl rfl y17 rfl hq20<|gs rfl rfl y17 rfl hq20<|gs rfl rfl y17 rfl hq20<|gs rfl rfl y17 rfl hq20<|lp (.bool false) (pu_pickF (q:=y17) rfl hq20 rfl)<|lp (.bool false) (pu_assign rfl)<|ln (hK12 _ _ ?_)
 obtain rfl:=os hb
 refine Wc.ret (hKR _ _ ?_)
 refine ⟨_,res1 results26 (tV (.bool false) rfl),_,rfl,rfl,hC.sE []⟩
 replace hb:=tf hq16 hb
 refine gs rfl rfl y13 rfl hq16<|gs rfl rfl y13 rfl hq16<|gs rfl rfl y13 rfl hq16<|gs rfl rfl y13 rfl hq16<|gs rfl rfl y13 rfl hq16<|lp (.bool false) (pu_pickF (q:=y13) rfl hq16 rfl)<|lp (.bool false) (pu_move rfl)<|gs rfl rfl false rfl rfl<|gs rfl rfl false rfl rfl<|gs rfl rfl false rfl rfl<|gs rfl rfl false rfl rfl<|gs rfl rfl false rfl rfl<|lp (.bool false) (pu_pickF (q:=false) rfl rfl rfl)<|lp (.bool false) (pu_assign rfl)<|ln (hK12 _ _ ?_)
 obtain rfl:=os hb
 refine Wc.ret (hKR _ _ ?_)
 refine ⟨_,res1 results26 (tV (.bool false) rfl),_,rfl,rfl,hC.sE []⟩
end Go.Proofs.Yteajmbanlohncaa
