import Derived.Test.YticemffhlapnnaaS
import Derived.Test.YticemffhlapnnaaG4
set_option linter.unusedVariables false
set_option linter.unusedSimpArgs false
namespace Go.Proofs.Yticemffhlapnnaa
open Ev Try
set_option maxRecDepth 100000
set_option maxHeartbeats 4000000
theorem ref42_Same_ok (n:Nat) {w:World} {O0:List Nat} (hO: ∀k∈O0,k<w.heap.size) {a:Option Addr} {s b:Nat} {l:List Int} (t:Rep O0 w (.sl si) [.slice a s b] l) {c:Option Addr} {u d:Nat} {m:List Int} (x:Rep O0 w (.sl si) [.slice c u d] m) {f:Option Addr} {y g:Nat} {o:List Int} (z:Rep O0 w (.sl si) [.slice f y g] o) {h:Option Addr} {A j:Nat} {p:List Int} (B:Rep O0 w (.sl si) [.slice h A j] p) {r:Bool} (hb:F.ref42_Same n l m o p=some r):
    Calls prog 20 #[.agg #[.slice a s b,.slice c u d],.agg #[.slice f y g,.slice h A j]] w fun e w'=> ∃v,e=.returned v∧v=.bool r∧Cx (fun _=>False) O0 w w' []:=by
 unfold F.ref42_Same at hb
 have hC:=Cx.start hO
 replace hC:=hC.arg rfl t
 replace hC:=hC.arg rfl x
 replace hC:=hC.arg rfl z
 replace hC:=hC.arg rfl B
 clear hO
 obtain ⟨rfl,C,D⟩:=t.sl_len
 obtain ⟨rfl,G,H⟩:=x.sl_len
 obtain ⟨rfl,J,K⟩:=z.sl_len
 obtain ⟨rfl,L,M⟩:=B.sl_len
 refine calls_of_Wc func20 rfl (by rw [ntmps20]; exact nb rfl) fun KR hKR=>?_
 refine Wc.seq fun _ hK5=>rg<|lex.op (hC.box (cs:=[.slice a l.length b,.slice c m.length d]) rfl rfl) ?_
 rintro _ w7 ⟨g6,rfl,hC,hF,-⟩
 refine lex.op (hC.box (cs:=[.slice f o.length g,.slice h p.length j]) rfl rfl) ?_
 rintro _ w10 ⟨g9,rfl,hC,hF,-⟩
 refine lp (.bool false) (pu_assign rfl)<|ln (hK5 _ _ ?_)
 refine Wc.seq fun _ hK12=>rg<|lp (.pointer (some ((⟨g6,0,none⟩:Addr).add 0))) (pu_field (sz:=1) underlying24 rfl sizeOf22 (by decide) rfl rfl)<|lv (.slice a l.length b) (ld_fld (hC.bx (i:=1) rfl) isAgg22 rfl rfl)<|lp (.pointer (some ((⟨g9,0,none⟩:Addr).add 0))) (pu_field (sz:=1) underlying24 rfl sizeOf22 (by decide) rfl rfl)<|lv (.slice f o.length g) (ld_fld (hC.bx (i:=0) rfl) isAgg22 rfl rfl) ?_
 obtain ⟨y13,h14,hb⟩:=bd hb
 refine lex.cl (⟨_,_,op_call (vs:=[.slice a l.length b,.slice f o.length g]) call25 rfl rfl rfl,ref01_Ints_ok n hC.lt (hC.rd (i:=5) rfl) (hC.rd (i:=3) rfl) h14⟩) ?_
 rintro _ w15 ⟨rfl,hK⟩
 replace hC:=hC.merge hK
 clear hK
 refine lp (.bool y13) (pu_move rfl) ?_
 rcases bS y13 with hq16 | hq16
 replace hb:=tt hq16 hb
 refine gp rfl rfl y13 rfl hq16 (.pointer (some ((⟨g6,0,none⟩:Addr).add 1))) (pu_field (sz:=1) underlying24 rfl sizeOf22 (by decide) rfl rfl)<|gv rfl rfl y13 rfl hq16 (.slice c m.length d) (ld_fld (hC.bx (i:=1) rfl) isAgg22 rfl rfl)<|gp rfl rfl y13 rfl hq16 (.pointer (some ((⟨g9,0,none⟩:Addr).add 1))) (pu_field (sz:=1) underlying24 rfl sizeOf22 (by decide) rfl rfl)<|gv rfl rfl y13 rfl hq16 (.slice h p.length j) (ld_fld (hC.bx (i:=0) rfl) isAgg22 rfl rfl) ?_
 obtain ⟨y17,h18,hb⟩:=bd hb
 refine lex.gcl (want_t rfl rfl (show _=Value.bool y13 from rfl) hq16) (⟨_,_,op_call (vs:=[.slice c m.length d,.slice h p.length j]) call25 rfl rfl rfl,ref01_Ints_ok n hC.lt (hC.rd (i:=4) rfl) (hC.rd (i:=2) rfl) h18⟩) ?_
 rintro _ w19 ⟨rfl,hK⟩
 replace hC:=hC.merge hK
 clear hK
 refine lp (.bool y17) (pu_pickT (q:=y13) rfl hq16 rfl)<|lp (.bool y17) (pu_assign rfl)<|ln (hK12 _ _ ?_)
 obtain rfl:=os hb
 refine Wc.ret (hKR _ _ ?_)
 refine ⟨_,res1 results20 (tV (.bool y17) rfl),_,rfl,rfl,hC.sE []⟩
 replace hb:=tf hq16 hb
 refine gs rfl rfl y13 rfl hq16<|gs rfl rfl y13 rfl hq16<|gs rfl rfl y13 rfl hq16<|gs rfl rfl y13 rfl hq16<|gs rfl rfl y13 rfl hq16<|lp (.bool false) (pu_pickF (q:=y13) rfl hq16 rfl)<|lp (.bool false) (pu_assign rfl)<|ln (hK12 _ _ ?_)
 obtain rfl:=os hb
 refine Wc.ret (hKR _ _ ?_)
 refine ⟨_,res1 results20 (tV (.bool false) rfl),_,rfl,rfl,hC.sE []⟩
end Go.Proofs.Yticemffhlapnnaa
