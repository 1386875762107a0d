import Derived.Test.YteajmbanlohncaaS
set_option linter.unusedVariables false
set_option linter.unusedSimpArgs false
namespace Go.Proofs.Yteajmbanlohncaa
open Ev Try
set_option maxRecDepth 100000
set_option maxHeartbeats 4000000
theorem slices_Clone_Point_Point_ok (n:Nat) {w:World} {O0:List Nat} (hO: ∀k∈O0,k<w.heap.size) {a:Option Addr} {d c:Nat} {b:List (Int×(Int×Int))} (f:Rep O0 w (.sl (.pr si (.pr si si))) [.slice a d c] b) {r:(List (Int×(Int×Int)))} (hb:F.slices_Clone_Point_Point n b=some r):
    Calls prog 36 #[.slice a d c] w fun e w'=> ∃v,e=.returned v∧∃(A0:Option Addr) (m0 c0:Nat),v=.slice A0 m0 c0∧Cx (fun _=>False) O0 w w' [.own 23 (.pr si (.pr si si)) (.slice A0 m0 c0) r]:=by
 unfold F.slices_Clone_Point_Point at hb
 have hC:=Cx.start hO
 replace hC:=hC.arg rfl f
 clear hO
 obtain ⟨rfl,g,h⟩:=f.sl_len
 refine calls_of_Wc func36 rfl (by rw [ntmps36]; exact nb rfl) fun KR hKR=>?_
 refine Wc.seq fun _ hK2=>rg<|lp (.slice none 0 0) (pu_assign rfl)<|ln (hK2 _ _ ?_)
 refine Wc.seq fun _ hK3=>?_
 refine Wc.seq fun _ hK4=>rg<|lp (.slice a b.length c) (pu_move rfl)<|lp (.bool a.isNone) (pu_eqlnil underlying43 rfl rfl)<|ln (hK4 _ _ ?_)
 refine Wc.cond (t:=a.isNone) (rfl) (fun hq5=>?_) (fun hq5=>?_)
 have hz:a=none:=by simpa using hq5
 have hx:=(hC.rd (i:=0) rfl).none_nil' hz
 replace hb:some ([])=some r:=by have hb2:=hb; rw [hx] at hb2; first | exact hb2 | simpa [lim] using hb2
 refine Wc.seq fun _ hK7=>rg<|lp (.slice none 0 0) (pu_assign rfl)<|ln (hK7 _ _ ?_)
 replace hC:=hC.nil 23 (.pr si (.pr si si))
 obtain rfl:=os hb
 refine Wc.ret (hKR _ _ ?_)
 refine ⟨_,res1 results36 (tV (.slice none 0 0) rfl),_,rfl,none,0,0,rfl,hC.sE [0]⟩
 refine Wc.skip (hK3 _ _ ?_)
 refine Wc.seq fun _ hK9=>rg<|lex.op (hC.lit (s:=(.pr si (.pr si si))) (vs:=[]) (xs:=[]) underlying43 type23 rfl rfl (nb rfl) rfl rfl (by simp [Value.cells,Sh.n]) rfl (show Elems _ _ (.pr si (.pr si si)) ([]) ([]:List (Int×(Int×Int))) from Elems.nil _ _ _)) ?_
 rintro _ w14 ⟨A10,c11,rfl,hl12,hc13,hC,-,-⟩
 refine lp (.slice a b.length c) (pu_move rfl) ?_
 obtain ⟨u16,h17,hb⟩:=bd hb
 refine lex.op (hC.app (i:=0) (s:=(.pr si (.pr si si))) (xs:=([]:List (Int×(Int×Int)))) (ys:=b) (m:=b.length) rfl underlying43 underlying43 type23 rfl rfl rfl (hC.srcr (i:=1) rfl) rfl rfl (by have:=lim_some h17; simp at this⊢ <;>omega) (by decide)) ?_
 rintro _ w22 ⟨A18,c19,rfl,hl20,hc21,hC,-,-⟩
 refine lp (.slice A18 ((([]:List (Int×(Int×Int)))++b).length) c19) (pu_assign rfl)<|ln (hK9 _ _ ?_)
 obtain rfl:=os hb
 refine Wc.ret (hKR _ _ ?_)
 refine ⟨_,res1 results36 (tV (.slice A18 ((([]:List (Int×(Int×Int)))++b).length) c19) rfl),_,rfl,A18,(([]:List (Int×(Int×Int)))++b).length,c19,rfl,hC.sE [0]⟩
end Go.Proofs.Yteajmbanlohncaa
