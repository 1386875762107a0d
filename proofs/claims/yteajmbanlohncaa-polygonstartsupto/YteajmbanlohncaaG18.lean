import Derived.Test.YteajmbanlohncaaS
import Derived.Test.YteajmbanlohncaaG6
import Derived.Test.YteajmbanlohncaaG9
set_option linter.unusedVariables false
set_option linter.unusedSimpArgs false
namespace Go.Proofs.Yteajmbanlohncaa
open Ev Try
set_option maxRecDepth 100000
set_option maxHeartbeats 4000000
theorem law46_generic_ok (n:Nat) {w:World} {O0:List Nat} (hO: ∀k∈O0,k<w.heap.size) {c:Option Addr} {g d:Nat} {f:List (List (Int×(Int×Int)))} (h:Rep O0 w (.sl (.sl (.pr si (.pr si si)))) [.slice c g d] f) {r:(List Int)×(List Int)×Int×Bool} (hb:F.law46_generic n f=some r):
    Calls prog 23 #[.slice c g d] w fun e w'=> ∃v,e=.returned v∧∃(A0:Option Addr) (m0 c0:Nat) (A1:Option Addr) (m1 c1:Nat),v=.tuple #[.agg #[.slice A0 m0 c0,.slice A1 m1 c1,iv r.2.2.1],.bool r.2.2.2]∧I64 r.2.2.1∧Cx (fun _=>False) O0 w w' [.own 3 si (.slice A0 m0 c0) r.1,.own 3 si (.slice A1 m1 c1) r.2.1]:=by
 unfold F.law46_generic at hb
 have hC:=Cx.start hO
 replace hC:=hC.arg rfl h
 clear hO
 obtain ⟨rfl,j,l⟩:=h.sl_len
 refine calls_of_Wc func23 rfl (by rw [ntmps23]; exact nb rfl) fun KR hKR=>?_
 refine Wc.seq fun _ hK2=>rg<|lex.op (hC.alloc (cs:=[.slice none 0 0,.slice none 0 0,iv 0]) zeroValue32 rfl) ?_
 rintro _ w4 ⟨g3,rfl,hC,hF,-⟩
 refine lp (.bool false) (pu_assign rfl)<|ln (hK2 _ _ ?_)
 refine Wc.seq fun _ hK6=>?_
 refine Wc.seq fun _ hK7=>rg<|lp (.slice c f.length d) (pu_move rfl) ?_
 obtain ⟨y8,h9,hb⟩:=bd hb
 refine lex.cl (⟨_,_,op_call (vs:=[.slice c f.length d]) call14 rfl rfl rfl,law46_few_ok n hC.lt (hC.rd (i:=1) rfl) h9⟩) ?_
 rintro _ w10 ⟨rfl,hK⟩
 replace hC:=hC.merge hK
 clear hK
 refine lp (.bool (!y8)) (pu_not (q:=y8) rfl)<|ln (hK7 _ _ ?_)
 refine Wc.cond (t:=(!y8)) (rfl) (fun hq11=>?_) (fun hq11=>?_)
 replace hb:=tt hq11 hb
 refine Wc.seq fun _ hK12=>rg<|lp (.agg #[.slice none 0 0,.slice none 0 0,iv 0]) (pu_builds (places:=[(0,1),(1,1),(2,1)]) (pv:=[]) type32 underlying32 rfl (mp_cons type30 (mp_cons type30 (mp_cons type3 mp_nil rfl rfl) rfl rfl) rfl rfl) rfl (by simp [Instr.fill,Value.cells]))<|lex.sk (hC.seta (i:=0) (ds:=[.slice none 0 0,.slice none 0 0,iv 0]) rfl type32 rfl rfl rfl rfl rfl) ?_
 rintro w13 ⟨hC,hF⟩
 refine lp (.bool false) (pu_assign rfl)<|ln (hK12 _ _ ?_)
 replace hC:=hC.nil 3 si
 replace hC:=hC.nil 3 si
 obtain rfl:=os hb
 refine Wc.ret (hKR _ _ ?_)
 refine ⟨_,res2 results23 ⟨_,rfl,loadVar_blk (hC.bx (i:=2) rfl) isAgg32 sizeOf32⟩ (tV (.bool false) rfl),_,rfl,none,0,0,none,0,0,rfl,(show I64 0 from by unfold I64; omega),hC.sE [1,0]⟩
 replace hb:=tf hq11 hb
 refine Wc.skip (hK6 _ _ ?_)
 refine Wc.seq fun _ hK16=>rg<|lp (.slice c f.length d) (pu_move rfl) ?_
 obtain ⟨y17,h18,hb⟩:=bd hb
 refine lex.cl (⟨_,_,op_call (vs:=[.slice c f.length d]) call15 rfl rfl rfl,polygon_Project_ok n hC.lt (hC.rd (i:=1) rfl) h18⟩) ?_
 rintro _ w29 ⟨A19,m20,c21,A23,m24,c25,rfl,hr27,hr28,hK⟩
 replace hC:=hC.merge hK
 clear hK
 obtain ⟨rfl,hl30,hc31⟩:=(hC.ow (i:=0) rfl).sl_len
 obtain ⟨rfl,hl32,hc33⟩:=(hC.ow (i:=1) rfl).sl_len
 refine lp (.tuple #[.agg #[.slice A19 y17.1.length c21,.slice A23 y17.2.1.length c25,iv y17.2.2.1],iv y17.2.2.2]) (pu_move rfl)<|lp (.agg #[.slice A19 y17.1.length c21,.slice A23 y17.2.1.length c25,iv y17.2.2.1]) (pu_extract rfl rfl)<|lp (iv y17.2.2.2) (pu_extract rfl rfl)<|lex.op (hC.alloc (cs:=[.slice none 0 0,.slice none 0 0,iv 0]) zeroValue32 rfl) ?_
 rintro _ w35 ⟨g34,rfl,hC,hF,-⟩
 refine lex.sk (hC.seta (i:=0) (ds:=[.slice A19 y17.1.length c21,.slice A23 y17.2.1.length c25,iv y17.2.2.1]) rfl type32 rfl rfl rfl rfl rfl) ?_
 rintro w37 ⟨hC,hF⟩
 refine lp (iv y17.2.2.2) (pu_assign rfl)<|ln (hK16 _ _ ?_)
 refine Wc.fresh fun E38 hE=>?_
 have e2:E38 2=pg g3:=cg hE 2 rfl
 have e3:E38 3=.bool false:=cg hE 3 rfl
 have e4:E38 4=pg g34:=cg hE 4 rfl
 have e5:E38 5=iv y17.2.2.2:=cg hE 5 rfl
 clear hE
 refine Wc.seq fun _ hK39=>rg<|lv (.agg #[.slice A19 y17.1.length c21,.slice A23 y17.2.1.length c25,iv y17.2.2.1]) (ld_blk (hC.bx (i:=0) rfl) isAgg32 sizeOf32 e4)<|lp _ (pu_move e5)<|lp (.bool (decide (y17.2.2.2=0))) (pu_eql (k:=.i64) (a:=y17.2.2.2) (b:=0) rfl rfl)<|lex.sk (hC.seta (i:=3) (ds:=[.slice A19 y17.1.length c21,.slice A23 y17.2.1.length c25,iv y17.2.2.1]) rfl type32 rfl rfl rfl e2 rfl) ?_
 rintro w40 ⟨hC,hF⟩
 refine lp (.bool (decide (y17.2.2.2=0))) (pu_assign rfl)<|ln (hK39 _ _ ?_)
 obtain rfl:=os hb
 refine Wc.ret (hKR _ _ ?_)
 refine ⟨_,res2 results23 ⟨_,e2,loadVar_blk (hC.bx (i:=3) rfl) isAgg32 sizeOf32⟩ (tV (.bool (decide (y17.2.2.2=0))) rfl),_,rfl,A19,y17.1.length,c21,A23,y17.2.1.length,c25,rfl,hr27,hC.sE [1,2]⟩
end Go.Proofs.Yteajmbanlohncaa
