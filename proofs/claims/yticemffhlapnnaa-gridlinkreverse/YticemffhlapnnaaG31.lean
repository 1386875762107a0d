import Derived.Test.YticemffhlapnnaaS
import Derived.Test.YticemffhlapnnaaG20
import Derived.Test.YticemffhlapnnaaG30
set_option linter.unusedVariables false
set_option linter.unusedSimpArgs false
namespace Go.Proofs.Yticemffhlapnnaa
open Ev Try
set_option maxRecDepth 100000
set_option maxHeartbeats 4000000
theorem mirror_Reflect_ok (n:Nat) {w:World} {O0:List Nat} (hO: ∀k∈O0,k<w.heap.size) {a:Option Addr} {j b:Nat} {g:List Int} (l:Rep O0 w (.sl si) [.slice a j b] g) {c:Option Addr} {m d:Nat} {h:List Int} (o:Rep O0 w (.sl si) [.slice c m d] h) {f:Int} (p:I64 f) {r:(List Int)×(List Int)×Int×Int} (hb:F.mirror_Reflect n g h f=some r):
    Calls prog 35 #[.agg #[.slice a j b,.slice c m d,iv f]] w fun e w'=> ∃v,e=.returned v∧∃(A0:Option Addr) (m0 c0:Nat) (A1:Option Addr) (m1 c1:Nat),v=.tuple #[.agg #[.slice A0 m0 c0,.slice A1 m1 c1,iv r.2.2.1],iv r.2.2.2]∧I64 r.2.2.1∧I64 r.2.2.2∧Cx (fun _=>False) O0 w w' [.own 3 si (.slice A0 m0 c0) r.1,.own 3 si (.slice A1 m1 c1) r.2.1]:=by
 unfold F.mirror_Reflect at hb
 have hC:=Cx.start hO
 replace hC:=hC.arg rfl l
 replace hC:=hC.arg rfl o
 clear hO
 obtain ⟨rfl,s,u⟩:=l.sl_len
 obtain ⟨rfl,x,y⟩:=o.sl_len
 refine calls_of_Wc func35 rfl (by rw [ntmps35]; exact nb rfl) fun KR hKR=>?_
 refine Wc.seq fun _ hK3=>rg<|lex.op (hC.box (cs:=[.slice a g.length b,.slice c h.length d,iv f]) rfl rfl) ?_
 rintro _ w5 ⟨g4,rfl,hC,hF,-⟩
 refine lex.op (hC.alloc (cs:=[.slice none 0 0,.slice none 0 0,iv 0]) zeroValue28 rfl) ?_
 rintro _ w8 ⟨g7,rfl,hC,hF,-⟩
 refine lp (iv 0) (pu_assign rfl)<|ln (hK3 _ _ ?_)
 refine Wc.seq fun _ hK10=>?_
 refine Wc.seq fun _ hK11=>rg<|lv (.agg #[.slice a g.length b,.slice c h.length d,iv f]) (ld_blk (hC.bx (i:=1) rfl) isAgg28 sizeOf28 rfl) ?_
 obtain ⟨y12,h13,hb⟩:=bd hb
 refine lex.cl (⟨_,_,op_call (vs:=[.agg #[.slice a g.length b,.slice c h.length d,iv f]]) call28 rfl rfl rfl,diagram_Valid_ok n hC.lt (hC.rd (i:=3) rfl) (hC.rd (i:=2) rfl) p h13⟩) ?_
 rintro _ w14 ⟨rfl,hK⟩
 replace hC:=hC.merge hK
 clear hK
 refine lp (.bool (!y12)) (pu_not (q:=y12) rfl)<|ln (hK11 _ _ ?_)
 refine Wc.cond (t:=(!y12)) (rfl) (fun hq15=>?_) (fun hq15=>?_)
 replace hb:=tt hq15 hb
 refine Wc.seq fun _ hK16=>rg<|lp (.agg #[.slice none 0 0,.slice none 0 0,iv 0]) (pu_builds (places:=[(0,1),(1,1),(2,1)]) (pv:=[]) type28 underlying28 rfl (mp_cons type22 (mp_cons type22 (mp_cons type3 mp_nil rfl rfl) rfl rfl) rfl rfl) rfl (by simp [Instr.fill,Value.cells]))<|lex.sk (hC.seta (i:=0) (ds:=[.slice none 0 0,.slice none 0 0,iv 0]) rfl type28 rfl rfl rfl rfl rfl) ?_
 rintro w17 ⟨hC,hF⟩
 refine lp (iv 1) (pu_assign rfl)<|ln (hK16 _ _ ?_)
 replace hC:=hC.nil 3 si
 replace hC:=hC.nil 3 si
 obtain rfl:=os hb
 refine Wc.ret (hKR _ _ ?_)
 refine ⟨_,res2 results35 ⟨_,rfl,loadVar_blk (hC.bx (i:=2) rfl) isAgg28 sizeOf28⟩ (tV (iv 1) rfl),_,rfl,none,0,0,none,0,0,rfl,(show I64 0 from by unfold I64; omega),(show I64 1 from by unfold I64; omega),hC.sE [1,0]⟩
 replace hb:=tf hq15 hb
 refine Wc.skip (hK10 _ _ ?_)
 refine Wc.seq fun _ hK20=>rg<|lp (.func (.func 62) #[] #[]) (pu_assign rfl)<|ln (hK20 _ _ ?_)
 refine Wc.seq fun _ hK21=>rg<|lv (.agg #[.slice a g.length b,.slice c h.length d,iv f]) (ld_blk (hC.bx (i:=1) rfl) isAgg28 sizeOf28 rfl)<|lp (.func (.func 62) #[] #[]) (pu_move rfl) ?_
 obtain ⟨y22,h23,hb⟩:=bd hb
 refine lex.cl (⟨_,_,op_call (vs:=[.agg #[.slice a g.length b,.slice c h.length d,iv f],.func (.func 62) #[] #[],.func (.func 63) #[] #[]]) call60 rfl rfl rfl,mirror_move_mirror_Reflect_c1_mirror_Reflect_c2_ok n hC.lt (hC.rd (i:=3) rfl) (hC.rd (i:=2) rfl) p h23⟩) ?_
 rintro _ w33 ⟨A24,m25,c26,A28,m29,c30,rfl,hr32,hK⟩
 replace hC:=hC.merge hK
 clear hK
 obtain ⟨rfl,hl34,hc35⟩:=(hC.ow (i:=0) rfl).sl_len
 obtain ⟨rfl,hl36,hc37⟩:=(hC.ow (i:=1) rfl).sl_len
 refine lex.sk (hC.seta (i:=2) (ds:=[.slice A24 y22.1.length c26,.slice A28 y22.2.1.length c30,iv y22.2.2]) rfl type28 rfl rfl rfl rfl rfl) ?_
 rintro w38 ⟨hC,hF⟩
 refine lp (iv 0) (pu_assign rfl)<|ln (hK21 _ _ ?_)
 obtain rfl:=os hb
 refine Wc.ret (hKR _ _ ?_)
 refine ⟨_,res2 results35 ⟨_,rfl,loadVar_blk (hC.bx (i:=2) rfl) isAgg28 sizeOf28⟩ (tV (iv 0) rfl),_,rfl,A24,y22.1.length,c26,A28,y22.2.1.length,c30,rfl,hr32,(show I64 0 from by unfold I64; omega),hC.sE [0,1]⟩
end Go.Proofs.Yticemffhlapnnaa
