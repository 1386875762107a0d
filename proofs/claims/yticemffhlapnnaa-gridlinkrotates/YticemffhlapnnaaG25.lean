import Derived.Test.YticemffhlapnnaaS
import Derived.Test.YticemffhlapnnaaG20
import Derived.Test.YticemffhlapnnaaG24
set_option linter.unusedVariables false
set_option linter.unusedSimpArgs false
namespace Go.Proofs.Yticemffhlapnnaa
open Ev Try
set_option maxRecDepth 100000
set_option maxHeartbeats 4000000
theorem mirror_exchange_mirror_Mirror_c1_ok (n:Nat) {w:World} {O0:List Nat} (hO: ∀k∈O0,k<w.heap.size) {a:Option Addr} {j b:Nat} {f:List Int} (l:Rep O0 w (.sl si) [.slice a j b] f) {c:Option Addr} {m d:Nat} {g:List Int} (o:Rep O0 w (.sl si) [.slice c m d] g) {h:Int} (p:I64 h) {r:(List Int)×(List Int)×Int} (hb:F.mirror_exchange_mirror_Mirror_c1 n f g h=some r):
    Calls prog 55 #[.agg #[.slice a j b,.slice c m d,iv h],.func (.func 56) #[] #[]] w fun e w'=> ∃v,e=.returned v∧∃(A0:Option Addr) (m0 c0:Nat) (A1:Option Addr) (m1 c1:Nat),v=.agg #[.slice A0 m0 c0,.slice A1 m1 c1,iv r.2.2]∧I64 r.2.2∧Cx (fun _=>False) O0 w w' [.own 3 si (.slice A0 m0 c0) r.1,.own 3 si (.slice A1 m1 c1) r.2.1]:=by
 unfold F.mirror_exchange_mirror_Mirror_c1 at hb
 have hC:=Cx.start hO
 replace hC:=hC.arg rfl l
 replace hC:=hC.arg rfl o
 clear hO
 obtain ⟨rfl,q,s⟩:=l.sl_len
 obtain ⟨rfl,t,u⟩:=o.sl_len
 refine calls_of_Wc func55 rfl (by rw [ntmps55]; exact nb rfl) fun KR hKR=>?_
 refine Wc.seq fun _ hK3=>rg<|lex.op (hC.box (cs:=[.slice a f.length b,.slice c g.length d,iv h]) rfl rfl) ?_
 rintro _ w5 ⟨g4,rfl,hC,hF,-⟩
 refine lex.op (hC.box (cs:=[.func (.func 56) #[] #[]]) rfl rfl) ?_
 rintro _ w8 ⟨g7,rfl,hC,hF,-⟩
 refine lex.op (hC.alloc (cs:=[.slice none 0 0,.slice none 0 0,iv 0]) zeroValue28 rfl) ?_
 rintro _ w11 ⟨g10,rfl,hC,hF,-⟩
 refine ln (hK3 _ _ ?_)
 refine Wc.seq fun _ hK13=>rg<|lp (.func (.func 80) #[] #[pg g7,pg g4]) (pu_funcc rfl)<|lp (.func (.func 80) #[] #[pg g7,pg g4]) (pu_assign rfl)<|ln (hK13 _ _ ?_)
 refine Wc.seq fun _ hK14=>rg<|lv (.agg #[.slice a f.length b,.slice c g.length d,iv h]) (ld_blk (hC.bx (i:=2) rfl) isAgg28 sizeOf28 rfl)<|lp (.func (.func 80) #[] #[pg g7,pg g4]) (pu_move rfl)<|lp (.func (.func 81) #[] #[pg g7]) (pu_funcc rfl) ?_
 replace hC:Cx (fun _=>False) O0 w w11 ([.box g7 78 [.func (.func 56) #[] #[]],.box g4 28 [.slice a f.length b,.slice c g.length d,iv h]]++[.box g10 28 [.slice none 0 0,.slice none 0 0,iv 0],.ro (.sl si) [.slice c g.length d] g,.ro (.sl si) [.slice a f.length b] f]):=hC.sE [1,2,0,3,4]
 obtain ⟨y15,h16,hb⟩:=bd hb
 refine lex.cl (⟨_,_,op_call (vs:=[.agg #[.slice a f.length b,.slice c g.length d,iv h],.func (.func 80) #[] #[pg g7,pg g4],.func (.func 81) #[] #[pg g7]]) call60 rfl rfl rfl,mirror_move_mirror_exchange_c1_mirror_exchange_c2_ok n hC.lt (hC.rd (i:=4) rfl) (hC.rd (i:=3) rfl) p (hC.rd (i:=4) rfl) (hC.rd (i:=3) rfl) p hC.give h16⟩) ?_
 rintro _ w26 ⟨A17,m18,c19,A21,m22,c23,rfl,hr25,hK⟩
 replace hC:=hC.back hK
 clear hK
 obtain ⟨rfl,hl27,hc28⟩:=(hC.ow (i:=0) rfl).sl_len
 obtain ⟨rfl,hl29,hc30⟩:=(hC.ow (i:=1) rfl).sl_len
 refine lex.sk (hC.seta (i:=4) (ds:=[.slice A17 y15.1.length c19,.slice A21 y15.2.1.length c23,iv y15.2.2]) rfl type28 rfl rfl rfl rfl rfl) ?_
 rintro w31 ⟨hC,hF⟩
 refine ln (hK14 _ _ ?_)
 obtain rfl:=os hb
 refine Wc.ret (hKR _ _ ?_)
 refine ⟨_,res1 results55 ⟨_,rfl,loadVar_blk (hC.bx (i:=4) rfl) isAgg28 sizeOf28⟩,_,rfl,A17,y15.1.length,c19,A21,y15.2.1.length,c23,rfl,hr25,hC.sE [0,1]⟩

theorem mirror_Mirror_ok (n:Nat) {w:World} {O0:List Nat} (hO: ∀k∈O0,k<w.heap.size) {a:Option Addr} {j b:Nat} {g:List Int} (l:Rep O0 w (.sl si) [.slice a j b] g) {c:Option Addr} {m d:Nat} {h:List Int} (o:Rep O0 w (.sl si) [.slice c m d] h) {f:Int} (p:I64 f) {r:(List Int)×(List Int)×Int×Int} (hb:F.mirror_Mirror n g h f=some r):
    Calls prog 32 #[.agg #[.slice a j b,.slice c m d,iv f]] w fun e w'=> ∃v,e=.returned v∧∃(A0:Option Addr) (m0 c0:Nat) (A1:Option Addr) (m1 c1:Nat),v=.tuple #[.agg #[.slice A0 m0 c0,.slice A1 m1 c1,iv r.2.2.1],iv r.2.2.2]∧I64 r.2.2.1∧I64 r.2.2.2∧Cx (fun _=>False) O0 w w' [.own 3 si (.slice A0 m0 c0) r.1,.own 3 si (.slice A1 m1 c1) r.2.1]:=by
 unfold F.mirror_Mirror at hb
 have hC:=Cx.start hO
 replace hC:=hC.arg rfl l
 replace hC:=hC.arg rfl o
 clear hO
 obtain ⟨rfl,s,u⟩:=l.sl_len
 obtain ⟨rfl,x,y⟩:=o.sl_len
 refine calls_of_Wc func32 rfl (by rw [ntmps32]; exact nb rfl) fun KR hKR=>?_
 refine Wc.seq fun _ hK3=>rg<|lex.op (hC.box (cs:=[.slice a g.length b,.slice c h.length d,iv f]) rfl rfl) ?_
 rintro _ w5 ⟨g4,rfl,hC,hF,-⟩
 refine lex.op (hC.alloc (cs:=[.slice none 0 0,.slice none 0 0,iv 0]) zeroValue28 rfl) ?_
 rintro _ w8 ⟨g7,rfl,hC,hF,-⟩
 refine lp (iv 0) (pu_assign rfl)<|ln (hK3 _ _ ?_)
 refine Wc.seq fun _ hK10=>?_
 refine Wc.seq fun _ hK11=>rg<|lv (.agg #[.slice a g.length b,.slice c h.length d,iv f]) (ld_blk (hC.bx (i:=1) rfl) isAgg28 sizeOf28 rfl) ?_
 obtain ⟨y12,h13,hb⟩:=bd hb
 refine lex.cl (⟨_,_,op_call (vs:=[.agg #[.slice a g.length b,.slice c h.length d,iv f]]) call28 rfl rfl rfl,diagram_Valid_ok n hC.lt (hC.rd (i:=3) rfl) (hC.rd (i:=2) rfl) p h13⟩) ?_
 rintro _ w14 ⟨rfl,hK⟩
 replace hC:=hC.merge hK
 clear hK
 refine lp (.bool (!y12)) (pu_not (q:=y12) rfl)<|ln (hK11 _ _ ?_)
 refine Wc.cond (t:=(!y12)) (rfl) (fun hq15=>?_) (fun hq15=>?_)
 replace hb:=tt hq15 hb
 refine Wc.seq fun _ hK16=>rg<|lp (.agg #[.slice none 0 0,.slice none 0 0,iv 0]) (pu_builds (places:=[(0,1),(1,1),(2,1)]) (pv:=[]) type28 underlying28 rfl (mp_cons type22 (mp_cons type22 (mp_cons type3 mp_nil rfl rfl) rfl rfl) rfl rfl) rfl (by simp [Instr.fill,Value.cells]))<|lex.sk (hC.seta (i:=0) (ds:=[.slice none 0 0,.slice none 0 0,iv 0]) rfl type28 rfl rfl rfl rfl rfl) ?_
 rintro w17 ⟨hC,hF⟩
 refine lp (iv 1) (pu_assign rfl)<|ln (hK16 _ _ ?_)
 replace hC:=hC.nil 3 si
 replace hC:=hC.nil 3 si
 obtain rfl:=os hb
 refine Wc.ret (hKR _ _ ?_)
 refine ⟨_,res2 results32 ⟨_,rfl,loadVar_blk (hC.bx (i:=2) rfl) isAgg28 sizeOf28⟩ (tV (iv 1) rfl),_,rfl,none,0,0,none,0,0,rfl,(show I64 0 from by unfold I64; omega),(show I64 1 from by unfold I64; omega),hC.sE [1,0]⟩
 replace hb:=tf hq15 hb
 refine Wc.skip (hK10 _ _ ?_)
 refine Wc.seq fun _ hK20=>rg<|lv (.agg #[.slice a g.length b,.slice c h.length d,iv f]) (ld_blk (hC.bx (i:=1) rfl) isAgg28 sizeOf28 rfl) ?_
 obtain ⟨y21,h22,hb⟩:=bd hb
 refine lex.cl (⟨_,_,op_call (vs:=[.agg #[.slice a g.length b,.slice c h.length d,iv f],.func (.func 56) #[] #[]]) call55 rfl rfl rfl,mirror_exchange_mirror_Mirror_c1_ok n hC.lt (hC.rd (i:=3) rfl) (hC.rd (i:=2) rfl) p h22⟩) ?_
 rintro _ w32 ⟨A23,m24,c25,A27,m28,c29,rfl,hr31,hK⟩
 replace hC:=hC.merge hK
 clear hK
 obtain ⟨rfl,hl33,hc34⟩:=(hC.ow (i:=0) rfl).sl_len
 obtain ⟨rfl,hl35,hc36⟩:=(hC.ow (i:=1) rfl).sl_len
 refine lex.sk (hC.seta (i:=2) (ds:=[.slice A23 y21.1.length c25,.slice A27 y21.2.1.length c29,iv y21.2.2]) rfl type28 rfl rfl rfl rfl rfl) ?_
 rintro w37 ⟨hC,hF⟩
 refine lp (iv 0) (pu_assign rfl)<|ln (hK20 _ _ ?_)
 obtain rfl:=os hb
 refine Wc.ret (hKR _ _ ?_)
 refine ⟨_,res2 results32 ⟨_,rfl,loadVar_blk (hC.bx (i:=2) rfl) isAgg28 sizeOf28⟩ (tV (iv 0) rfl),_,rfl,A23,y21.1.length,c25,A27,y21.2.1.length,c29,rfl,hr31,(show I64 0 from by unfold I64; omega),hC.sE [0,1]⟩
end Go.Proofs.Yticemffhlapnnaa
