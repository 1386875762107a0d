import Derived.Test.YticemffhlapnnaaPRth
import Derived.Test.YticemffhlapnnaaPRsegs
import Derived.Test.YticemffhlapnnaaPRcrs
import Derived.Test.YticemffhlapnnaaPRdia1
import Derived.Test.YticemffhlapnnaaPRints
set_option linter.unusedVariables false
set_option linter.unusedSimpArgs false
namespace Go.Proofs.Yticemffhlapnnaa
open Ev
namespace Gl
open Gar Pg
structure Rf (n:Nat) (x o x' o':Nat→Nat):Prop where
 x: ∀i,i<n→x' i=x (n-1-i)
 o: ∀i,i<n→o' i=o (n-1-i)
theorem Rf.symm {n:Nat} {x o x' o':Nat→Nat} (h:Rf n x o x' o'):Rf n x' o' x o:=
 ⟨fun i hi=>by rw [h.x _ (by omega),show n-1-(n-1-i)=i by omega],fun i hi=>by rw [h.o _ (by omega),show n-1-(n-1-i)=i by omega]⟩
def thR (n:Nat) (p:Pr):Pr:=(n-1-p.1,p.2)
section
variable {n : Nat} {x o cx co x' o' cx' co' : Nat → Nat} (g : Gd n x o cx co) (g' : Gd n x' o' cx' co') (R : Rf n x o x' o')
include g g' R
theorem Gd.rf_cx {j:Nat} (hj:j<n):cx' j=n-1-cx j∧co' j=n-1-co j:=by
 have h1:=g.cxl hj
 have h2:=g.col hj
 have e1:=R.x (n-1-cx j) (by omega)
 have e2:=R.o (n-1-co j) (by omega)
 rw [show n-1-(n-1-cx j)=cx j by omega,g.px.fg] at e1
 rw [show n-1-(n-1-co j)=co j by omega,g.po.fg] at e2
 exact ⟨by rw [←e1,g'.px.gf]; rw [e1],by rw [←e2,g'.po.gf]; rw [e2]⟩
theorem Gd.rf_cr {i j:Nat} (hi:i<n) (hj:j<n):cr x' o' cx' co' (n-1-i) j=cr x o cx co i j:=by
 obtain ⟨e1,e2⟩:=g.rf_cx g' R hj
 have h1:=g.cxl hj
 have h2:=g.col hj
 unfold cr
 rw [R.x _ (by omega),R.o _ (by omega),e1,e2,show n-1-(n-1-i)=i by omega]
 congr 1
 rw [←Bool.decide_and,←Bool.decide_and]
 exact decide_eq_decide.2 (by omega)
theorem Gd.rf_to (p:Pr) (hp:p∈crl n x o cx co):thR n p∈crl n x' o' cx' co':=by
 obtain ⟨i,j⟩:=p
 obtain ⟨hi,hj,hc⟩:=mem_crl.1 hp
 refine mem_crl.2 ⟨by dsimp only; omega,hj,?_⟩
 rw [←g.rf_cr g' R hi hj] at hc
 exact hc
omit g g' R in
theorem thR_inj {n:Nat} {p q:Pr} (hp:p.1<n) (hq:q.1<n) (h:thR n p=thR n q):p=q:=by
 obtain ⟨i,j⟩:=p
 obtain ⟨k,l⟩:=q
 unfold thR at h
 obtain ⟨h1,h2⟩:=Prod.mk.inj h
 dsimp only at*
 exact Prod.ext (by dsimp only; omega) h2
omit g g' R in
theorem crl_fst {n:Nat} {x o cx co:Nat→Nat} {p:Pr} (hp:p∈crl n x o cx co):p.1<n:=by
 obtain ⟨i,j⟩:=p
 exact (mem_crl.1 hp).1
theorem Gd.rf_le:(crl n x o cx co).length≤(crl n x' o' cx' co').length:=by
 have:=sub_len (l1:=(crl n x o cx co).map (thR n)) (l2:=crl n x' o' cx' co') (nodup_map (crl_nodup ..) fun p hp q hq e=>thR_inj (crl_fst hp) (crl_fst hq) e) fun p hp=>by
  obtain ⟨q,hq,rfl⟩:=List.mem_map.1 hp
  exact g.rf_to g' R q hq
 rwa [List.length_map] at this
theorem Gd.rf_th:Th (crl n x o cx co) (crl n x' o' cx' co') (thR n):=⟨crl_nodup ..,g.rf_to g' R,fun p hp q hq e=>thR_inj (crl_fst hp) (crl_fst hq) e,Nat.le_antisymm (g'.rf_le g R.symm) (g.rf_le g' R)⟩
theorem Gd.rf_sg {p:Pr} (hp:p∈crl n x o cx co):sgn x' o' cx' co' (thR n p)=-(sgn x o cx co p):=by
 obtain ⟨i,j⟩:=p
 obtain ⟨hi,hj,hc⟩:=mem_crl.1 hp
 obtain ⟨e1,e2⟩:=g.rf_cx g' R hj
 have h1:=g.cxl hj
 have h2:=g.col hj
 have h3:=g.cne hj
 unfold sgn thR
 dsimp only
 rw [R.x _ (by omega),R.o _ (by omega),e1,e2,show n-1-(n-1-i)=i by omega,show decide (n-1-co j<n-1-cx j)=decide (cx j<co j) from decide_eq_decide.2 (by omega),dec_flip (fun e=>h3 e.symm:co j≠cx j)]
 cases decide (x i<o i)<;>cases decide (co j<cx j)<;>rfl
theorem Gd.rf_sgl {c:Nat} (hc:c<(sgl n x o cx co).length):(sgl n x' o' cx' co').getD (pin (crl n x o cx co) (crl n x' o' cx' co') (thR n) c) 0=-((sgl n x o cx co).getD c 0):=by
 rw [g.sgl_len] at hc
 have hm:=getD_mem hc
 have h1:=sgl_at hm
 have h2:=sgl_at (g.rf_to g' R _ hm)
 rw [(g.rf_th g' R).num_getD hc] at h1
 unfold pin
 rw [h1,h2,g.rf_sg g' R hm]
theorem Gd.rf_col {i:Nat} (hi:i<n):colV n x' o' cx' co' (n-1-i)=(colV n x o cx co i).map (vth (crl n x o cx co) (crl n x' o' cx' co') (thR n) false):=by
 unfold colV
 rw [R.x _ (by omega),R.o _ (by omega),show n-1-(n-1-i)=i by omega,List.map_map]
 have hf:(seg (x i) (o i)).filter (cr x' o' cx' co' (n-1-i))=(seg (x i) (o i)).filter (cr x o cx co i):=List.filter_congr fun r hr=>g.rf_cr g' R hi (seg_lt (g.xl hi) (g.ol hi) r hr)
 rw [hf]
 refine List.map_congr_left fun r hr=>?_
 obtain ⟨h1,h2⟩:=List.mem_filter.1 hr
 exact ((vth_ov (L':=crl n x' o' cx' co') (θ:=thR n) (mem_crl.2 ⟨hi,seg_lt (g.xl hi) (g.ol hi) r h1,h2⟩)).1).symm
theorem Gd.rf_row {j:Nat} (hj:j<n):rowV n x' o' cx' co' j=(rowV n x o cx co j).map (vth (crl n x o cx co) (crl n x' o' cx' co') (thR n) false):=by
 obtain ⟨e1,e2⟩:=g.rf_cx g' R hj
 have hb:=seg_lt (g.col hj) (g.cxl hj)
 unfold rowV
 rw [e1,e2,seg_flip (g.col hj) (g.cxl hj),List.filter_map,List.map_map,List.map_map]
 have hf:(seg (co j) (cx j)).filter ((fun i=>cr x' o' cx' co' i j)∘fun t=>n-1-t)=(seg (co j) (cx j)).filter fun i=>cr x o cx co i j:=List.filter_congr fun i hi=>g.rf_cr g' R (hb i hi) hj
 rw [hf]
 refine List.map_congr_left fun i hi=>?_
 obtain ⟨h1,h2⟩:=List.mem_filter.1 hi
 exact ((vth_un (L':=crl n x' o' cx' co') (θ:=thR n) (mem_crl.2 ⟨hb i h1,hj,h2⟩)).1).symm
theorem Gd.rf_part {c:Nat} (hc:c<n):part n x' o' cx' co' (n-1-c)=(part n x o cx co c).map (vth (crl n x o cx co) (crl n x' o' cx' co') (thR n) false):=by
 unfold part
 rw [R.o _ (by omega),show n-1-(n-1-c)=c by omega,g.rf_col g' R hc,g.rf_row g' R (g.ol hc),List.map_append]
theorem Gd.rf_lo {s s':List Bool} {vs vs':List (List Nat)} (hO:OrbI n (fun c=>cx (o c)) n s vs) (hO':OrbI n (fun c=>cx' (o' c)) n s' vs'):loOf n x o cx co vs≤loOf n x' o' cx' co' vs':=by
 refine lo_le_of hO hO' (fun c=>n-1-c) (fun c h=>by omega) (fun a b _ _ e=>by omega) (fun v hv c hc=>?_) (fun v hv he c hc=>?_)
 ·
  have hcn:=hO.lt c (List.mem_flatten.2 ⟨v,hv,hc⟩)
  obtain ⟨k,hk,e⟩:=List.getElem_of_mem hc
  refine ⟨cx (o c),List.mem_of_getElem? (ring_at (hO.cyc v hv) (show v[k]? =some c by rw [gE hk,e])),?_⟩
  rw [R.o _ (by omega),show n-1-(n-1-c)=c by omega,(g.rf_cx g' R (g.ol hcn)).1]
 ·
  have hcn:=hO.lt c (List.mem_flatten.2 ⟨v,hv,hc⟩)
  rw [g.rf_part g' R hcn,he c hc]; rfl
theorem Gd.mates_rf (hL:(crl n x o cx co).length≤64) {s s':List Bool} {vs vs':List (List Nat)} (hO:OrbI n (fun c=>cx (o c)) n s vs) (hO':OrbI n (fun c=>cx' (o' c)) n s' vs'):
  ∀h,h<4*(sgl n x o cx co).length→muS (sgl n x' o' cx' co') (csOf n x' o' cx' co' vs') (Tm (pin (crl n x o cx co) (crl n x' o' cx' co') (thR n)) (rf h))=Tm (pin (crl n x o cx co) (crl n x' o' cx' co') (thR n)) (rf (muS (sgl n x o cx co) (csOf n x o cx co vs) h)):=by
 have T:=g.rf_th g' R
 have hL':(crl n x' o' cx' co').length≤64:=by rw [T.len]; exact hL
 have G:=g.gv hL hO
 have M':=(g'.gv hL' hO').mt
 obtain ⟨A,hA⟩:=g'.walk_vals hL' hO'
 refine g.mates_to hL hO (f:=fun h=>Tm (pin (crl n x o cx co) (crl n x' o' cx' co') (thR n)) (rf h)) (A:=fun c=>A (n-1-c)) (fun h hh=>(M'.2 _ ?_).2.2.1) fun c hc=>?_
 ·
  have h1:=rf_tau.lt hh
  rw [g.sgl_len] at h1
  have h2:=T.lt (show rf h/ 4<(crl n x o cx co).length by omega)
  rw [g'.sgl_len,T.len]
  unfold Tm; omega
 ·
  have h1:=hA (n-1-c) (by omega)
  rw [g.rf_part g' R hc,R.o _ (by omega),show n-1-(n-1-c)=c by omega,(g.rf_cx g' R (g.ol hc)).1] at h1
  refine Ch.congr (fun u hu=>?_) (Ch.map.1 h1)
  obtain ⟨u0,u1⟩:=g.part_vis hc u hu
  have hs:=G.2.2.2.1 _ (List.getElem_mem (show u.1.toNat<(sgl n x o cx co).length by omega))
  rw [←getD_of' (by omega) 0] at hs
  obtain ⟨q1,q2⟩:=ends_rf' (π:=pin (crl n x o cx co) (crl n x' o' cx' co') (thR n)) (u:=u) rfl hs (g.rf_sgl g' R (by omega))
  have ev:vth (crl n x o cx co) (crl n x' o' cx' co') (thR n) false u=((pin (crl n x o cx co) (crl n x' o' cx' co') (thR n) u.1.toNat:Int),u.2):=by
   unfold vth
   rw [Bool.xor_false]
  rw [ev,q1,q2]
  exact ⟨rfl,rfl⟩
theorem Gd.same_rf (hn:n<20) (hL:(crl n x o cx co).length≤64) {s s':List Bool} {vs vs':List (List Nat)} (hO:OrbI n (fun c=>cx (o c)) n s vs) (hO':OrbI n (fun c=>cx' (o' c)) n s' vs') (m:Nat) (hm:200000<m):
  ∃sg1 M1,F.mirror_Reflect m (sgl n x o cx co) (mtS (sgl n x o cx co) (csOf n x o cx co vs)) (loOf n x o cx co vs)=some (sg1,M1,loOf n x o cx co vs,0)∧
   F.canon_Same m (sgl n x' o' cx' co') (mtS (sgl n x' o' cx' co') (csOf n x' o' cx' co' vs')) (loOf n x' o' cx' co' vs') sg1 M1 (loOf n x o cx co vs)=some true:=by
 have T:=g.rf_th g' R
 have hL':(crl n x' o' cx' co').length≤64:=by rw [T.len]; exact hL
 have D:=g.dv hL hO
 have D':=g'.dv hL' hO'
 have hlo:loOf n x' o' cx' co' vs'=loOf n x o cx co vs:=Int.le_antisymm (g'.rf_lo g R.symm hO' hO) (g.rf_lo g' R hO hO')
 rw [hlo] at D'
 have DM:=D.mir rf_tau (sg':=(sgl n x o cx co).map fun s=>-s) (List.length_map ..) (fun s hs=>by
  obtain ⟨s',hs',rfl⟩:=List.mem_map.1 hs
  rcases D.sgn s' hs' with e | e<;>rw [e]<;>decide) true (fun h hh=>by
  have hs:=D.sgn _ (List.getElem_mem (show h/ 4<(sgl n x o cx co).length by omega))
  have e:(sgl n x o cx co).getD (h/ 4) 0=(sgl n x o cx co)[h/ 4]'(by omega):=getD_of' (by omega) 0
  have q1:rf h/ 4=h/ 4:=by unfold rf; omega
  have q2:rf h%4=(4-h%4)%4:=by unfold rf; omega
  unfold Outg
  rw [q1,q2,neg_get (by omega),e]
  generalize (sgl n x o cx co)[h/ 4]'(by omega)=z at*
  simp only [iff_true]
  omega) (fun μ' h' hm'=>faces_flip D.mt.iv h' rf_tau hm' rf_turn)
 have hln:((sgl n x o cx co).map fun s=>-s).length=(sgl n x o cx co).length:=List.length_map ..
 have I:=iso_of (n:=(sgl n x o cx co).length) (sg:=(sgl n x o cx co).map fun s=>-s) (sg':=sgl n x' o' cx' co') (μ:=muS (sgl n x o cx co) (csOf n x o cx co vs)) (μ':=muS (sgl n x' o' cx' co') (csOf n x' o' cx' co' vs')) (π:=pin (crl n x o cx co) (crl n x' o' cx' co') (thR n)) rf_tau
  (fun c h=>by rw [g.sgl_len] at h⊢; exact T.lt h) (fun a b ha hb e=>by rw [g.sgl_len] at ha hb; exact T.pinj ha hb e) (fun c hc=>by rw [neg_get hc,g.rf_sgl g' R hc]) (g.mates_rf g' R hL hO hO')
 have hcl:=g.cls_le hL hO
 have hvl:=hO.vl
 have hK:=parts_mir D.mt.iv (mt_mir D.mt rf_tau).iv rf_tau (fun k _=>by unfold mvd2; rw [rf_tau.l])
 refine ⟨_,_,reflect_eq D m (by omega),?_⟩
 rw [hlo]
 refine (same_of_iso DM D' ?_ (by rw [hln]; exact I) (by rw [hln,hK]; omega) m hm).2
 rw [hln,g'.sgl_len,g.sgl_len,T.len]
end
end Gl
end Go.Proofs.Yticemffhlapnnaa

set_option linter.unusedVariables false
set_option linter.unusedSimpArgs false
namespace Go.Proofs.Yticemffhlapnnaa
namespace Gl
open Ev Gar Pg
theorem revInt (l:List Int) (hl:l.length≤100000) (n:Nat) (hn:l.length<n):F.slices_Reverse_Lint_int n l=some l.reverse:=by
 obtain ⟨N,f,rfl,hN⟩: ∃(N:Nat) (f:Nat→Int),l=tab N f∧N=l.length:=⟨_,_,tab_of l 0,rfl⟩
 rw [tab_rev]
 rw [tab_len] at hl hn
 unfold F.slices_Reverse_Lint_int
 rw [tab_len,chk_ok (by omega) (by omega),bB]
 have:=count_loop (body:=F.slices_Reverse_Lint_int_b0 n) (fun k=>((k:Int),(N:Int)-1-(k:Int),tab N (fun x=>if x<k∨N<x+k+1 then f (N-1-x) else f x))) (N/ 2) (r:=(((N/ 2:Nat):Int),(N:Int)-1-((N/ 2:Nat):Int),tab N fun x=>f (N-1-x))) (fun k hk=>by
  unfold F.slices_Reverse_Lint_int_b0
  dsimp only
  have e1:(N:Int)-1-(k:Int)=((N-1-k:Nat):Int):=by omega
  rw [dT (by omega),kT,get_tab e1 (by omega),bB,get_tab rfl (by omega),bB,bB]
  rw [show (k:Int).toNat=k by omega,show ((N:Int)-1-(k:Int)).toNat=N-1-k by omega,if_neg (by omega),if_neg (by omega),tab_set,get_tab e1 (by omega),bB,chk_ok (by omega) (by omega),bB,chk_ok (by omega) (by omega),bB,tab_set]
  rw [show (N:Int)-1-(k:Int)-1=(N:Int)-1-((k+1:Nat):Int) by omega]
  congr 4
  apply tab_ext
  intro x hx
  by_cases e1:x=N-1-k
  · subst e1; rw [if_pos rfl,if_pos (by omega),show N-1-(N-1-k)=k by omega]
  ·
   rw [if_neg e1]
   by_cases e2:x=k
   · subst e2; rw [if_pos rfl,if_pos (by omega)]
   ·
    rw [if_neg e2]
    by_cases e3:x<k∨N<x+k+1
    · rw [if_pos e3,if_pos (by omega)]
    · rw [if_neg e3,if_neg (by omega)]) (by
  unfold F.slices_Reverse_Lint_int_b0
  dsimp only
  rw [dF (by omega),kF]
  congr 4
  apply tab_ext
  intro x hx
  by_cases e3:x<N/ 2∨N<x+N/ 2+1
  · rw [if_pos e3]
  · rw [if_neg e3]; congr 1; omega) n (by omega)
 have e0:tab N f=tab N (fun x=>if x<0∨N<x+0+1 then f (N-1-x) else f x):=tab_ext fun x hx=>(if_neg (by omega)).symm
 rw [e0,show ((0:Int),(N:Int)-1,tab N (fun x=>if x<0∨N<x+0+1 then f (N-1-x) else f x))=((((0:Nat)):Int),(N:Int)-1-(((0:Nat)):Int),tab N (fun x=>if x<0∨N<x+0+1 then f (N-1-x) else f x)) by simp,this,bB]
theorem cloneInt (l:List Int) (hl:l.length≤1000000) (n:Nat):F.slices_Clone_Lint_int n l=some l:=by
 unfold F.slices_Clone_Lint_int
 rw [lim_ok (by simp only [List.length_nil]; omega),bB,List.nil_append]
theorem reverse_cases (X O:List Int) (m:Nat) (hm:100<m):(¬VG X O∧F.gridlink_Reverse m X O=some ([],[],1)∧F.gridlink_Reflect m X O=some ([],[],1))∨(VG X O∧F.gridlink_Reverse m X O=some (O,X,0)∧F.gridlink_Reflect m X O=some (X.reverse,O.reverse,0)):=by
 obtain ⟨r,v1,v2⟩:=gridValid X O m (by omega)
 cases r with
 | false=>
  left
  refine ⟨fun h=>absurd (v2.2 h) (by decide),?_,?_⟩
  ·
   unfold F.gridlink_Reverse
   rw [v1,bB,Bool.not_false,kT]
  ·
   unfold F.gridlink_Reflect
   rw [v1,bB,Bool.not_false,kT]
 | true=>
  right
  have hv:=v2.1 rfl
  have h1:=hv.hi
  have h2:=hv.ol
  refine ⟨hv,?_,?_⟩
  ·
   unfold F.gridlink_Reverse
   rw [v1,bB,Bool.not_true,kF,cloneInt O (by omega),bB,cloneInt X (by omega),bB]
  ·
   unfold F.gridlink_Reflect
   rw [v1,bB,Bool.not_true,kF,cloneInt X (by omega),bB,cloneInt O (by omega),bB,revInt X (by omega) m (by omega),bB,revInt O (by omega) m (by omega),bB]
open Gar
def fl1 (n:Nat) (f:Nat→Nat) (i:Nat):Nat:=if i<n then f (n-1-i) else i
def fl2 (n:Nat) (f:Nat→Nat) (j:Nat):Nat:=if j<n then n-1-f j else j
theorem pm_flip {n:Nat} {f h:Nat→Nat} (P:Pm n f h):Pm n (fl1 n f) (fl2 n h):=by
 refine ⟨fun k hk=>if_neg (by omega),fun k=>?_,fun k=>?_⟩
 ·
  unfold fl1 fl2
  by_cases hk:k<n
  ·
   have:=P.lt (show n-1-k<n by omega)
   rw [if_pos hk,if_pos this,P.gf]; omega
  · rw [if_neg hk,if_neg hk]
 ·
  unfold fl1 fl2
  by_cases hk:k<n
  ·
   have:=P.symm.lt hk
   rw [if_pos hk,if_pos (by omega),show n-1-(n-1-h k)=h k by omega,P.fg]
  · rw [if_neg hk,if_neg hk]
theorem li_flip {n:Nat} {f:Nat→Nat}:li n (fl1 n f)=(li n f).reverse:=by
 apply List.ext_getElem?
 intro j
 by_cases h:j<n
 ·
  rw [List.getElem?_reverse (by rw [li_len]; exact h),li_len,li_at h,li_at (by omega)]
  unfold fl1
  rw [if_pos h]
 · rw [li_none (by omega),List.getElem?_eq_none (by rw [List.length_reverse,li_len]; omega)]
open Gar Pg
theorem Gd.flip {n:Nat} {x o cx co:Nat→Nat} (g:Gd n x o cx co):Gd n (fl1 n x) (fl1 n o) (fl2 n cx) (fl2 n co):=by
 refine ⟨g.lo,g.hi,pm_flip g.px,pm_flip g.po,fun k hk e=>?_⟩
 unfold fl1 at e
 rw [if_pos hk,if_pos hk] at e
 exact g.ne _ (by omega) e
end Gl
open Ev Gl Gar Pg in
theorem law44_GridlinkReverse_two (x0 x1:List Int): ∃n,F.law44_GridlinkReverse n x0 x1=some true:=by
 refine ⟨200000000,?_⟩
 unfold F.law44_GridlinkReverse
 rw [awake44,bB,Bool.not_true,kF]
 rcases small_cases1 x0 x1 200000000 with hs | ⟨hs,_,_⟩
 · rw [hs,bB,dT rfl,kT]
 rw [hs,bB,dF (by decide),kF]
 obtain ⟨r,v1,v2⟩:=gridValid x0 x1 200000000 (by omega)
 rcases diag_cases x0 x1 200000000 (by omega) with ⟨hv,hd⟩ | ⟨n,x,o,cx,co,g,rfl,rfl,hc⟩
 ·
  cases r with
  | true=>exact absurd (v2.1 rfl) hv
  | false=>rw [v1,bB,Bool.not_false,kT]
 ·
  have hr:=v2.2 g.vg
  subst hr
  rw [v1,bB,Bool.not_true,kF,li_len]
  by_cases h10:(10:Int)<(n:Int)
  · rw [dT h10,kT]
  rw [dF h10,kF]
  have hn:=g.lo
  rcases reverse_cases (li n x) (li n o) 200000000 (by omega) with ⟨hv,_,_⟩ | ⟨_,r1,r2⟩
  · exact absurd g.vg hv
  have hsame:F.ref42_Same 200000000 (li n o) (li n x) (li n o) (li n x)=some true:=by
   unfold F.ref42_Same
   rw [ints_same _ (by rw [li_len]; omega) _ (by omega),bB,kT,ints_same _ (by rw [li_len]; omega) _ (by omega),bB]
  have hloop:loopN 200000000 (F.law44_GridlinkReverse_b0 200000000 (li n x) (li n o) ((li n x).reverse,(li n o).reverse,0)) 0=some (.inl (n:Int)):=by
   have key:=count_loop (body:=F.law44_GridlinkReverse_b0 200000000 (li n x) (li n o) ((li n x).reverse,(li n o).reverse,0)) (fun k=>(k:Int)) n (r:=.inl (n:Int)) (fun k hk=>by
    unfold F.law44_GridlinkReverse_b0
    dsimp only
    have e1:Ev.get (li n x).reverse (k:Int)=some ((x (n-1-k):Nat):Int):=get_at rfl (by rw [List.getElem?_reverse (by rw [li_len]; exact hk),li_len,li_at (by omega)])
    have e2:Ev.get (li n o).reverse (k:Int)=some ((o (n-1-k):Nat):Int):=get_at rfl (by rw [List.getElem?_reverse (by rw [li_len]; exact hk),li_len,li_at (by omega)])
    have e3:Ev.get (li n x) ((n:Int)-1-(k:Int))=some ((x (n-1-k):Nat):Int):=get_at (k:=n-1-k) (by omega) (li_at (by omega))
    have e4:Ev.get (li n o) ((n:Int)-1-(k:Int))=some ((o (n-1-k):Nat):Int):=get_at (k:=n-1-k) (by omega) (li_at (by omega))
    rw [li_len,dT (by omega),kT,e1,bB,chk_ok (by omega) (by omega),bB,chk_ok (by omega) (by omega),bB,e3,bB,dT rfl,Bool.not_true,kF,e2,bB,bB,chk_ok (by omega) (by omega),bB,e4,bB,dT rfl,Bool.not_true,kF,chk_ok (by omega) (by omega),bB]
    rfl) (by
    unfold F.law44_GridlinkReverse_b0
    dsimp only
    rw [li_len,dF (by omega),kF]) 200000000 (by omega)
   exact key
  rw [r1,bB,r2,bB]
  dsimp only
  rw [dT rfl,Bool.not_true,kF,kF,hsame,bB,Bool.not_true,kF,List.length_reverse,List.length_reverse,li_len,li_len,dT rfl,Bool.not_true,kF,kF,hloop,bB]
  dsimp only
  rcases hc with ⟨hL,hd⟩ | ⟨hL,s,vs,hO,hd⟩
  ·
   rw [hd,bB]
   rfl
  ·
   have g1:=g.swap
   have g2:=g.flip
   have R:Rf n x o (fl1 n x) (fl1 n o):=⟨fun i hi=>if_pos hi,fun i hi=>if_pos hi⟩
   obtain ⟨s1,vs1,hO1,hd1⟩:=g1.diag1 (by rw [crl_swap]; exact hL) 200000000 (by omega)
   obtain ⟨s2,vs2,hO2,hd2⟩:=g2.diag1 (by rw [(g.rf_th g2 R).len]; exact hL) 200000000 (by omega)
   rw [li_flip,li_flip] at hd2
   obtain ⟨M1,m1,c1⟩:=g.same_swap (by omega) hL hO hO1 200000000 (by omega)
   obtain ⟨sg2,M2,m2,c2⟩:=g.same_rf g2 R (by omega) hL hO hO2 200000000 (by omega)
   rw [hd,bB]
   dsimp only
   rw [dT rfl,Bool.not_true,kF,hd1,bB,hd2,bB,m1,bB,m2,bB]
   dsimp only
   rw [dT rfl,kT,kT,kT,kT,c1,bB,kT,c2,bB]
theorem law44_GridlinkReverse_true (x0:List Int×List Int) (o0:Ev.Sh.ok (.pr (.sl (.int .i64)) (.sl (.int .i64))) x0): ∃n,F.law44_GridlinkReverse n x0.1 x0.2=some true:=law44_GridlinkReverse_two x0.1 x0.2
end Go.Proofs.Yticemffhlapnnaa
