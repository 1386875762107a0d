import Derived.Test.YticemffhlapnnaaPRth
import Derived.Test.YticemffhlapnnaaPRcrs
import Derived.Test.YticemffhlapnnaaPRsegs
import Derived.Test.YticemffhlapnnaaPRdia1
set_option linter.unusedVariables false
set_option linter.unusedSimpArgs false
namespace Go.Proofs.Yticemffhlapnnaa
open Ev
namespace Gl
open Gar Pg
structure Rt (n:Nat) (cx co x' o':Nat→Nat):Prop where
 x: ∀c,c<n→x' c=co (n-1-c)
 o: ∀c,c<n→o' c=cx (n-1-c)
def thQ (n:Nat) (p:Pr):Pr:=(n-1-p.2,p.1)
theorem thQ_inj {n:Nat} {p q:Pr} (hp:p.2<n) (hq:q.2<n) (h:thQ n p=thQ n q):p=q:=by
 obtain ⟨i,j⟩:=p
 obtain ⟨k,l⟩:=q
 unfold thQ at h
 obtain ⟨h1,h2⟩:=Prod.mk.inj h
 dsimp only at*
 exact Prod.ext h2 (by dsimp only; omega)
theorem crl_snd {n:Nat} {x o cx co:Nat→Nat} {p:Pr} (hp:p∈crl n x o cx co):p.2<n:=by
 obtain ⟨i,j⟩:=p
 exact (mem_crl.1 hp).2.1
section
variable {n : Nat} {x o cx co x' o' cx' co' : Nat → Nat} (g : Gd n x o cx co) (g' : Gd n x' o' cx' co') (R : Rt n cx co x' o')
include g g' R
theorem Gd.rt_cx {r:Nat} (hr:r<n):cx' r=n-1-o r∧co' r=n-1-x r:=by
 have h1:=g.xl hr
 have h2:=g.ol hr
 have e1:=R.x (n-1-o r) (by omega)
 have e2:=R.o (n-1-x r) (by omega)
 rw [show n-1-(n-1-o r)=o r by omega,g.po.gf] at e1
 rw [show n-1-(n-1-x r)=x r by omega,g.px.gf] at e2
 constructor
 ·
  have:=g'.px.gf (n-1-o r)
  rwa [e1] at this
 ·
  have:=g'.po.gf (n-1-x r)
  rwa [e2] at this
theorem Gd.rt_cr {i j:Nat} (hi:i<n) (hj:j<n):cr x' o' cx' co' (n-1-j) i=cr x o cx co i j:=by
 obtain ⟨e1,e2⟩:=g.rt_cx g' R hi
 have h1:=g.xl hi
 have h2:=g.ol hi
 have h3:=g.cxl hj
 have h4:=g.col hj
 unfold cr
 rw [R.x _ (by omega),R.o _ (by omega),e1,e2,show n-1-(n-1-j)=j by omega]
 simp only [←Bool.decide_and]
 exact decide_eq_decide.2 (by omega)
theorem Gd.rt_to (p:Pr) (hp:p∈crl n x o cx co):thQ n p∈crl n x' o' cx' co':=by
 obtain ⟨i,j⟩:=p
 obtain ⟨hi,hj,hc⟩:=mem_crl.1 hp
 refine mem_crl.2 ⟨by dsimp only; omega,hi,?_⟩
 rw [←g.rt_cr g' R hi hj] at hc
 exact hc
theorem Gd.rt_le:(crl n x o cx co).length≤(crl n x' o' cx' co').length:=by
 have:=sub_len (l1:=(crl n x o cx co).map (thQ n)) (l2:=crl n x' o' cx' co') (nodup_map (crl_nodup ..) fun p hp q hq e=>thQ_inj (crl_snd hp) (crl_snd hq) e) fun p hp=>by
  obtain ⟨q,hq,rfl⟩:=List.mem_map.1 hp
  exact g.rt_to g' R q hq
 rwa [List.length_map] at this
theorem Gd.rt_ge:(crl n x' o' cx' co').length≤(crl n x o cx co).length:=by
 have:=sub_len (l1:=(crl n x' o' cx' co').map fun p=>(p.2,n-1-p.1)) (l2:=crl n x o cx co) (nodup_map (crl_nodup ..) fun p hp q hq e=>by
  obtain ⟨a,b⟩:=p
  obtain ⟨c,d⟩:=q
  have h1:=(mem_crl.1 hp).1
  have h2:=(mem_crl.1 hq).1
  obtain ⟨e1,e2⟩:=Prod.mk.inj e
  dsimp only at*
  exact Prod.ext (by dsimp only; omega) e1) fun p hp=>by
  obtain ⟨q,hq,rfl⟩:=List.mem_map.1 hp
  obtain ⟨a,b⟩:=q
  obtain ⟨ha,hb,hc⟩:=mem_crl.1 hq
  refine mem_crl.2 ⟨hb,by dsimp only; omega,?_⟩
  have:=g.rt_cr g' R hb (show n-1-a<n by omega)
  rw [show n-1-(n-1-a)=a by omega,hc] at this
  exact this.symm
 rwa [List.length_map] at this
theorem Gd.rt_th:Th (crl n x o cx co) (crl n x' o' cx' co') (thQ n):=⟨crl_nodup ..,g.rt_to g' R,fun p hp q hq e=>thQ_inj (crl_snd hp) (crl_snd hq) e,Nat.le_antisymm (g.rt_ge g' R) (g.rt_le g' R)⟩
theorem Gd.rt_sg {p:Pr} (hp:p∈crl n x o cx co):sgn x' o' cx' co' (thQ n p)=-(sgn x o cx co p):=by
 obtain ⟨i,j⟩:=p
 obtain ⟨hi,hj,hc⟩:=mem_crl.1 hp
 obtain ⟨e1,e2⟩:=g.rt_cx g' R hi
 have h1:=g.xl hi
 have h2:=g.ol hi
 have h3:=g.ne i hi
 unfold sgn thQ
 dsimp only
 rw [R.x _ (by omega),R.o _ (by omega),e1,e2,show n-1-(n-1-j)=j by omega,show decide (n-1-x i<n-1-o i)=decide (o i<x i) from decide_eq_decide.2 (by omega),dec_flip h3]
 cases decide (x i<o i)<;>cases decide (co j<cx j)<;>rfl
theorem Gd.rt_sgl {c:Nat} (hc:c<(sgl n x o cx co).length):(sgl n x' o' cx' co').getD (pin (crl n x o cx co) (crl n x' o' cx' co') (thQ n) c) 0=-((sgl n x o cx co).getD c 0):=by
 rw [g.sgl_len] at hc
 have hm:=getD_mem hc
 have h1:=sgl_at hm
 have h2:=sgl_at (g.rt_to g' R _ hm)
 rw [(g.rt_th g' R).num_getD hc] at h1
 unfold pin
 rw [h1,h2,g.rt_sg g' R hm]
theorem Gd.rt_col {j:Nat} (hj:j<n):colV n x' o' cx' co' (n-1-j)=(rowV n x o cx co j).map (vth (crl n x o cx co) (crl n x' o' cx' co') (thQ n) true):=by
 have hb:=seg_lt (g.col hj) (g.cxl hj)
 unfold colV rowV
 rw [R.x _ (by omega),R.o _ (by omega),show n-1-(n-1-j)=j by omega,List.map_map]
 have hf:(seg (co j) (cx j)).filter (cr x' o' cx' co' (n-1-j))=(seg (co j) (cx j)).filter fun i=>cr x o cx co i j:=List.filter_congr fun r hr=>g.rt_cr g' R (hb r hr) hj
 rw [hf]
 refine List.map_congr_left fun r hr=>?_
 obtain ⟨h1,h2⟩:=List.mem_filter.1 hr
 exact ((vth_un (L':=crl n x' o' cx' co') (θ:=thQ n) (mem_crl.2 ⟨hb r h1,hj,h2⟩)).2).symm
theorem Gd.rt_row {i:Nat} (hi:i<n):rowV n x' o' cx' co' i=(colV n x o cx co i).map (vth (crl n x o cx co) (crl n x' o' cx' co') (thQ n) true):=by
 obtain ⟨e1,e2⟩:=g.rt_cx g' R hi
 have hb:=seg_lt (g.xl hi) (g.ol hi)
 unfold rowV colV
 rw [e1,e2,seg_flip (g.xl hi) (g.ol hi),List.filter_map,List.map_map,List.map_map]
 have hf:(seg (x i) (o i)).filter ((fun c=>cr x' o' cx' co' c i)∘fun t=>n-1-t)=(seg (x i) (o i)).filter (cr x o cx co i):=List.filter_congr fun t ht=>g.rt_cr g' R hi (hb t ht)
 rw [hf]
 refine List.map_congr_left fun t ht=>?_
 obtain ⟨h1,h2⟩:=List.mem_filter.1 ht
 exact ((vth_ov (L':=crl n x' o' cx' co') (θ:=thQ n) (mem_crl.2 ⟨hi,hb t h1,h2⟩)).2).symm
omit g' in
theorem Gd.rt_o {c:Nat} (hc:c<n):o' (n-1-x c)=c:=by
 have:=g.xl hc
 rw [R.o _ (by omega),show n-1-(n-1-x c)=x c by omega,g.px.gf]
theorem Gd.rt_lo {s s':List Bool} {vs vs':List (List Nat)} (hO:OrbI n (fun c=>cx (o c)) n s vs) (hO':OrbI n (fun c=>cx' (o' c)) n s' vs'):loOf n x o cx co vs≤loOf n x' o' cx' co' vs':=by
 refine lo_le_of hO hO' (fun c=>n-1-x c) (fun c h=>by have:=g.xl h; omega) (fun a b ha hb e=>?_) (fun v hv c hc=>?_) (fun v hv he c hc=>?_)
 ·
  have h1:=g.xl ha
  have h2:=g.xl hb
  have e':n-1-x a=n-1-x b:=e
  exact g.px.inj (by omega)
 ·
  have hcn:=hO.lt c (List.mem_flatten.2 ⟨v,hv,hc⟩)
  obtain ⟨k,hk,e⟩:=List.getElem_of_mem hc
  refine ⟨cx (o c),List.mem_of_getElem? (ring_at (hO.cyc v hv) (show v[k]? =some c by rw [gE hk,e])),?_⟩
  rw [g.rt_o R hcn,(g.rt_cx g' R hcn).1,g.px.fg]
 ·
  have hcn:=hO.lt c (List.mem_flatten.2 ⟨v,hv,hc⟩)
  have h1:=g.xl hcn
  obtain ⟨d,hd,e⟩:=cyc_pred (hO.cyc v hv) hc
  have hx:x c=o d:=by rw [←e]; exact g.px.fg _
  have e1:=he c hc
  have e2:=he d hd
  unfold part at e1 e2⊢
  rw [List.append_eq_nil_iff] at e1 e2
  rw [g.rt_o R hcn,g.rt_col g' R h1,g.rt_row g' R hcn,e1.1,hx,e2.2]; rfl
theorem Gd.rt_ol {s s':List Bool} {vs vs':List (List Nat)} (hO:OrbI n (fun c=>cx (o c)) n s vs) (hO':OrbI n (fun c=>cx' (o' c)) n s' vs'):loOf n x' o' cx' co' vs'≤loOf n x o cx co vs:=by
 have hnx: ∀e,e<n→cx' (o' e)=n-1-o (cx (n-1-e)):=fun e he=>by
  rw [R.o e he,(g.rt_cx g' R (g.cxl (by omega))).1]
 refine lo_le_of hO' hO (fun e=>cx (n-1-e)) (fun c h=>g.cxl (by omega)) (fun a b ha hb e=>?_) (fun v hv c hc=>?_) (fun v hv he c hc=>?_)
 ·
  have:=g.px.symm.inj e
  omega
 ·
  have hcn:=hO'.lt c (List.mem_flatten.2 ⟨v,hv,hc⟩)
  obtain ⟨k,hk,e⟩:=List.getElem_of_mem hc
  refine ⟨cx' (o' c),List.mem_of_getElem? (ring_at (hO'.cyc v hv) (show v[k]? =some c by rw [gE hk,e])),?_⟩
  have h1:=g.ol (g.cxl (show n-1-c<n by omega))
  rw [hnx c hcn,show n-1-(n-1-o (cx (n-1-c)))=o (cx (n-1-c)) by omega]
 ·
  have hcn:=hO'.lt c (List.mem_flatten.2 ⟨v,hv,hc⟩)
  obtain ⟨k,hk,e⟩:=List.getElem_of_mem hc
  have hnm:cx' (o' c)∈v:=List.mem_of_getElem? (ring_at (hO'.cyc v hv) (show v[k]? =some c by rw [gE hk,e]))
  have h0:=g.cxl (show n-1-c<n by omega)
  have h1:=g.ol h0
  have e1:=he c hc
  have e2:=he _ hnm
  unfold part at e1 e2⊢
  rw [List.append_eq_nil_iff] at e1 e2⊢
  have e3:=e1.2
  rw [R.o c hcn,g.rt_row g' R h0,List.map_eq_nil_iff] at e3
  have e4:=e2.1
  rw [hnx c hcn,g.rt_col g' R h1,List.map_eq_nil_iff] at e4
  exact ⟨e3,e4⟩
theorem Gd.mates_rt (hL:(crl n x o cx co).length≤64) {s s':List Bool} {vs vs':List (List Nat)} (hO:OrbI n (fun c=>cx (o c)) n s vs) (hO':OrbI n (fun c=>cx' (o' c)) n s' vs'):
  ∀h,h<4*(sgl n x o cx co).length→muS (sgl n x' o' cx' co') (csOf n x' o' cx' co' vs') (Tm (pin (crl n x o cx co) (crl n x' o' cx' co') (thQ n)) (tm (sgl n x o cx co) h))=Tm (pin (crl n x o cx co) (crl n x' o' cx' co') (thQ n)) (tm (sgl n x o cx co) (muS (sgl n x o cx co) (csOf n x o cx co vs) h)):=by
 have T:=g.rt_th g' R
 have hL':(crl n x' o' cx' co').length≤64:=by rw [T.len]; exact hL
 have G:=g.gv hL hO
 have M':=(g'.gv hL' hO').mt
 obtain ⟨A,hA⟩:=g'.walk_vals hL' hO'
 have hB: ∀c,∃b,c<n→Ch (inH (sgl n x' o' cx' co')) (fun u=>muS (sgl n x' o' cx' co') (csOf n x' o' cx' co' vs') (outH (sgl n x' o' cx' co') u)) (A c) (colV n x' o' cx' co' c) b∧Ch (inH (sgl n x' o' cx' co')) (fun u=>muS (sgl n x' o' cx' co') (csOf n x' o' cx' co' vs') (outH (sgl n x' o' cx' co') u)) b (rowV n x' o' cx' co' (o' c)) (A (cx' (o' c))):=fun c=>by
  by_cases hc:c<n
  ·
   obtain ⟨b,h1,h2⟩:=Ch.split (hA c hc)
   exact ⟨b,fun _=>⟨h1,h2⟩⟩
  · exact ⟨0,fun h=>absurd h hc⟩
 obtain ⟨B,hB⟩:=Classical.skolem.1 hB
 refine g.mates_to hL hO (f:=fun h=>Tm (pin (crl n x o cx co) (crl n x' o' cx' co') (thQ n)) (tm (sgl n x o cx co) h)) (A:=fun c=>B (n-1-x c)) (fun h hh=>(M'.2 _ ?_).2.2.1) fun c hc=>?_
 ·
  have h1:=(tm_tau (sgl n x o cx co)).lt hh
  rw [g.sgl_len] at h1
  have h2:=T.lt (show tm (sgl n x o cx co) h/ 4<(crl n x o cx co).length by omega)
  rw [g'.sgl_len,T.len]
  unfold Tm; omega
 ·
  have hx:=g.xl hc
  have ho:=g.ol hc
  have h1:=(hB (n-1-x c) (by omega)).2
  have h2:=(hB (n-1-o c) (by omega)).1
  rw [g.rt_o R hc,(g.rt_cx g' R hc).1,g.rt_row g' R hc] at h1
  rw [g.rt_col g' R ho] at h2
  have h3:=Ch.app h1 h2
  rw [←List.map_append] at h3
  have e:n-1-x (cx (o c))=n-1-o c:=by rw [g.px.fg]
  show Ch _ _ (B (n-1-x c)) (part n x o cx co c) (B (n-1-x (cx (o c))))
  rw [e]
  refine Ch.congr (fun u hu=>?_) (Ch.map.1 h3)
  obtain ⟨u0,u1⟩:=g.part_vis hc u hu
  have hs:=G.2.2.2.1 _ (List.getElem_mem (show u.1.toNat<(sgl n x o cx co).length by omega))
  rw [←getD_of' (by omega) 0] at hs
  obtain ⟨q1,q2⟩:=ends_tm' (π:=pin (crl n x o cx co) (crl n x' o' cx' co') (thQ n)) (u:=u) rfl hs (g.rt_sgl g' R (by omega))
  have ev:vth (crl n x o cx co) (crl n x' o' cx' co') (thQ n) true u=((pin (crl n x o cx co) (crl n x' o' cx' co') (thQ n) u.1.toNat:Int),!u.2):=by
   unfold vth
   rw [Bool.xor_true]
  rw [ev,q1,q2]
  exact ⟨rfl,rfl⟩
theorem Gd.same_rt (hn:n<20) (hL:(crl n x o cx co).length≤64) {s s':List Bool} {vs vs':List (List Nat)} (hO:OrbI n (fun c=>cx (o c)) n s vs) (hO':OrbI n (fun c=>cx' (o' c)) n s' vs') (m:Nat) (hm:200000<m):
  ∃sg1 M1,F.mirror_Mirror m (sgl n x o cx co) (mtS (sgl n x o cx co) (csOf n x o cx co vs)) (loOf n x o cx co vs)=some (sg1,M1,loOf n x o cx co vs,0)∧
   F.canon_Same m (sgl n x' o' cx' co') (mtS (sgl n x' o' cx' co') (csOf n x' o' cx' co' vs')) (loOf n x' o' cx' co' vs') sg1 M1 (loOf n x o cx co vs)=some true:=by
 have T:=g.rt_th g' R
 have hL':(crl n x' o' cx' co').length≤64:=by rw [T.len]; exact hL
 have D:=g.dv hL hO
 have D':=g'.dv hL' hO'
 have hlo:loOf n x' o' cx' co' vs'=loOf n x o cx co vs:=Int.le_antisymm (g.rt_ol g' R hO hO') (g.rt_lo g' R hO hO')
 rw [hlo] at D'
 have DM:=D.mir (tm_tau (sgl n x o cx co)) (sg':=(sgl n x o cx co).map fun s=>-s) (List.length_map ..) (fun s hs=>by
  obtain ⟨s',hs',rfl⟩:=List.mem_map.1 hs
  rcases D.sgn s' hs' with e | e<;>rw [e]<;>decide) true (fun h hh=>by
  have hs:=D.sgn _ (List.getElem_mem (show h/ 4<(sgl n x o cx co).length by omega))
  have e:(sgl n x o cx co).getD (h/ 4) 0=(sgl n x o cx co)[h/ 4]'(by omega):=getD_of' (by omega) 0
  have q1:tm (sgl n x o cx co) h/ 4=h/ 4:=(tm_tau _).q h
  have q2:tm (sgl n x o cx co) h%4=if (sgl n x o cx co)[h/ 4]'(by omega)=1 then (h%4+1)%4 else (h%4+3)%4:=by
   unfold tm turnN
   rw [e]
   split<;>omega
  unfold Outg
  rw [q1,q2,neg_get (by omega),e]
  generalize (sgl n x o cx co)[h/ 4]'(by omega)=z at*
  simp only [iff_true]
  rcases hs with hs | hs
  · rw [if_pos hs]; omega
  · rw [if_neg (by omega)]; omega) (fun μ' h' hm'=>faces_turn D.mt.iv h' (tm_tau _) hm' (tm_turn _))
 have hln:((sgl n x o cx co).map fun s=>-s).length=(sgl n x o cx co).length:=List.length_map ..
 have I:=iso_of (n:=(sgl n x o cx co).length) (sg:=(sgl n x o cx co).map fun s=>-s) (sg':=sgl n x' o' cx' co') (μ:=muS (sgl n x o cx co) (csOf n x o cx co vs)) (μ':=muS (sgl n x' o' cx' co') (csOf n x' o' cx' co' vs')) (π:=pin (crl n x o cx co) (crl n x' o' cx' co') (thQ n)) (tm_tau (sgl n x o cx co))
  (fun c h=>by rw [g.sgl_len] at h⊢; exact T.lt h) (fun a b ha hb e=>by rw [g.sgl_len] at ha hb; exact T.pinj ha hb e) (fun c hc=>by rw [neg_get hc,g.rt_sgl g' R hc]) (g.mates_rt g' R hL hO hO')
 have hcl:=g.cls_le hL hO
 have hvl:=hO.vl
 have hK:=parts_mir D.mt.iv (mt_mir D.mt (tm_tau (sgl n x o cx co))).iv (tm_tau (sgl n x o cx co)) (fun k _=>by unfold mvd2; rw [(tm_tau (sgl n x o cx co)).l])
 refine ⟨_,_,mirror_eq D m (by omega),?_⟩
 rw [hlo]
 refine (same_of_iso DM D' ?_ (by rw [hln]; exact I) (by rw [hln,hK]; omega) m hm).2
 rw [hln,g'.sgl_len,g.sgl_len,T.len]
end
open Gar
def fl1 (n:Nat) (f:Nat→Nat) (i:Nat):Nat:=if i<n then f (n-1-i) else i
def fl2 (n:Nat) (f:Nat→Nat) (j:Nat):Nat:=if j<n then n-1-f j else j
theorem pm_flip {n:Nat} {f h:Nat→Nat} (P:Pm n f h):Pm n (fl1 n f) (fl2 n h):=by
 refine ⟨fun k hk=>if_neg (by omega),fun k=>?_,fun k=>?_⟩
 ·
  unfold fl1 fl2
  by_cases hk:k<n
  ·
   have:=P.lt (show n-1-k<n by omega)
   rw [if_pos hk,if_pos this,P.gf]; omega
  · rw [if_neg hk,if_neg hk]
 ·
  unfold fl1 fl2
  by_cases hk:k<n
  ·
   have:=P.symm.lt hk
   rw [if_pos hk,if_pos (by omega),show n-1-(n-1-h k)=h k by omega,P.fg]
  · rw [if_neg hk,if_neg hk]
open Gar Pg
theorem Gd.turned {n:Nat} {x o cx co:Nat→Nat} (g:Gd n x o cx co):Gd n (fl1 n co) (fl1 n cx) (fl2 n o) (fl2 n x):=by
 refine ⟨g.lo,g.hi,pm_flip g.po.symm,pm_flip g.px.symm,fun k hk e=>?_⟩
 unfold fl1 at e
 rw [if_pos hk,if_pos hk] at e
 exact g.cne (show n-1-k<n by omega) e.symm
theorem Gd.diagram_big {n:Nat} {x o cx co:Nat→Nat} (g:Gd n x o cx co) (hL:64<(crl n x o cx co).length) (m:Nat) (hm:10000<m):F.gridlink_Diagram m (li n x) (li n o)=some ([],[],0,5):=by
 obtain ⟨r,v1,v2⟩:=gridValid (li n x) (li n o) m (by omega)
 have hr:=v2.2 g.vg
 subst hr
 unfold F.gridlink_Diagram
 rw [v1,bB,Bool.not_true,kF,g.gridCrossings m (by omega),bB,List.length_map,dT (by omega),kT]
def turnF (n k:Nat) (f:Nat→Nat) (c:Nat):Nat:=if f (n-1-c)<k then f (n-1-c) else 0
theorem turn_set {n k:Nat} {f h:Nat→Nat} (P:Pm n f h) (hk:k<n):(li n (turnF n k h)).set (n-1-f k) (k:Int)=li n (turnF n (k+1) h):=by
 have h1:=P.lt hk
 rw [li_set]
 refine li_ext fun c hc=>?_
 unfold turnF
 by_cases e:c=n-1-f k
 · rw [if_pos e,e,show n-1-(n-1-f k)=f k by omega,P.gf,if_pos (by omega)]
 ·
  rw [if_neg e]
  have:h (n-1-c)≠k:=fun q=>e (by
   have:=P.fg (n-1-c)
   rw [q] at this
   omega)
  by_cases q:h (n-1-c)<k
  · rw [if_pos q,if_pos (by omega)]
  · rw [if_neg q,if_neg (by omega)]
theorem turn_full {n:Nat} {f h:Nat→Nat} (P:Pm n f h):li n (turnF n n h)=li n (fl1 n h):=by
 refine li_ext fun c hc=>?_
 have:=P.symm.lt (show n-1-c<n by omega)
 unfold turnF fl1
 rw [if_pos this,if_pos hc]
theorem turn_zero {n:Nat} {h:Nat→Nat}:List.replicate n (0:Int)=li n (turnF n 0 h):=by
 rw [li_rep]
 refine li_ext fun c _=>?_
 unfold turnF
 rw [if_neg (by omega)]
theorem Gd.rotate {n:Nat} {x o cx co:Nat→Nat} (g:Gd n x o cx co) (m:Nat) (hm:1000<m):F.grid_Rotate m (li n x) (li n o)=some (li n (fl1 n co),li n (fl1 n cx),0):=by
 have hn:=g.hi
 have h2:=g.lo
 obtain ⟨r,v1,v2⟩:=gridValid (li n x) (li n o) m (by omega)
 have hr:=v2.2 g.vg
 subst hr
 unfold F.grid_Rotate
 rw [v1,bB,Bool.not_true,kF,li_len,pos_ok (by omega) (by omega),bB,bB,Int.toNat_natCast]
 have key:=count_loop (body:=F.grid_Rotate_b0 m (li n x) (li n o)) (fun k=>((k:Int),li n (turnF n k co),li n (turnF n k cx))) n (r:=((n:Int),li n (turnF n n co),li n (turnF n n cx))) (fun k hk=>by
  have h3:=g.xl hk
  have h4:=g.ol hk
  unfold F.grid_Rotate_b0
  dsimp only
  have e1:(n:Int)-1-((x k:Nat):Int)=((n-1-x k:Nat):Int):=by omega
  have e2:(n:Int)-1-((o k:Nat):Int)=((n-1-o k:Nat):Int):=by omega
  rw [li_len,dT (by omega),kT,chk_ok (by omega) (by omega),bB,get_at rfl (li_at hk),bB,chk_ok (by omega) (by omega),bB,e1,get_at rfl (li_at (by omega)),bB,chk_ok (by omega) (by omega),bB,get_at rfl (li_at hk),bB,chk_ok (by omega) (by omega),bB,e2,get_at rfl (li_at (by omega)),bB,bB,Int.toNat_natCast,Int.toNat_natCast,turn_set g.po hk,turn_set g.px hk]
  rfl) (by
  unfold F.grid_Rotate_b0
  dsimp only
  rw [li_len,dF (by omega),kF]) m (by omega)
 have e0:((0:Int),List.replicate n (0:Int),List.replicate n (0:Int))=(((0:Nat):Int),li n (turnF n 0 co),li n (turnF n 0 cx)):=by
  rw [←turn_zero,←turn_zero]; rfl
 rw [e0,key,bB]
 dsimp only
 rw [turn_full g.po,turn_full g.px]
end Gl
open Ev Gl Gar Pg in
theorem law44_GridlinkRotates_two (x0 x1:List Int): ∃n,F.law44_GridlinkRotates n x0 x1=some true:=by
 refine ⟨200000000,?_⟩
 unfold F.law44_GridlinkRotates
 rw [awake44,bB,Bool.not_true,kF]
 rcases small_cases1 x0 x1 200000000 with hs | ⟨hs,_,_⟩
 · rw [hs,bB,dT rfl,kT]
 rw [hs,bB,dF (by decide),kF]
 obtain ⟨r,v1,v2⟩:=gridValid x0 x1 200000000 (by omega)
 rcases diag_cases x0 x1 200000000 (by omega) with ⟨hv,hd⟩ | ⟨n,x,o,cx,co,g,rfl,rfl,hc⟩
 ·
  cases r with
  | true=>exact absurd (v2.1 rfl) hv
  | false=>rw [v1,bB,Bool.not_false,kT]
 ·
  have hr:=v2.2 g.vg
  subst hr
  rw [v1,bB,Bool.not_true,kF,li_len]
  by_cases h10:(10:Int)<(n:Int)
  · rw [dT h10,kT]
  rw [dF h10,kF,g.rotate 200000000 (by omega),bB]
  dsimp only
  have g':=g.turned
  have R:Rt n cx co (fl1 n co) (fl1 n cx):=⟨fun i hi=>if_pos hi,fun i hi=>if_pos hi⟩
  have T:=g.rt_th g' R
  rcases hc with ⟨hL,hd⟩ | ⟨hL,s,vs,hO,hd⟩
  ·
   rw [hd,bB,g'.diagram_big (by rw [T.len]; exact hL) 200000000 (by omega),bB]
   rfl
  ·
   obtain ⟨s2,vs2,hO2,hd2⟩:=g'.diag1 (by rw [T.len]; exact hL) 200000000 (by omega)
   obtain ⟨sg2,M2,m2,c2⟩:=g.same_rt g' R (by omega) hL hO hO2 200000000 (by omega)
   rw [hd,bB,hd2,bB]
   dsimp only
   rw [dT rfl,Bool.not_true,kF,kF,kF,m2,bB]
   dsimp only
   rw [dT rfl,kT,c2,bB]
theorem law44_GridlinkRotates_true (x0:List Int×List Int) (o0:Ev.Sh.ok (.pr (.sl (.int .i64)) (.sl (.int .i64))) x0): ∃n,F.law44_GridlinkRotates n x0.1 x0.2=some true:=law44_GridlinkRotates_two x0.1 x0.2
end Go.Proofs.Yticemffhlapnnaa
