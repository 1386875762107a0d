import Derived.Test.YticemffhlapnnaaPRlatS
set_option linter.all false
namespace Go.Proofs.Yticemffhlapnnaa
open Ev
namespace Gl
open Gar Pg
theorem flatMap_nodup {β:Type} {P:Nat→List β}: ∀{v:List Nat},v.Nodup→(∀c∈v,(P c).Nodup)→(∀c∈v,∀d∈v,∀u,u∈P c→u∈P d→c=d)→(v.flatMap P).Nodup
 | [],_,_,_=>List.nodup_nil
 | c::v,h1,h2,h3=>by
  obtain ⟨hc,hv⟩:=List.nodup_cons.1 h1
  rw [List.flatMap_cons,List.nodup_append]
  refine ⟨h2 c (by simp),flatMap_nodup hv (fun d hd=>h2 d (by simp [hd])) (fun a ha b hb u=>h3 a (by simp [ha]) b (by simp [hb]) u),fun a ha b hb e=>?_⟩
  subst e
  obtain ⟨d,hd,hu⟩:=List.mem_flatMap.1 hb
  exact hc (h3 c (by simp) d (by simp [hd]) a ha hu▸hd)
theorem len_of_same {α:Type} [DecidableEq α] {l1 l2:List α} (h1:l1.Nodup) (h2:l2.Nodup) (h: ∀a,a∈l1↔a∈l2):l1.length=l2.length:=
 Nat.le_antisymm (qea h1 fun a ha=>(h a).1 ha) (qea h2 fun a ha=>(h a).2 ha)
theorem num_inj {L:List (Nat×Nat)} {p q:Nat×Nat} (hp:p∈L) (hq:q∈L) (h:num L p=num L q):p=q:=by
 have h1:=at_num hp
 have h2:=at_num hq
 rw [h,h2] at h1
 exact (Option.some.inj h1).symm
theorem cs_flatten (n:Nat) (x o cx co:Nat→Nat) (vs:List (List Nat)):(csOf n x o cx co vs).flatten=vs.flatten.flatMap (part n x o cx co):=by
 unfold csOf
 induction vs with
 | nil=>rfl
 | cons v vs ih=>
  rw [List.map_cons,List.filter_cons,List.flatten_cons,List.flatMap_append,←ih]
  by_cases h:v.flatMap (part n x o cx co)=[]
  · rw [if_neg (by simp only [Bool.not_eq_true',List.isEmpty_eq_false_iff]; exact fun q=>q h),h,List.nil_append]
  · rw [if_pos (by simp only [Bool.not_eq_true',List.isEmpty_eq_false_iff]; exact h),List.flatten_cons]
section
variable {n : Nat} {x o cx co : Nat → Nat} (g : Gd n x o cx co)
include g
theorem Gd.mem_colV {c:Nat} (hc:c<n) {u:Vis}:u∈colV n x o cx co c↔∃r,cr x o cx co c r=true∧r<n∧u=vov (crl n x o cx co) (c,r):=by
 rw [g.colV_eq hc,crl_col hc]
 have:u∈(((List.range n).filter (cr x o cx co c)).map fun j=>(c,j)).map (vov (crl n x o cx co))↔∃r,cr x o cx co c r=true∧r<n∧u=vov (crl n x o cx co) (c,r):=by
  simp only [List.mem_map,List.mem_filter,List.mem_range]
  constructor
  · rintro ⟨p,⟨r,⟨h1,h2⟩,rfl⟩,rfl⟩; exact ⟨r,h2,h1,rfl⟩
  · rintro ⟨r,h1,h2,rfl⟩; exact ⟨_,⟨r,⟨h2,h1⟩,rfl⟩,rfl⟩
 split
 · exact this
 · rw [List.mem_reverse]; exact this
theorem Gd.mem_rowV {j:Nat} (hj:j<n) {u:Vis}:u∈rowV n x o cx co j↔∃i,cr x o cx co i j=true∧i<n∧u=vun (crl n x o cx co) (i,j):=by
 rw [g.rowV_eq hj,crl_row hj]
 have:u∈(((List.range n).filter fun i=>cr x o cx co i j).map fun i=>(i,j)).map (vun (crl n x o cx co))↔∃i,cr x o cx co i j=true∧i<n∧u=vun (crl n x o cx co) (i,j):=by
  simp only [List.mem_map,List.mem_filter,List.mem_range]
  constructor
  · rintro ⟨p,⟨r,⟨h1,h2⟩,rfl⟩,rfl⟩; exact ⟨r,h2,h1,rfl⟩
  · rintro ⟨r,h1,h2,rfl⟩; exact ⟨_,⟨r,⟨h2,h1⟩,rfl⟩,rfl⟩
 split
 · exact this
 · rw [List.mem_reverse]; exact this
theorem Gd.colV_nodup {c:Nat} (hc:c<n):(colV n x o cx co c).Nodup:=by
 rw [g.colV_eq hc]
 have:(((crl n x o cx co).filter fun p=>decide (p.1=c)).map (vov (crl n x o cx co))).Nodup:=by
  refine qcg (List.Nodup.sublist List.filter_sublist (qfg ..)) fun a ha b hb e=>?_
  unfold vov at e
  exact num_inj (List.mem_filter.1 ha).1 (List.mem_filter.1 hb).1 (by have:=(Prod.mk.inj e).1; omega)
 split
 · exact this
 · exact (List.reverse_perm _).nodup_iff.2 this
theorem Gd.rowV_nodup {j:Nat} (hj:j<n):(rowV n x o cx co j).Nodup:=by
 rw [g.rowV_eq hj]
 have:(((crl n x o cx co).filter fun p=>decide (p.2=j)).map (vun (crl n x o cx co))).Nodup:=by
  refine qcg (List.Nodup.sublist List.filter_sublist (qfg ..)) fun a ha b hb e=>?_
  unfold vun at e
  exact num_inj (List.mem_filter.1 ha).1 (List.mem_filter.1 hb).1 (by have:=(Prod.mk.inj e).1; omega)
 split
 · exact this
 · exact (List.reverse_perm _).nodup_iff.2 this
theorem Gd.part_nodup {c:Nat} (hc:c<n):(part n x o cx co c).Nodup:=by
 unfold part
 rw [List.nodup_append]
 refine ⟨g.colV_nodup hc,g.rowV_nodup (g.ol hc),fun a ha b hb e=>?_⟩
 subst e
 obtain ⟨r,_,_,e1⟩:=(g.mem_colV hc).1 ha
 obtain ⟨i,_,_,e2⟩:=(g.mem_rowV (g.ol hc)).1 hb
 rw [e1] at e2
 have:=congrArg Prod.snd e2
 cases this
theorem Gd.part_dis {c d:Nat} (hc:c<n) (hd:d<n) {u:Vis} (h1:u∈part n x o cx co c) (h2:u∈part n x o cx co d):c=d:=by
 unfold part at h1 h2
 rcases List.mem_append.1 h1 with h1 | h1<;>rcases List.mem_append.1 h2 with h2 | h2
 ·
  obtain ⟨r,a1,a2,e1⟩:=(g.mem_colV hc).1 h1
  obtain ⟨i,b1,b2,e2⟩:=(g.mem_colV hd).1 h2
  rw [e1] at e2
  unfold vov at e2
  have:=num_inj (qej.2 ⟨hc,a2,a1⟩) (qej.2 ⟨hd,b2,b1⟩) (by have:=(Prod.mk.inj e2).1; omega)
  exact (Prod.mk.inj this).1
 ·
  obtain ⟨r,a1,a2,e1⟩:=(g.mem_colV hc).1 h1
  obtain ⟨i,b1,b2,e2⟩:=(g.mem_rowV (g.ol hd)).1 h2
  rw [e1] at e2
  have:=congrArg Prod.snd e2
  cases this
 ·
  obtain ⟨r,a1,a2,e1⟩:=(g.mem_rowV (g.ol hc)).1 h1
  obtain ⟨i,b1,b2,e2⟩:=(g.mem_colV hd).1 h2
  rw [e1] at e2
  have:=congrArg Prod.snd e2
  cases this
 ·
  obtain ⟨r,a1,a2,e1⟩:=(g.mem_rowV (g.ol hc)).1 h1
  obtain ⟨i,b1,b2,e2⟩:=(g.mem_rowV (g.ol hd)).1 h2
  rw [e1] at e2
  unfold vun at e2
  have:=num_inj (qej.2 ⟨a2,g.ol hc,a1⟩) (qej.2 ⟨b2,g.ol hd,b1⟩) (by have:=(Prod.mk.inj e2).1; omega)
  exact g.po.inj (Prod.mk.inj this).2
theorem Gd.gv (hL:(crl n x o cx co).length≤64) {s:List Bool} {vs:List (List Nat)} (hO:OrbI n (fun c=>cx (o c)) n s vs):GV (csOf n x o cx co vs) (sgl n x o cx co) (loOf n x o cx co vs):=by
 have hn:=g.hi
 obtain ⟨l0,l1⟩:=lo_le (n:=n) (x:=x) (o:=o) (cx:=cx) (co:=co) vs
 have hvl:=hO.vl
 have hnd:(vs.flatten.flatMap (part n x o cx co)).Nodup:=flatMap_nodup hO.nd (fun c hc=>g.part_nodup (hO.lt c hc)) fun c hc d hd u h1 h2=>g.part_dis (hO.lt c hc) (hO.lt d hd) h1 h2
 refine ⟨by rw [g.sgl_len]; exact hL,l0,by omega,fun s hs=>?_,fun c hc=>?_,?_,?_,?_⟩
 ·
  unfold sgl at hs
  obtain ⟨p,_,rfl⟩:=List.mem_map.1 hs
  exact sgn_or x o cx co p
 ·
  unfold csOf at hc
  have:=(List.mem_filter.1 hc).2
  intro e
  subst e
  cases this
 ·
  rw [cs_flatten]
  exact g.ways_vis hO.lt
 · rw [cs_flatten]; exact hnd
 ·
  rw [cs_flatten]
  have hV:((crl n x o cx co).map (vov (crl n x o cx co))++(crl n x o cx co).map (vun (crl n x o cx co))).Nodup:=by
   rw [List.nodup_append]
   refine ⟨qcg (qfg ..) fun a ha b hb e=>num_inj ha hb (by have:=(Prod.mk.inj e).1; omega),qcg (qfg ..) fun a ha b hb e=>num_inj ha hb (by have:=(Prod.mk.inj e).1; omega),fun a ha b hb e=>?_⟩
   subst e
   obtain ⟨p,_,e1⟩:=List.mem_map.1 ha
   obtain ⟨q,_,e2⟩:=List.mem_map.1 hb
   rw [←e1] at e2
   have:=congrArg Prod.snd e2
   cases this
  have:=len_of_same hnd hV fun u=>by
   rw [List.mem_flatMap,List.mem_append,List.mem_map,List.mem_map]
   constructor
   ·
    rintro ⟨c,hc,hu⟩
    have hcn:=hO.lt c hc
    unfold part at hu
    rcases List.mem_append.1 hu with hu | hu
    ·
     obtain ⟨r,a1,a2,e1⟩:=(g.mem_colV hcn).1 hu
     exact .inl ⟨(c,r),qej.2 ⟨hcn,a2,a1⟩,e1.symm⟩
    ·
     obtain ⟨r,a1,a2,e1⟩:=(g.mem_rowV (g.ol hcn)).1 hu
     exact .inr ⟨(r,o c),qej.2 ⟨a2,g.ol hcn,a1⟩,e1.symm⟩
   ·
    rintro (⟨⟨i,j⟩,hp,e⟩ | ⟨⟨i,j⟩,hp,e⟩)
    ·
     obtain ⟨hi,hj,hc⟩:=qej.1 hp
     exact ⟨i,hO.cov i hi,List.mem_append_left _ ((g.mem_colV hi).2 ⟨j,hc,hj,e.symm⟩)⟩
    ·
     obtain ⟨hi,hj,hc⟩:=qej.1 hp
     refine ⟨co j,hO.cov _ (g.col hj),List.mem_append_right _ ?_⟩
     rw [g.po.fg j]
     exact (g.mem_rowV hj).2 ⟨i,hc,hi,e.symm⟩
  rw [this,List.length_append,List.length_map,List.length_map,g.sgl_len]
  omega
omit g in
theorem ring_at {nx:Nat→Nat} {v:List Nat} (hv:Cyc nx v) {k c:Nat} (h:v[k]? =some c):v[(k+1)%v.length]? =some (nx c):=by
 have hk:=(List.getElem?_eq_some_iff.1 h).1
 rw [hv.2 k hk,h]; rfl
omit g in
theorem ring_ch {β α:Type} {In Out:β→α} {P:Nat→List β} {nx:Nat→Nat} {v:List Nat} (hv:Cyc nx v) {A:Nat→α} (h: ∀c∈v,Ch In Out (A c) (P c) (A (nx c))): ∃x,Ch In Out x (v.flatMap P) x:=by
 have hp:0<v.length:=List.length_pos_iff.2 hv.1
 obtain ⟨c,hc⟩: ∃c,v[0]? =some c:=⟨_,gE hp⟩
 refine ⟨A c,Ch.flat hv.1 (fun k c d h1 h2=>?_) (fun d hd=>?_) c hc⟩
 ·
  have hk:=(List.getElem?_eq_some_iff.1 h2).1
  have h3:=ring_at hv h1
  rw [Nat.mod_eq_of_lt hk,h2] at h3
  rw [Option.some.inj h3]
  exact h c (List.mem_of_getElem? h1)
 ·
  have h3:=ring_at hv hd
  rw [show v.length-1+1=v.length by omega,Nat.mod_self,hc] at h3
  rw [Option.some.inj h3]
  exact h d (List.mem_of_getElem? hd)
omit g in
theorem ring_vals {β α:Type} {In Out:β→α} {P:Nat→List β} {nx:Nat→Nat} {v:List Nat} (hv:Cyc nx v) (hn:v.Nodup) {x:α} (h:Ch In Out x (v.flatMap P) x): ∃a:Nat→α,∀c∈v,Ch In Out (a c) (P c) (a (nx c)):=by
 obtain ⟨a,a1,a2,a3⟩:=Ch.vals hn hv.1 h
 have hp:0<v.length:=List.length_pos_iff.2 hv.1
 refine ⟨a,fun c hc=>?_⟩
 obtain ⟨k,hk,e⟩:=List.getElem_of_mem hc
 have hc':v[k]? =some c:=by rw [gE hk,e]
 have h3:=ring_at hv hc'
 rcases Nat.lt_or_ge (k+1) v.length with q | q
 ·
  rw [Nat.mod_eq_of_lt q] at h3
  exact a2 k c _ hc' h3
 ·
  have:k=v.length-1:=by omega
  rw [show k+1=v.length by omega,Nat.mod_self] at h3
  rw [this] at hc'
  rw [a1 _ h3]
  exact a3 c hc'
omit g in
theorem rings_vals {β α:Type} [Inhabited α] {In Out:β→α} {P:Nat→List β} {nx:Nat→Nat}: ∀{vs:List (List Nat)},vs.flatten.Nodup→(∀v∈vs,Cyc nx v)→(∀v∈vs,∃x,Ch In Out x (v.flatMap P) x)→∃a:Nat→α,∀c∈vs.flatten,Ch In Out (a c) (P c) (a (nx c))
 | [],_,_,_=>⟨fun _=>default,fun c hc=>absurd hc (by simp)⟩
 | v::vs,hn,hc,h=>by
  rw [List.flatten_cons,List.nodup_append] at hn
  obtain ⟨n1,n2,n3⟩:=hn
  obtain ⟨x,hx⟩:=h v (by simp)
  have hv:=hc v (by simp)
  obtain ⟨a1,h1⟩:=ring_vals hv n1 hx
  obtain ⟨a2,h2⟩:=rings_vals (vs:=vs) n2 (fun u hu=>hc u (by simp [hu])) (fun u hu=>h u (by simp [hu]))
  have closed: ∀u,Cyc nx u→∀c∈u,nx c∈u:=fun u hu c hcu=>by
   obtain ⟨k,hk,e⟩:=List.getElem_of_mem hcu
   exact List.mem_of_getElem? (ring_at hu (show u[k]? =some c by rw [gE hk,e]))
  refine ⟨fun c=>if c∈v then a1 c else a2 c,fun c hcm=>?_⟩
  rw [List.flatten_cons] at hcm
  by_cases hcv:c∈v
  ·
   dsimp only
   rw [if_pos hcv,if_pos (closed v hv c hcv)]
   exact h1 c hcv
  ·
   have hcf:=(List.mem_append.1 hcm).resolve_left hcv
   obtain ⟨u,hu,hcu⟩:=List.mem_flatten.1 hcf
   have hnx:nx c∉v:=fun q=>n3 _ q _ (List.mem_flatten.2 ⟨u,hu,closed u (hc u (by simp [hu])) c hcu⟩) rfl
   dsimp only
   rw [if_neg hcv,if_neg hnx]
   exact h2 c hcf
omit g in
theorem Gd.pair_of (g:Gd n x o cx co) {vs:List (List Nat)} {a b:Nat} (h:(a,b)∈allP (sgl n x o cx co) (csOf n x o cx co vs)): ∃v∈vs,∃k u w,k<(v.flatMap (part n x o cx co)).length∧(v.flatMap (part n x o cx co))[k]? =some u∧(v.flatMap (part n x o cx co))[(k+1)%(v.flatMap (part n x o cx co)).length]? =some w∧a=outH (sgl n x o cx co) u∧b=inH (sgl n x o cx co) w:=by
 unfold allP csOf at h
 obtain ⟨w,hw,hp⟩:=List.mem_flatMap.1 h
 obtain ⟨v,hv,rfl⟩:=List.mem_map.1 (List.mem_filter.1 hw).1
 unfold prs at hp
 obtain ⟨k,hk,e⟩:=List.mem_map.1 hp
 rw [List.mem_range] at hk
 have hm:(k+1)%(v.flatMap (part n x o cx co)).length<(v.flatMap (part n x o cx co)).length:=Nat.mod_lt _ (by omega)
 refine ⟨v,hv,k,_,_,hk,gE hk,gE hm,?_⟩
 rw [qbl hk,qbl hm] at e
 exact ⟨(Prod.mk.inj e).1.symm,(Prod.mk.inj e).2.symm⟩
omit g in
theorem Gd.pair_at (g:Gd n x o cx co) {vs:List (List Nat)} {v:List Nat} (hv:v∈vs) {k:Nat} {u w:Vis} (hk:k<(v.flatMap (part n x o cx co)).length) (hu:(v.flatMap (part n x o cx co))[k]? =some u) (hw:(v.flatMap (part n x o cx co))[(k+1)%(v.flatMap (part n x o cx co)).length]? =some w):
  (outH (sgl n x o cx co) u,inH (sgl n x o cx co) w)∈allP (sgl n x o cx co) (csOf n x o cx co vs):=by
 unfold allP csOf
 have hm:(k+1)%(v.flatMap (part n x o cx co)).length<(v.flatMap (part n x o cx co)).length:=Nat.mod_lt _ (by omega)
 refine List.mem_flatMap.2 ⟨v.flatMap (part n x o cx co),List.mem_filter.2 ⟨List.mem_map.2 ⟨v,hv,rfl⟩,?_⟩,?_⟩
 ·
  simp only [Bool.not_eq_true',List.isEmpty_eq_false_iff]
  intro e
  rw [e] at hk
  exact absurd hk (by simp)
 ·
  unfold prs
  refine List.mem_map.2 ⟨k,List.mem_range.2 hk,?_⟩
  rw [qbl hk,qbl hm]
  rw [gE hk] at hu
  rw [gE hm] at hw
  rw [Option.some.inj hu,Option.some.inj hw]
theorem Gd.parts (hL:(crl n x o cx co).length≤64) {s:List Bool} {vs:List (List Nat)} (hO:OrbI n (fun c=>cx (o c)) n s vs):Parts (sgl n x o cx co).length (muS (sgl n x o cx co) (csOf n x o cx co vs)):=by
 have G:=g.gv hL hO
 intro S hS hE
 -- values along the rings
 have hring: ∀v∈vs,∃y,Ch (inS (sgl n x o cx co) S) (outS (sgl n x o cx co) S) y (v.flatMap (part n x o cx co)) y:=by
  intro v hv
  by_cases he:v.flatMap (part n x o cx co)=[]
  · rw [he]; exact ⟨false,rfl⟩
  ·
   refine Ch.of_ring he fun k u w hk hu hw=>?_
   obtain ⟨_,_,m1,_,l1,_⟩:=qfv G (g.pair_at hv hk hu hw)
   have:=hS _ l1
   rw [m1] at this
   exact this.symm
 obtain ⟨a,ha⟩:=rings_vals hO.nd hO.cyc hring
 obtain ⟨vv,hh,L,hcr⟩:=g.lat (S:=S) (a:=a) (fun c hc=>ha c (hO.cov c hc)) (fun c hc=>hE c (by rw [g.sgl_len]; exact hc))
 refine ⟨kap (crl n x o cx co) cx co hh,?_,fun h hh1=>?_⟩
 ·
  -- colours along the rings
  have hpair: ∀a b,(a,b)∈allP (sgl n x o cx co) (csOf n x o cx co vs)→kap (crl n x o cx co) cx co hh (turnN b 3)=kap (crl n x o cx co) cx co hh a∧kap (crl n x o cx co) cx co hh (turnN a 3)=kap (crl n x o cx co) cx co hh b:=by
   intro a b hab
   obtain ⟨v,hv,k,u,w,hk,hu,hw,rfl,rfl⟩:=g.pair_of hab
   obtain ⟨y,hy⟩:=ring_ch (hO.cyc v hv) (P:=part n x o cx co) (A:=fun c=>qC x o hh c (if x c<o c then x c+1 else x c)) fun c hc=>g.part_ch (hO.lt c (List.mem_flatten.2 ⟨v,hv,hc⟩)) L
   have:=hy.ring hk hu hw
   unfold inK outK at this
   exact ⟨(Prod.mk.inj this).1.symm,(Prod.mk.inj this).2⟩
  intro h hh1
  rcases G.pairs.2.2.2.2.2 h hh1 with hm | hm
  ·
   obtain ⟨⟨a,b⟩,hab,rfl⟩:=List.mem_map.1 hm
   obtain ⟨_,_,m1,m2,_⟩:=qfv G hab
   unfold fc
   rw [m1]
   exact (hpair a b hab).1
  ·
   obtain ⟨⟨a,b⟩,hab,rfl⟩:=List.mem_map.1 hm
   obtain ⟨_,_,m1,m2,_⟩:=qfv G hab
   unfold fc
   rw [m2]
   exact (hpair a b hab).2
 ·
  rw [g.sgl_len] at hh1
  obtain ⟨p,hp⟩: ∃p,(crl n x o cx co)[h/ 4]? =some p:=⟨_,gE (by omega)⟩
  obtain ⟨i,j⟩:=p
  obtain ⟨hi,hj,hc⟩:=qej.1 (List.mem_of_getElem? hp)
  have hnum:=num_at (qfg n x o cx co) hp
  obtain ⟨c1,c2,c3,c4⟩:=hcr i j hi hj hc
  obtain ⟨k0,k1,k2,k3⟩:=g.kap_at hi hj hc hh
  rw [hnum] at c1 c2 c3 c4 k0 k1 k2 k3
  have r1:=L.right hi j (by omega)
  have r2:=L.right hi (j+1) (by omega)
  have u1:=L.up i j
  have u2:=L.up (i+1) j
  obtain ⟨d,hd,hsd⟩: ∃d,d<4∧h=4*(h/ 4)+slot cx co j d:=by
   unfold slot
   by_cases q:co j<cx j
   · exact ⟨h%4,by omega,by rw [if_pos q]; omega⟩
   · exact ⟨(h%4+2)%4,by omega,by rw [if_neg q]; omega⟩
  have key: ∀c,h/ 4=c→(kap (crl n x o cx co) cx co hh (4*c+slot cx co j d)^^kap (crl n x o cx co) cx co hh (turnN (4*c+slot cx co j d) 3))=S (4*c+slot cx co j d):=by
   intro c hcc
   rw [hcc] at c1 c2 c3 c4 k0 k1 k2 k3
   rw [qfp c j d hd]
   have h4:d=0∨d=1∨d=2∨d=3:=by omega
   rcases h4 with rfl | rfl | rfl | rfl
   ·
    rw [show (0+3)%4=3 from rfl,k0,k3,←c1,u1]
    cases cel hh i j<;>cases hh i j<;>rfl
   ·
    rw [show (1+3)%4=0 from rfl,k0,k1,←c2,r1]
    cases cel hh i j<;>cases vv i j<;>rfl
   ·
    rw [show (2+3)%4=1 from rfl,k1,k2,←c3,u2]
    cases cel hh (i+1) j<;>cases hh (i+1) j<;>rfl
   ·
    rw [show (3+3)%4=2 from rfl,k2,k3,←c4,r2]
    cases cel hh i (j+1)<;>cases vv i (j+1)<;>rfl
  have:=key (h/ 4) rfl
  rw [←hsd] at this
  exact this
theorem Gd.genus (hL:(crl n x o cx co).length≤64) {s:List Bool} {vs:List (List Nat)} (hO:OrbI n (fun c=>cx (o c)) n s vs):gen2 (sgl n x o cx co).length (muS (sgl n x o cx co) (csOf n x o cx co vs))=0:=planar (g.gv hL hO).mt (g.parts hL hO)
