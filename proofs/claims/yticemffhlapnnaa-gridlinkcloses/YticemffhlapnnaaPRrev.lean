import Derived.Test.YticemffhlapnnaaPRpg
import Derived.Test.YticemffhlapnnaaPLoop
import Derived.Test.YticemffhlapnnaaPRplanar
import Derived.Test.YticemffhlapnnaaPRcan7
set_option linter.all false
namespace Go.Proofs.Yticemffhlapnnaa
open Ev
namespace Pg
theorem cls_eq_of {N:Nat} {adj adj':Nat→Nat→Prop} (hs: ∀a b,adj a b→adj b a) (hs': ∀a b,adj' a b→adj' b a) (f g:Nat→Nat) (hf: ∀a,a<N→f a<N) (hg: ∀a,a<N→g a<N) (fg: ∀a,a<N→f (g a)=a) (gf: ∀a,a<N→g (f a)=a)
  (h1: ∀a b,adj a b→Cn adj' (f a) (f b)) (h2: ∀a b,adj' a b→Cn adj (g a) (g b)):cls N adj=cls N adj':=by
 apply Nat.le_antisymm
 ·
  refine cls_le_of hs hs' f hf fun a b ha hb h=>?_
  have:=Cn.map (f:=g) h2 h
  rwa [gf a ha,gf b hb] at this
 ·
  refine cls_le_of hs' hs g hg fun a b ha hb h=>?_
  have:=Cn.map (f:=f) h1 h
  rwa [fg a ha,fg b hb] at this
structure Tau (τ σ:Nat→Nat):Prop where
 q: ∀h,τ h/ 4=h/ 4
 q': ∀h,σ h/ 4=h/ 4
 l: ∀h,σ (τ h)=h
 r: ∀h,τ (σ h)=h
theorem Tau.lt' {τ σ:Nat→Nat} (t:Tau τ σ) {h n:Nat} (hh:h<4*n):σ h<4*n:=by have:=t.q' h; omega
def mvd2 (μ τ σ:Nat→Nat) (j:Nat):Nat:=τ (μ (σ j))
end Pg
end Go.Proofs.Yticemffhlapnnaa

set_option linter.all false
namespace Go.Proofs.Yticemffhlapnnaa
open Ev
namespace Gl
open Gar Pg
section
variable {β α : Type} {In Out In' Out' : β → α}
theorem Ch.congr: ∀{l:List β} {x y:α},(∀u∈l,In u=In' u∧Out u=Out' u)→Ch In Out x l y→Ch In' Out' x l y
 | [],x,y,_,h=>h
 | v::l,x,y,hl,h=>by
  obtain ⟨h1,h2⟩:=hl v (by simp)
  refine ⟨by rw [←h1]; exact h.1,?_⟩
  rw [←h2]
  exact Ch.congr (fun u hu=>hl u (by simp [hu])) h.2
end
section
variable {n : Nat} {x o cx co : Nat → Nat} (g : Gd n x o cx co)
include g
theorem Gd.mates_to (hL:(crl n x o cx co).length≤64) {s:List Bool} {vs:List (List Nat)} (hO:OrbI n (fun c=>cx (o c)) n s vs) {f μ' A:Nat→Nat} (inv: ∀h,h<4*(sgl n x o cx co).length→μ' (μ' (f h))=f h)
  (hA: ∀c,c<n→Ch (fun u=>f (inH (sgl n x o cx co) u)) (fun u=>μ' (f (outH (sgl n x o cx co) u))) (A c) (part n x o cx co c) (A (cx (o c)))):
  ∀h,h<4*(sgl n x o cx co).length→μ' (f h)=f (muS (sgl n x o cx co) (csOf n x o cx co vs) h):=by
 have G:=g.gv hL hO
 have hpair: ∀a b,(a,b)∈allP (sgl n x o cx co) (csOf n x o cx co vs)→μ' (f a)=f b:=by
  intro a b hab
  obtain ⟨v,hv,k,u,w,hk,hu,hw,rfl,rfl⟩:=g.pair_of hab
  obtain ⟨y,hy⟩:=ring_ch (hO.cyc v hv) (P:=part n x o cx co) (A:=A) fun c hc=>hA c (hO.lt c (List.mem_flatten.2 ⟨v,hv,hc⟩))
  exact hy.ring hk hu hw
 intro h hh
 rcases G.pairs.2.2.2.2.2 h hh with hm | hm
 ·
  obtain ⟨⟨a,b⟩,hab,rfl⟩:=List.mem_map.1 hm
  obtain ⟨_,_,m1,m2,_⟩:=qfv G hab
  dsimp only
  rw [m1,hpair a b hab]
 ·
  obtain ⟨⟨a,b⟩,hab,rfl⟩:=List.mem_map.1 hm
  obtain ⟨_,_,m1,m2,l1,l2,_⟩:=qfv G hab
  dsimp only
  rw [m2,←hpair a b hab,inv a l1]
omit g in
theorem cyc_closed {nx:Nat→Nat} {v:List Nat} (hv:Cyc nx v) {S:Nat→Prop} (hS: ∀c,S c→S (nx c)) {a:Nat} (ha:a∈v) (h:S a): ∀b∈v,S b:=by
 obtain ⟨k,hk,e⟩:=List.getElem_of_mem ha
 have key: ∀t,∃c,v[(k+t)%v.length]? =some c∧S c:=by
  intro t
  induction t with
  | zero=>exact ⟨a,by rw [Nat.add_zero,Nat.mod_eq_of_lt hk,gE hk,e],h⟩
  | succ t ih=>
   obtain ⟨c,h1,h2⟩:=ih
   have h3:=ring_at hv h1
   rw [Nat.mod_add_mod] at h3
   exact ⟨nx c,h3,hS c h2⟩
 intro b hb
 obtain ⟨j,hj,e2⟩:=List.getElem_of_mem hb
 obtain ⟨c,h1,h2⟩:=key (v.length-k+j)
 rw [show k+(v.length-k+j)=j+v.length by omega,Nat.add_mod_right,Nat.mod_eq_of_lt hj,gE hj,e2] at h1
 rw [Option.some.inj h1]; exact h2
end
section
variable {n : Nat} {x o cx co : Nat → Nat} (g : Gd n x o cx co)
include g
theorem Gd.cls_le (hL:(crl n x o cx co).length≤64) {s:List Bool} {vs:List (List Nat)} (hO:OrbI n (fun c=>cx (o c)) n s vs):cls (sgl n x o cx co).length (adjP (sgl n x o cx co).length (muS (sgl n x o cx co) (csOf n x o cx co vs)))≤vs.length:=by
 have G:=g.gv hL hO
 have hs:=qbm G.mt
 -- what lies on one ring is one piece
 have hring: ∀v∈vs,∀u:Vis,u∈v.flatMap (part n x o cx co)→∀w:Vis,w∈v.flatMap (part n x o cx co)→Cn (adjP (sgl n x o cx co).length (muS (sgl n x o cx co) (csOf n x o cx co vs))) u.1.toNat w.1.toNat:=by
  intro v hv
  have hvis:=g.ways_vis (v:=v) fun c hc=>hO.lt c (List.mem_flatten.2 ⟨v,hv,hc⟩)
  have one: ∀(k:Nat) (u w:Vis),k<(v.flatMap (part n x o cx co)).length→(v.flatMap (part n x o cx co))[k]? =some u→(v.flatMap (part n x o cx co))[(k+1)%(v.flatMap (part n x o cx co)).length]? =some w→Cn (adjP (sgl n x o cx co).length (muS (sgl n x o cx co) (csOf n x o cx co vs))) u.1.toNat w.1.toNat:=by
   intro k u w hk hu hw
   obtain ⟨_,_,m1,_⟩:=qfv G (g.pair_at hv hk hu hw)
   obtain ⟨u0,u1⟩:=hvis u (List.mem_of_getElem? hu)
   obtain ⟨w0,w1⟩:=hvis w (List.mem_of_getElem? hw)
   have q1:outH (sgl n x o cx co) u/ 4=u.1.toNat:=by unfold outH; split<;>(try split)<;>omega
   have q2:inH (sgl n x o cx co) w/ 4=w.1.toNat:=by unfold inH; split<;>(try split)<;>omega
   refine Cn.one ⟨by omega,by omega,outH (sgl n x o cx co) u%4,by omega,?_⟩
   rw [show 4*u.1.toNat+outH (sgl n x o cx co) u%4=outH (sgl n x o cx co) u by omega,m1,q2]
  have from0: ∀(k:Nat) (u:Vis),(v.flatMap (part n x o cx co))[k]? =some u→∀w:Vis,(v.flatMap (part n x o cx co))[0]? =some w→Cn (adjP (sgl n x o cx co).length (muS (sgl n x o cx co) (csOf n x o cx co vs))) w.1.toNat u.1.toNat:=by
   intro k
   induction k with
   | zero=>intro u hu w hw; rw [hu] at hw; rw [Option.some.inj hw]; exact .refl _
   | succ k ih=>
    intro u hu w hw
    have hk:=(List.getElem?_eq_some_iff.1 hu).1
    have h1:=ih _ (gE (by omega:k<(v.flatMap (part n x o cx co)).length)) w hw
    exact h1.trans (one k _ u (by omega) (gE (by omega)) (by rw [Nat.mod_eq_of_lt hk]; exact hu))
  intro u hu w hw
  obtain ⟨i,hi,e1⟩:=List.getElem_of_mem hu
  obtain ⟨j,hj,e2⟩:=List.getElem_of_mem hw
  have hp:0<(v.flatMap (part n x o cx co)).length:=by omega
  have h1:=from0 i u (by rw [gE hi,e1]) _ (gE hp)
  have h2:=from0 j w (by rw [gE hj,e2]) _ (gE hp)
  exact (h1.symm hs).trans h2
 have ex: ∀p,∃v:List Nat,p<cls (sgl n x o cx co).length (adjP (sgl n x o cx co).length (muS (sgl n x o cx co) (csOf n x o cx co vs)))→v∈vs∧∃u:Vis,u∈v.flatMap (part n x o cx co)∧∃r:Nat,u.1.toNat=r∧Rep (adjP (sgl n x o cx co).length (muS (sgl n x o cx co) (csOf n x o cx co vs))) r∧cls r (adjP (sgl n x o cx co).length (muS (sgl n x o cx co) (csOf n x o cx co vs)))=p:=by
  intro p
  by_cases hp:p<cls (sgl n x o cx co).length (adjP (sgl n x o cx co).length (muS (sgl n x o cx co) (csOf n x o cx co vs)))
  ·
   obtain ⟨r,h1,h2,h3⟩:=rep_at hp
   rw [g.sgl_len] at h1
   obtain ⟨q,hq⟩: ∃q,(crl n x o cx co)[r]? =some q:=⟨_,gE h1⟩
   obtain ⟨i,j⟩:=q
   obtain ⟨hi,hj,hc⟩:=qej.1 (List.mem_of_getElem? hq)
   have hnum:=num_at (qfg n x o cx co) hq
   obtain ⟨v,hv,hiv⟩:=List.mem_flatten.1 (hO.cov i hi)
   refine ⟨v,fun _=>⟨hv,vov (crl n x o cx co) (i,j),?_,r,?_,h2,h3⟩⟩
   · exact List.mem_flatMap.2 ⟨i,hiv,List.mem_append_left _ ((g.mem_colV hi).2 ⟨j,hc,hj,rfl⟩)⟩
   ·
    unfold vov
    rw [hnum]; rfl
  · exact ⟨[],fun h=>absurd h hp⟩
 obtain ⟨F,hF⟩:=Classical.skolem.1 ex
 have hnd:((List.range (cls (sgl n x o cx co).length (adjP (sgl n x o cx co).length (muS (sgl n x o cx co) (csOf n x o cx co vs))))).map F).Nodup:=by
  refine qcg List.nodup_range fun a ha b hb e=>?_
  obtain ⟨h1,u,hu,r,hr,rr,hra⟩:=hF a (List.mem_range.1 ha)
  obtain ⟨_,w,hw,r',hr',rr',hrb⟩:=hF b (List.mem_range.1 hb)
  rw [←e] at hw
  have:=hring _ h1 u hu w hw
  rw [hr,hr'] at this
  have:=rep_eq hs rr rr' this
  rw [←hra,←hrb,this]
 have:=qea (l2:=vs) hnd fun w hw=>by
  obtain ⟨p,hp,rfl⟩:=List.mem_map.1 hw
  exact (hF p (List.mem_range.1 hp)).1
 rw [List.length_map,List.length_range] at this
 exact this
end
open Gar Pg
def Tm (π:Nat→Nat) (h:Nat):Nat:=4*π (h/ 4)+h%4
theorem iso_of {n:Nat} {sg sg':List Int} {μ μ' τ σ π:Nat→Nat} (t:Tau τ σ) (hl: ∀c,c<n→π c<n) (hi: ∀a b,a<n→b<n→π a=π b→a=b) (hs: ∀c,c<n→sg'.getD (π c) 0=sg.getD c 0)
  (hm: ∀h,h<4*n→μ' (Tm π (τ h))=Tm π (τ (μ h))):Iso n sg (mvd2 μ τ σ) sg' μ' π:=by
 refine ⟨hl,hi,hs,fun c s hc h4=>?_⟩
 have:=hm (σ (4*c+s)) (t.lt' (by omega))
 rw [t.r] at this
 unfold Tm at this
 rw [show (4*c+s)/ 4=c by omega,show (4*c+s)%4=s by omega] at this
 exact this
section
variable {n : Nat} {x o cx co : Nat → Nat} (g : Gd n x o cx co)
include g
theorem Gd.dv (hL:(crl n x o cx co).length≤64) {s:List Bool} {vs:List (List Nat)} (hO:OrbI n (fun c=>cx (o c)) n s vs):DV (sgl n x o cx co) (mtS (sgl n x o cx co) (csOf n x o cx co vs)) (loOf n x o cx co vs) (muS (sgl n x o cx co) (csOf n x o cx co vs)):=by
 have hg:=g.genus hL hO
 exact (g.gv hL hO).dv (by rw [hg]; rfl)
