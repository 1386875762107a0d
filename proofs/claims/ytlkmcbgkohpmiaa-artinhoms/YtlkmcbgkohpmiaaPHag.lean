import Derived.Test.YtlkmcbgkohpmiaaPHuf2
import Derived.Test.YtlkmcbgkohpmiaaPHart
import Derived.Test.YtlkmcbgkohpmiaaPHdv
import Derived.Test.YtlkmcbgkohpmiaaPGint
set_option linter.all false
namespace Go.Proofs.Ytlkmcbgkohpmiaa
open Ev
namespace Ho
open Gar Pg
def rlc (A:Nat→Nat) (sgn:Int) (c:Nat):List Int:=
 if 0<sgn then [-((A (4*c+2):Int)+1),-((A (4*c+1):Int)+1),(A (4*c):Int)+1,(A (4*c+1):Int)+1]
 else [-((A (4*c+2):Int)+1),(A (4*c+1):Int)+1,(A (4*c):Int)+1,-((A (4*c+1):Int)+1)]
def rls (A:Nat→Nat) (sg:List Int):List (List Int):=(List.range sg.length).map fun c=>ird (rlc A (sg.getD c 0) c)
structure Cmp (g:Nat) (q:List Int):Prop where
 len:q.length=g
 rng: ∀x∈q,0≤x∧x<(g:Int)
theorem Cmp.set {g:Nat} {q:List Int} (h:Cmp g q) {i:Nat} {v:Int} (hv:0≤v∧v<(g:Int)):Cmp g (q.set i v):=
 ⟨by rw [List.length_set]; exact h.len,fun x hx=>by
  rcases List.mem_or_eq_of_mem_set hx with e | e
  · exact h.rng x e
  · rw [e]; exact hv⟩
section
variable {sg M : List Int} {lo : Int} {μ : Nat → Nat}
theorem strs_elem {n:Nat} {M:List Int} {μ:Nat→Nat} (hM:MT (4*n) M μ) (sg:List Int) (k:Nat): ∀st∈strs hM sg k,∀h∈st,∃j:Nat,h=(j:Int)∧j<4*n:=by
 intro st hst h hh
 unfold strs at hst
 obtain ⟨a,ha,rfl⟩:=List.mem_map.1 hst
 by_cases hl:a<4*n
 ·
  rw [dif_pos hl] at hh
  unfold cyc at hh
  obtain ⟨i,_,rfl⟩:=List.mem_map.1 hh
  refine ⟨_,rfl,?_⟩
  have P:=hM.iv.pn
  have: ∀i,it (nx μ) i a<4*n:=by
   intro i
   induction i with
   | zero=>exact hl
   | succ i ih=>exact P.lt _ ih
  exact this i
 · rw [dif_neg hl] at hh; cases hh
open Classical in
theorem strs_le (D:DV sg M lo μ) {A:Nat→Nat} {cnt':Nat} (hA:ArcS (4*sg.length) (mtP (4*sg.length) μ++ovP sg.length) A cnt'):(strs D.mt sg (4*sg.length)).length≤cnt':=by
 have iv:=D.mt.iv
 let adj:=adjI (4*sg.length) (nx μ)
 have hs: ∀a b,adj a b→adj b a:=qfs
 let o:Nat→Nat:=fun h=>if Outg sg h then h else μ h
 let col:Nat→Nat→Prop:=fun h k=>Cn adj (o h) k
 have ceq: ∀a b,Cn adj (o a) (o b)→col a=col b:=fun a b h=>by
  funext k
  exact propext ⟨fun q=>(h.symm hs).trans q,fun q=>h.trans q⟩
 have hcol: ∀a b,(a,b)∈mtP (4*sg.length) μ++ovP sg.length→col a=col b:=by
  intro a b hab
  rcases List.mem_append.1 hab with h | h
  ·
   unfold mtP at h
   obtain ⟨k,hk,e⟩:=List.mem_map.1 h
   obtain ⟨e1,e2⟩:=Prod.mk.inj e
   subst e1 e2
   have hk':=List.mem_range.1 hk
   refine ceq _ _ ?_
   have:o k=o (μ k):=by
    show (if Outg sg k then k else μ k)=if Outg sg (μ k) then μ k else μ (μ k)
    by_cases q:Outg sg k
    · rw [if_pos q,if_neg (fun q'=>(D.out k hk').1 q' q),iv.inv k hk']
    · rw [if_neg q,if_pos ((D.out k hk').2 q)]
   rw [this]; exact .refl _
  ·
   unfold ovP at h
   obtain ⟨c,hc,e⟩:=List.mem_map.1 h
   obtain ⟨e1,e2⟩:=Prod.mk.inj e
   subst e1 e2
   have hc':=List.mem_range.1 hc
   refine ceq _ _ ?_
   have hsg:sg.getD c 0=1∨sg.getD c 0=-1:=by
    rw [qdr hc']; exact D.sgn _ (List.getElem_mem hc')
   have key: ∀a b,a<4*sg.length→b<4*sg.length→Outg sg a→¬Outg sg b→turnN b 2=a→Cn adj (o a) (o b):=fun a b ha hb h1 h2 h3=>by
    show Cn adj (if Outg sg a then a else μ a) (if Outg sg b then b else μ b)
    rw [if_pos h1,if_neg h2]
    refine Cn.symm hs (Cn.one ⟨iv.lt b hb,ha,.inl ?_⟩)
    unfold nx
    rw [iv.inv b hb,h3]
   rcases hsg with q | q
   ·
    refine key _ _ (by omega) (by omega) (.inr (.inl ⟨by omega,by rw [show (4*c+1)/ 4=c by omega,q]⟩)) ?_ (by unfold turnN; omega)
    unfold Outg
    rw [show (4*c+3)/ 4=c by omega,q]
    omega
   ·
    refine Cn.symm hs (key _ _ (by omega) (by omega) (.inr (.inr ⟨by omega,by rw [show (4*c+3)/ 4=c by omega,q]⟩)) ?_ (by unfold turnN; omega))
    unfold Outg
    rw [show (4*c+1)/ 4=c by omega,q]
    omega
 have fac:=hA.fac col hcol
 rw [strs_len]
 have hnd:(((List.range (4*sg.length)).filter fun h=>decide (Outg sg h∧Rep adj h)).map A).Nodup:=by
  rw [List.Nodup,List.pairwise_map]
  refine List.Pairwise.imp_of_mem ?_ (List.Pairwise.filter _ List.nodup_range)
  intro a b ha hb hab e
  obtain ⟨a1,a2⟩:=List.mem_filter.1 ha
  obtain ⟨b1,b2⟩:=List.mem_filter.1 hb
  obtain ⟨a3,a4⟩:=of_decide_eq_true a2
  obtain ⟨b3,b4⟩:=of_decide_eq_true b2
  have h:=fac a b (List.mem_range.1 a1) (List.mem_range.1 b1) e
  have h2:Cn adj (o b) (o b):=.refl _
  have h3:Cn adj (o a) (o b):=by
   have:=congrFun h (o b)
   exact this.mpr h2
  have ea:o a=a:=if_pos a3
  have eb:o b=b:=if_pos b3
  rw [ea,eb] at h3
  exact hab (rep_eq hs a4 b4 h3)
 have hle: ∀(l:List Nat),l.Nodup→(∀x∈l,x<cnt')→l.length≤cnt':=fun l h1 h2=>by
  have h3:=List.Nodup.length_le_of_subset h1 (l₂:=List.range cnt') (fun x hx=>List.mem_range.2 (h2 x hx))
  rwa [List.length_range] at h3
 have:=hle _ hnd (fun x hx=>by
  obtain ⟨a,ha,rfl⟩:=List.mem_map.1 hx
  exact hA.lt a (List.mem_range.1 (List.mem_filter.1 ha).1))
 rw [List.length_map] at this
 unfold cnt
 refine Nat.le_trans (Nat.le_of_eq ?_) this
 exact congrArg List.length (List.filter_congr fun x _=>decide_eq_decide.mpr Iff.rfl)
end
end Ho
end Go.Proofs.Ytlkmcbgkohpmiaa

set_option linter.all false
namespace Go.Proofs.Ytlkmcbgkohpmiaa
open Ev
namespace Ho
open Gar Pg
theorem wirtValid {gens:Nat} {comp:List Int} {ws:List (List Int)} (hg:gens≤1000) (hc:Cmp gens comp) (hw: ∀w∈ws,wV w (gens:Int)=true∧w.length≤100000) (hl:ws.length≤1000) (m:Nat) (hm:200000≤m):F.qdv m (gens:Int) comp ws=some true:=by
 have hcl:=hc.len
 have l0:loopN m (F.qdk m (gens:Int) comp) 0=some (.inl (comp.length:Int)):=by
  refine qax (fun k=>((k:Nat):Int)) comp.length (fun k hk=>?_) ?_ m (by omega)
  ·
   have e1:comp[k]? =some comp[k]:=gE hk
   obtain ⟨h1,h2⟩:=hc.rng _ (List.getElem_mem hk)
   unfold F.qdk
   dsimp only
   rw [dT (by omega),kT,get_at rfl e1,bB,dF (by omega),kF,dF (by omega),kF,qaj (by omega) (by omega),bB]
   rfl
  ·
   unfold F.qdk
   dsimp only
   rw [dF (by omega),kF]
 have l1:loopN m (F.qch m (gens:Int) ws) 0=some (.inl (ws.length:Int)):=by
  refine qax (fun k=>((k:Nat):Int)) ws.length (fun k hk=>?_) ?_ m (by omega)
  ·
   have e1:ws[k]? =some ws[k]:=gE hk
   obtain ⟨h1,h2⟩:=hw _ (List.getElem_mem hk)
   unfold F.qch
   dsimp only
   rw [dT (by omega),kT,get_at rfl e1,bB,wordValid (by omega) (by omega) m (by omega),h1,bB,Bool.not_true,kF,qaj (by omega) (by omega),bB]
   rfl
  ·
   unfold F.qch
   dsimp only
   rw [dF (by omega),kF]
 unfold F.qdv
 rw [dF (by omega),kF,dF (by omega),kF,dT (by omega),Bool.not_true,kF,l0,bB]
 dsimp only
 rw [l1,bB]
section
variable {sg M : List Int} {L : Nat} {μ A : Nat → Nat} {cnt g : Nat}
theorem ofIn {N k:Nat} {q st:List Int} (hk:k<g) (hA: ∀j,j<N→A j<cnt) (hcg:cnt≤g) (hg:g≤1000) (hst: ∀h∈st,∃j:Nat,h=(j:Int)∧j<N) (hl:st.length≤100000) (hq:Cmp g q) (c:Int) (m:Nat) (hm:200000≤m):
  ∃o,loopN m (F.qdx m (li N A,c) (k:Int) st) (0,q)=some o∧Cmp g o.2:=by
 refine qby (fun s=> ∃i:Nat,i≤st.length∧s.1=(i:Int)∧Cmp g s.2) (fun s=>st.length-s.1.toNat) _ ?_ m _ ⟨0,Nat.zero_le _,rfl,hq⟩ (by show st.length-(0:Int).toNat<m; omega)
 rintro ⟨s1,s2⟩ ⟨i,hi,e1,hc⟩
 dsimp only at e1 hc
 subst e1
 unfold F.qdx
 dsimp only
 by_cases hlt:i<st.length
 ·
  left
  obtain ⟨j,e2,hj⟩:=hst _ (List.getElem_mem hlt)
  have hAj:=hA j hj
  have e3:st[i]? =some (j:Int):=by rw [gE hlt,e2]
  have hl2:A j<s2.length:=by rw [hc.len]; omega
  rw [dT (by omega),kT,get_at rfl e3,bB,qbe,li_at hj,bB,qbe,gE hl2,bB,qaj (by omega) (by omega),bB,Int.toNat_natCast]
  exact ⟨_,rfl,⟨i+1,hlt,rfl,hc.set (by omega)⟩,by dsimp only; omega⟩
 ·
  right
  rw [dF (by omega),kF]
  exact ⟨_,rfl,hc⟩
theorem ofIn0 {N:Nat} {q:List Int} {sts:List (List Int)} (hk:sts.length≤g) (hA: ∀j,j<N→A j<cnt) (hcg:cnt≤g) (hg:g≤1000) (hst: ∀st∈sts,(∀h∈st,∃j:Nat,h=(j:Int)∧j<N)∧st.length≤100000) (hq:Cmp g q) (c:Int) (m:Nat) (hm:200000≤m):
  ∃o,loopN m (F.qds m (li N A,c) sts) (0,q)=some o∧Cmp g o.2:=by
 refine qby (fun s=> ∃i:Nat,i≤sts.length∧s.1=(i:Int)∧Cmp g s.2) (fun s=>sts.length-s.1.toNat) _ ?_ m _ ⟨0,Nat.zero_le _,rfl,hq⟩ (by show sts.length-(0:Int).toNat<m; omega)
 rintro ⟨s1,s2⟩ ⟨i,hi,e1,hc⟩
 dsimp only at e1 hc
 subst e1
 unfold F.qds
 dsimp only
 by_cases hlt:i<sts.length
 ·
  left
  obtain ⟨h1,h2⟩:=hst _ (List.getElem_mem hlt)
  obtain ⟨⟨o1,o2⟩,q1,q2⟩:=ofIn (k:=i) (by omega) hA hcg hg h1 h2 hc c m hm
  rw [dT (by omega),kT,get_at rfl (gE hlt),bB,q1,bB]
  dsimp only
  rw [qaj (by omega) (by omega),bB]
  exact ⟨_,rfl,⟨i+1,hlt,rfl,q2⟩,by dsimp only; omega⟩
 ·
  right
  rw [dF (by omega),kF]
  exact ⟨_,rfl,hc⟩
theorem ofIn2 {q al:List Int} {sts:List (List Int)} (hk:sts.length≤cnt) (hcg:cnt+L=g) (hg:g≤1000) (hq:Cmp g q) (m:Nat) (hm:200000≤m):
  ∃o,loopN m (F.qdu m (L:Int) (al,(cnt:Int)) sts) (0,q)=some o∧Cmp g o.2:=by
 refine qby (fun s=> ∃i:Nat,i≤L∧s.1=(i:Int)∧Cmp g s.2) (fun s=>L-s.1.toNat) _ ?_ m _ ⟨0,Nat.zero_le _,rfl,hq⟩ (by show L-(0:Int).toNat<m; omega)
 rintro ⟨s1,s2⟩ ⟨i,hi,e1,hc⟩
 dsimp only at e1 hc
 subst e1
 unfold F.qdu
 dsimp only
 by_cases hlt:i<L
 ·
  left
  have hl2:cnt+i<s2.length:=by rw [hc.len]; omega
  rw [dT (by omega),kT,qaj (by omega) (by omega),bB,qaj (by omega) (by omega),bB,get_at (k:=cnt+i) (by omega) (gE hl2),bB,qaj (by omega) (by omega),bB]
  exact ⟨_,rfl,⟨i+1,hlt,rfl,hc.set (by omega)⟩,by dsimp only; omega⟩
 ·
  right
  rw [dF (by omega),kF]
  exact ⟨_,rfl,hc⟩
theorem rlc_lr (hA: ∀j,j<4*sg.length→A j<cnt) (hcg:cnt≤g) {c:Nat} (hc:c<sg.length) (v:Int): ∀y∈rlc A v c,Lr g y:=by
 have a0:=hA (4*c) (by omega)
 have a1:=hA (4*c+1) (by omega)
 have a2:=hA (4*c+2) (by omega)
 intro y hy
 unfold rlc at hy
 unfold Lr
 split at hy<;>simp only [List.mem_cons,List.not_mem_nil,or_false] at hy<;>rcases hy with h | h | h | h<;>rw [h]<;>omega
theorem ofRel (hn:sg.length≤64) (hA: ∀j,j<4*sg.length→A j<cnt) (hcb:cnt≤1000) (c:Int) (m:Nat) (hm:200000≤m):
  loopN m (F.qca m sg (li (4*sg.length) A,c)) (0,([]:List (List Int)))=some ((sg.length:Int),rls A sg):=by
 have hx:=qax (body:=F.qca m sg (li (4*sg.length) A,c)) (fun k=>((k:Int),(rls A sg).take k)) sg.length (r:=((sg.length:Int),rls A sg)) (fun k hk=>?_) ?_ m (by omega)
 · exact hx
 ·
  have e1:sg[k]? =some (sg.getD k 0):=by rw [List.getD_eq_getElem?_getD,gE hk,Option.getD_some]
  have a0:=hA (4*k) (by omega)
  have a1:=hA (4*k+1) (by omega)
  have a2:=hA (4*k+2) (by omega)
  have hlen:((rls A sg).take k).length=k:=by rw [List.length_take]; unfold rls; rw [List.length_map,List.length_range]; omega
  have et:(rls A sg).take (k+1)=(rls A sg).take k++[ird (rlc A (sg.getD k 0) k)]:=by
   rw [List.take_add_one]; unfold rls; rw [List.getElem?_map,List.getElem?_range hk]; rfl
  have hsm:Sm (rlc A (sg.getD k 0) k):=fun y hy=>by
   have:=rlc_lr hA (Nat.le_refl cnt) hk _ y hy
   unfold Lr at this; omega
  have hrl:(rlc A (sg.getD k 0) k).length≤4:=by unfold rlc; split<;>exact Nat.le_refl 4
  have hred:=wordReduce hsm (by omega) m (by omega)
  unfold F.qca
  dsimp only
  rw [dT (by omega),kT,get_at rfl e1,bB,qaj (z:=4*(k:Int)) (by omega) (by omega),bB,get_at (k:=4*k) (by omega) (li_at (by omega)),bB,qaj (by omega) (by omega),bB,bB,qaj (by omega) (by omega),bB,get_at (k:=4*k+2) (by omega) (li_at (by omega)),bB,qaj (by omega) (by omega),bB,bB,qaj (by omega) (by omega),bB,get_at (k:=4*k+1) (by omega) (li_at (by omega)),bB,qaj (by omega) (by omega),bB,et]
  by_cases h0:0<sg.getD k 0
  ·
   have er:rlc A (sg.getD k 0) k=[-((A (4*k+2):Int)+1),-((A (4*k+1):Int)+1),(A (4*k):Int)+1,(A (4*k+1):Int)+1]:=if_pos h0
   rw [dT h0,kT,qaj (by omega) (by omega),bB,qaj (by omega) (by omega),bB,lim_ok (by simp),bB,List.nil_append,←er,hred,bB,lim_ok (by rw [hlen,List.length_singleton]; omega),bB,qaj (by omega) (by omega),bB]
   rfl
  ·
   have er:rlc A (sg.getD k 0) k=[-((A (4*k+2):Int)+1),(A (4*k+1):Int)+1,(A (4*k):Int)+1,-((A (4*k+1):Int)+1)]:=if_neg h0
   rw [dF h0,kF,qaj (by omega) (by omega),bB,qaj (by omega) (by omega),bB,lim_ok (by simp),bB,List.nil_append,←er,hred,bB,lim_ok (by rw [hlen,List.length_singleton]; omega),bB,qaj (by omega) (by omega),bB]
   rfl
 ·
  unfold F.qca
  dsimp only
  rw [dF (by omega),kF,List.take_of_length_le (by unfold rls; rw [List.length_map,List.length_range]; exact Nat.le_refl _)]
theorem of_run (D:DV sg M (L:Int) μ) (hp:0<4*sg.length+L) (m:Nat) (hm:200000≤m):
  ∃(A:Nat→Nat) (cnt:Nat) (comp:List Int),cnt≤4*sg.length∧0<cnt+L∧ArcS (4*sg.length) (mtP (4*sg.length) μ++ovP sg.length) A cnt∧
   F.qgk m sg M (L:Int)=some (((cnt+L:Nat):Int),comp,rls A sg,0)∧Cmp (cnt+L) comp:=by
 have hn:=D.n
 have hL:=D.lo1
 obtain ⟨A,cnt,hcN,q1,hA⟩:=arcs_run (lo:=(L:Int)) D.mt.1 (fun k hk=>⟨(D.mt.2 k hk).1,(D.mt.2 k hk).2.1⟩) (sg:=sg) rfl (by omega) m (by omega)
 have hpos:0<cnt+L:=by
  by_cases h:0<4*sg.length
  · have:=hA.lt 0 h; omega
  · omega
 have hsl:=strs_le D hA
 have hq0:Cmp (cnt+L) (List.replicate (cnt+L) (0:Int)):=⟨List.length_replicate ..,fun x hx=>by have:=List.eq_of_mem_replicate hx; omega⟩
 obtain ⟨⟨o1,o2⟩,q2,c2⟩:=ofIn0 (N:=4*sg.length) (sts:=strs D.mt sg (4*sg.length)) (g:=cnt+L) (by omega) hA.lt (by omega) (by omega) (fun st hst=>⟨strs_elem D.mt sg _ st hst,by
  unfold strs at hst
  obtain ⟨a,ha,rfl⟩:=List.mem_map.1 hst
  by_cases hl:a<4*sg.length
  ·
   rw [dif_pos hl]; unfold cyc; rw [List.length_map,List.length_range]
   have P:=D.mt.iv.pn
   have:=per_le P hl
   omega
  · rw [dif_neg hl]; exact Nat.zero_le _⟩) hq0 (cnt:Int) m hm
 obtain ⟨⟨p1,p2⟩,q3,c3⟩:=ofIn2 (L:=L) (al:=li (4*sg.length) A) (sts:=strs D.mt sg (4*sg.length)) hsl rfl (by omega) c2 m hm
 refine ⟨A,cnt,p2,hcN,hpos,hA,?_,c3⟩
 unfold F.qgk
 rw [dvalid_true D m (by omega),bB,Bool.not_true,kF,q1,bB]
 dsimp only
 rw [qaj (by omega) (by omega),bB,bB,qep (by omega) (by omega),bB,strands_eq D m (by omega),bB,show ((cnt:Int)+(L:Int)).toNat=cnt+L by omega,q2,bB]
 dsimp only
 rw [q3,bB]
 dsimp only
 rw [ofRel hn hA.lt (by omega) _ m hm,bB]
 dsimp only
 rw [show (cnt:Int)+(L:Int)=((cnt+L:Nat):Int) by omega]
end
end Ho
end Go.Proofs.Ytlkmcbgkohpmiaa

set_option linter.all false
namespace Go.Proofs.Ytlkmcbgkohpmiaa
open Ev
namespace Gar
def sg (x:Int):Int:=if 0<x then 1 else -1
def pmw:List Int→Nat→Nat
 | [],k=>k
 | x::w,k=>pmw w (tr x.natAbs k)
def pmi:List Int→Nat→Nat
 | [],k=>k
 | x::w,k=>tr x.natAbs (pmi w k)
theorem pmi_app (u v:List Int) (k:Nat):pmi (u++v) k=pmi u (pmi v k):=by
 induction u generalizing k with
 | nil=>rfl
 | cons x u ih=>simp only [List.cons_append,pmi,ih]
section
variable {N : Nat}
theorem pmw_pm {w:List Int} (h:Rg N w):Pm N (pmw w) (pmi w):=by
 induction w with
 | nil=>exact Pm.id N
 | cons x w ih=>
  have h1:=h x (by simp)
  have h2:=(ih fun y hy=>h y (by simp [hy])).ex (i:=x.natAbs) (by omega) (by omega)
  exact h2
def comp:List (Nat→Nat)→Nat→Nat
 | [],k=>k
 | f::fs,k=>comp fs (f k)
variable {H : List Nat} (hH : Wd N (dl N) H)
include hH
omit hH
/-! The program's functions. -/
theorem generator_eq {x:Int} (n:Nat) (h: -1000≤x∧x≤1000):F.qct n x=some ((x.natAbs:Nat):Int):=by
 unfold F.qct
 rw [qaj (by omega) (by omega),bB]
 congr 1; omega
theorem permStep {w:List Int} (h4:Rg N w) (hN:N≤100) (hl:w.length≤1000) (n:Nat) (k:Nat) (hk:k<w.length):F.qcv n w ((k:Int),li N (pmi (w.take k)))=some (.inl (((k+1:Nat):Int),li N (pmi (w.take (k+1))))):=by
 have hx:=h4 w[k] (List.getElem_mem hk)
 have ht:w.take (k+1)=w.take k++[w[k]]:=by rw [List.take_add_one,gE hk]; rfl
 have hpx:pmi (w.take (k+1))=fun j=>pmi (w.take k) (tr w[k].natAbs j):=by funext j; rw [ht,pmi_app]; rfl
 have hi1:1≤w[k].natAbs:=by omega
 have hi2:w[k].natAbs<N:=by omega
 have hg:=generator_eq (x:=w[k]) n (by omega)
 rw [hpx]
 unfold F.qcv
 dsimp only
 rw [dT (by omega),kT,qbe,gE hk,bB,hg,bB]
 generalize pmi (w.take k)=f
 generalize w[k].natAbs=i at hi1 hi2
 have hk1:((i:Int)-1).toNat=i-1:=by omega
 have hk2:(i:Int).toNat=i:=by omega
 obtain ⟨x,e3⟩: ∃x,Ev.get ((li N f).set (i-1) ((f i:Nat):Int)) (i:Int)=some x:=⟨_,get_ok (by omega) (by rw [List.length_set,li_len]; omega)⟩
 have g1:Ev.get (li N f) (i:Int)=some ((f i:Nat):Int):=by rw [get_li (by omega) (by omega),hk2]
 have g2:Ev.get (li N f) ((i:Int)-1)=some ((f (i-1):Nat):Int):=by rw [get_li (by omega) (by omega),hk1]
 rw [qaj (z:=(i:Int)-1) (by omega) (by omega),bB,g1,bB,bB,g2,bB,bB,hk1,hk2,e3,bB,li_sw hi1 hi2,qaj (by omega) (by omega),bB]
 rfl
theorem permEnd {w:List Int} (n:Nat) (f:Nat→Nat):F.qcv n w ((w.length:Int),li N f)=some (.inr ((w.length:Int),li N f)):=by
 unfold F.qcv
 dsimp only
 rw [dF (by omega),kF]
theorem permId (n:Nat) (hl:N≤100) (hn:N<n):loopN n (F.qeu n (N:Int)) (0,List.replicate N (0:Int))=some ((N:Int),li N fun k=>k):=by
 have l0:=qax (body:=F.qeu n (N:Int)) (fun k=>((k:Int),li N (fill (fun k=>k) k))) N (r:=((N:Int),li N fun k=>k)) (fun k hk=>by
  unfold F.qeu
  dsimp only
  rw [List.length_replicate,show ((N:Int)).toNat=N by omega,dT (by omega),kT,get_li (by omega) (by omega),bB,qaj (by omega) (by omega),bB,show (k:Int).toNat=k by omega,li_fill (f:=fun k=>k)]; rfl) (by
  unfold F.qeu
  dsimp only
  rw [List.length_replicate,show ((N:Int)).toNat=N by omega,dF (by omega),kF,li_full]) n (by omega)
 rw [li_empty (f:=fun k=>k)]
 exact l0
theorem permInv {f g:Nat→Nat} (hp:Pm N f g) (n:Nat) (hl:N≤100) (hn:N<n):loopN n (F.qex n (N:Int) (li N f)) (0,List.replicate N (0:Int))=some ((N:Int),li N g):=by
 have l2:=qax (body:=F.qex n (N:Int) (li N f)) (fun k=>((k:Int),li N (fun y=>if g y<k then g y else 0))) N (r:=((N:Int),li N g)) (fun k hk=>by
  unfold F.qex
  dsimp only
  have hfk:=hp.lt hk
  rw [List.length_replicate,show ((N:Int)).toNat=N by omega,dT (by omega),kT,get_li (by omega) (by omega),bB,show (k:Int).toNat=k by omega,get_li (by omega) (by omega),bB,qaj (by omega) (by omega),bB,show ((f k:Nat):Int).toNat=f k by omega,li_set]
  congr 3
  apply qez
  intro y hy
  by_cases e:y=f k
  · subst e; rw [if_pos rfl,hp.gf,if_pos (by omega)]
  ·
   rw [if_neg e]
   have:g y≠k:=fun e2=>e (by rw [←e2,hp.fg])
   by_cases e3:g y<k
   · rw [if_pos e3,if_pos (by omega)]
   · rw [if_neg e3,if_neg (by omega)]) (by
  unfold F.qex
  dsimp only
  rw [List.length_replicate,show ((N:Int)).toNat=N by omega,dF (by omega),kF]
  congr 3
  apply qez
  intro y hy
  rw [if_pos (hp.symm.lt hy)]) n (by omega)
 have e0:List.replicate N (0:Int)=li N (fun y=>if g y<0 then g y else 0):=by
  rw [li_rep]; exact qez fun y _=>(if_neg (by omega)).symm
 rw [e0]
 exact l2
theorem braidPerm {w:List Int} (hv:okB (N:Int) w=true) (n:Nat) (hn:300≤n):F.braid_Perm n (N:Int) w=some (li N (Gar.pmw w)):=by
 obtain ⟨h1,h2,h3,h4⟩:=okB_iff.1 hv
 have hR:Rg N w:=h4
 unfold F.braid_Perm
 have hpos:Ev.pos (N:Int)=some ():=qep (by omega) (by omega)
 have l1:=qax (body:=F.qcv n w) (fun k=>((k:Int),li N (pmi (w.take k)))) w.length (fun k hk=>permStep hR (by omega) (by omega) n k hk) (permEnd n _) n (by omega)
 rw [List.take_length] at l1
 have l1':loopN n (F.qcv n w) (0,li N fun k=>k)=some ((w.length:Int),li N (pmi w)):=l1
 rw [braidValid n (by omega),bB,hv,Bool.not_true,kF,hpos,bB,show ((N:Int)).toNat=N by omega,permId n (by omega) (by omega),bB]
 dsimp only
 rw [l1',bB]
 dsimp only
 rw [bB,permInv (pmw_pm hR).symm n (by omega) (by omega),bB]
end
end Gar
end Go.Proofs.Ytlkmcbgkohpmiaa

set_option linter.all false
namespace Go.Proofs.Ytlkmcbgkohpmiaa
open Ev
namespace Ho
open Gar
def tup (m:Nat):Nat→List (List Int)
 | 0=>[[]]
 | n+1=>(tup m n).flatMap fun t=>(List.range m).map fun (a:Nat)=>(a:Int)::t
theorem mem_tup (m:Nat): ∀(p:List Int),(∀x∈p,0≤x∧x<(m:Int))→p∈tup m p.length
 | [],_=>by simp [tup]
 | a::t,h=>by
  have ih:=mem_tup m t fun x hx=>h x (List.mem_cons_of_mem _ hx)
  have ha:=h a List.mem_cons_self
  rw [List.length_cons]
  unfold tup
  exact List.mem_flatMap.2 ⟨t,ih,List.mem_map.2 ⟨a.toNat,List.mem_range.2 (by omega),by rw [Int.toNat_of_nonneg ha.1]⟩⟩
def cmpB (s:Nat) (p:List Int):Bool:=match (F.qfz 10000000000 p).bind fun y=>loopN 10000000000 (F.qdl 10000000000 y) (0,List.replicate (s:Int).toNat (0:Int)) with
 | some o=>decide (o.2.length=s)&&o.2.all fun x=>decide (0≤x)&&decide (x<(s:Int))
 | none=>false
set_option maxRecDepth 100000 in
theorem comp_tab: ∀s∈[1,2,3,4],∀p∈tup s s,p.Nodup→cmpB s p=true:=by decide+kernel
theorem comp_run {s:Nat} (h1:1≤s) (h4:s≤4) {f g:Nat→Nat} (h:Pm s f g): ∃y o,F.qfz 10000000000 (li s f)=some y∧loopN 10000000000 (F.qdl 10000000000 y) (0,List.replicate (s:Int).toNat (0:Int))=some o∧Cmp s o.2:=by
 have hp:=isP_li h
 have hl:(li s f).length=s:=li_len
 have hm:s∈[1,2,3,4]:=by
  have:s=1∨s=2∨s=3∨s=4:=by omega
  rcases this with e | e | e | e<;>rw [e]<;>decide
 have hr:=hp.rng
 rw [hl] at hr
 have ht:=mem_tup s (li s f) hr
 rw [hl] at ht
 have hc:=comp_tab s hm _ ht hp.nodup
 unfold cmpB at hc
 cases hy:F.qfz 10000000000 (li s f) with
 | none=>rw [hy,Option.bind_none] at hc; cases hc
 | some y=>
  rw [hy,bB] at hc
  cases ho:loopN 10000000000 (F.qdl 10000000000 y) (0,List.replicate (s:Int).toNat (0:Int)) with
  | none=>rw [ho] at hc; cases hc
  | some o=>
   rw [ho] at hc
   dsimp only at hc
   rw [Bool.and_eq_true] at hc
   refine ⟨y,o,rfl,ho,of_decide_eq_true hc.1,fun x hx=>?_⟩
   have:=List.all_eq_true.1 hc.2 x hx
   rw [Bool.and_eq_true] at this
   exact ⟨of_decide_eq_true this.1,of_decide_eq_true this.2⟩
def grow (w:List Int) (k:Nat):List Int:=ird (fact w [((k+1:Nat):Int)]++[-((k+1:Nat):Int)])
def grows (s:Nat) (w:List Int):List (List Int):=(List.range s).map (grow w)
theorem mul_two {x z:List Int} (hx:Irdc x) (sx:Sm x) (sz:Sm z) (lx:x.length≤50000) (lz:z.length≤50000) (m:Nat) (hm:200000≤m):F.word_Mul m [x,z]=some (ird (x++z)):=by
 have e1:F.qfb m [] x=some x:=by
  have:=wordPush (st:=[]) trivial sx (by show 0+x.length≤_; omega) m (by omega)
  rwa [List.nil_append,ird_of hx] at this
 have e2:F.qfb m x z=some (ird (x++z)):=wordPush hx sz (by omega) m (by omega)
 have hl:loopN m (F.qdp m [x,z]) (([]:List Int),0)=some (ird (x++z),2):=by
  refine qax (fun k=>match k with | 0=>(([]:List Int),(0:Int)) | 1=>(x,1) | _=>(ird (x++z),2)) 2 (fun k hk=>?_) ?_ m (by omega)
  ·
   have:k=0∨k=1:=by omega
   rcases this with e | e
   ·
    subst e
    show F.qdp m [x,z] ([],0)=some (.inl (x,1))
    unfold F.qdp
    dsimp only
    rw [dT (by simp),kT,show Ev.get [x,z] 0=some x from rfl,bB,e1,bB,qaj (by omega) (by omega),bB]
    rfl
   ·
    subst e
    show F.qdp m [x,z] (x,1)=some (.inl (ird (x++z),2))
    unfold F.qdp
    dsimp only
    rw [dT (by simp),kT,show Ev.get [x,z] 1=some z from rfl,bB,e2,bB,qaj (by omega) (by omega),bB]
    rfl
  ·
   show F.qdp m [x,z] (ird (x++z),2)=_
   unfold F.qdp
   dsimp only
   rw [dF (by simp),kF]
 unfold F.word_Mul
 rw [hl,bB]
theorem img_ok {s:Nat} {w:List Int} (hs:s≤5) (hw:Rg s w) (hl:w.length≤16) {k:Nat} (hk:k<s):(∀y∈fact w [((k+1:Nat):Int)],Lr s y)∧Irdc (fact w [((k+1:Nat):Int)])∧(fact w [((k+1:Nat):Int)]).length≤20000:=by
 rw [fact_rev]
 exact ⟨iact_lr hw.rev (by omega) (by omega),iact_rdc _ _,iact_small hs hw.rev (by rw [List.length_reverse]; exact hl) (by omega) (by omega)⟩
theorem grow_ok {s:Nat} {w:List Int} (hs:s≤5) (hw:Rg s w) (hl:w.length≤16) {k:Nat} (hk:k<s):(∀y∈grow w k,Lr s y)∧(grow w k).length≤100000:=by
 obtain ⟨h1,h2,h3⟩:=img_ok hs hw hl hk
 refine ⟨fun y hy=>?_,?_⟩
 ·
  rcases List.mem_append.1 (ird_mem y hy) with e | e
  · exact h1 y e
  · rw [List.mem_singleton] at e; rw [e]; unfold Lr; omega
 ·
  have: ∀l:List Int,(ird l).length≤l.length:=by
   intro l
   induction l with
   | nil=>exact Nat.le_refl _
   | cons a l ih=>
    show (ipush a (ird l)).length≤_
    have hp: ∀m:List Int,(ipush a m).length≤m.length+1:=fun m=>by
     cases m with
     | nil=>exact Nat.le_refl _
     | cons b t=>
      by_cases e:a=-b
      · rw [qfk a b t e,List.length_cons]; omega
      · rw [qev e]; exact Nat.le_refl _
    have:=hp (ird l)
    rw [List.length_cons]; omega
  have:=this (fact w [((k+1:Nat):Int)]++[-((k+1:Nat):Int)])
  rw [List.length_append,List.length_singleton] at this
  unfold grow; omega
theorem ag_run {s:Nat} {w:List Int} (hv:okB (s:Int) w=true) (hs:s≤4) (hl:w.length≤16): ∃comp,F.qfd 10000000000 (s:Int) w=some ((s:Int),comp,grows s w,0)∧Cmp s comp:=by
 obtain ⟨v1,v2,v3,v4⟩:=okB_iff.1 hv
 have hw:Rg s w:=v4
 have hnf:=notFullA (by omega) hw hl
 have himg:=artinImages hv 10000000000 (by omega)
 rw [hnf,if_neg (by decide)] at himg
 obtain ⟨y,o,c1,c2,c3⟩:=comp_run (by omega) hs (pmw_pm hw)
 have hb:loopN 10000000000 (F.qcl 10000000000 (rowsA s w,0)) (0,([]:List (List Int)))=some ((s:Int),grows s w):=by
  have hx:=qax (body:=F.qcl 10000000000 (rowsA s w,0)) (fun k=>((k:Int),(grows s w).take k)) s (r:=((s:Int),grows s w)) (fun k hk=>?_) ?_ 10000000000 (by omega)
  · exact hx
  ·
   obtain ⟨h1,h2,h3⟩:=img_ok (by omega) hw hl hk
   have hlen:((grows s w).take k).length=k:=by rw [List.length_take]; unfold grows; rw [List.length_map,List.length_range]; omega
   have et:(grows s w).take (k+1)=(grows s w).take k++[grow w k]:=by
    rw [List.take_add_one]; unfold grows; rw [List.getElem?_map,List.getElem?_range hk]; rfl
   have hmul:=mul_two h2 (lr_sm (by omega) h1) (z:=[-((k+1:Nat):Int)]) (fun z hz=>by rw [List.mem_singleton] at hz; rw [hz]; omega) (by omega) (by simp) 10000000000 (by omega)
   unfold F.qcl
   dsimp only
   rw [rowsA_len,dT (by omega),kT,get_at rfl (rowsA_at hk),bB,qaj (by omega) (by omega),bB,qaj (by omega) (by omega),bB,show (-((k:Int)+1))=-((k+1:Nat):Int) by omega,hmul,bB,lim_ok (by rw [hlen,List.length_singleton]; omega),bB,bB,et]
   rfl
  ·
   unfold F.qcl
   dsimp only
   rw [rowsA_len,dF (by omega),kF,List.take_of_length_le (by unfold grows; rw [List.length_map,List.length_range]; exact Nat.le_refl _)]
 obtain ⟨o1,o2⟩:=o
 refine ⟨o2,?_,c3⟩
 unfold F.qfd
 rw [himg,bB]
 dsimp only
 rw [dT rfl,Bool.not_true,kF,qep (by omega) (by omega),bB,braidPerm hv 10000000000 (by omega),bB,c1,bB,c2,bB]
 dsimp only
 rw [hb,bB]
