import Derived.Test.YtpnppjlnfhlmpaaGreatPWart
import Derived.Test.YtpnppjlnfhlmpaaGreatPWval
import Derived.Test.YtpnppjlnfhlmpaaGreatPHcnt3
set_option linter.all false
namespace Go.Proofs.YtpnppjlnfhlmpaaGreat
open Ev
namespace Ho
open Gar Pg
def rlc (A:Nat→Nat) (sgn:Int) (c:Nat):List Int:=
 if 0<sgn then [-((A (4*c+2):Int)+1),-((A (4*c+1):Int)+1),(A (4*c):Int)+1,(A (4*c+1):Int)+1]
 else [-((A (4*c+2):Int)+1),(A (4*c+1):Int)+1,(A (4*c):Int)+1,-((A (4*c+1):Int)+1)]
def rls (A:Nat→Nat) (sg:List Int):List (List Int):=(List.range sg.length).map fun c=>ird (rlc A (sg.getD c 0) c)
structure Cmp (g:Nat) (q:List Int):Prop where
 len:q.length=g
 rng: ∀x∈q,0≤x∧x<(g:Int)
theorem Cmp.set {g:Nat} {q:List Int} (h:Cmp g q) {i:Nat} {v:Int} (hv:0≤v∧v<(g:Int)):Cmp g (q.set i v):=
 ⟨by rw [Xs]; exact h.len,fun x hx=>by
  rcases List.mem_or_eq_of_mem_set hx with e | e
  · exact h.rng x e
  · rw [e]; exact hv⟩
section
variable {sg M : List Int} {lo : Int} {μ : Nat → Nat}
theorem strs_elem {n:Nat} {M:List Int} {μ:Nat→Nat} (hM:MT (4*n) M μ) (sg:List Int) (k:Nat): ∀st∈strs hM sg k,∀h∈st,∃j:Nat,h=(j:Int)∧j<4*n:=by
 intro st hst h hh
 unfold strs at hst
 obtain ⟨a,ha,rfl⟩:=Qo.1 hst
 by_cases hl:a<4*n
 ·
  rw [dif_pos hl] at hh
  unfold cyc at hh
  obtain ⟨i,_,rfl⟩:=Qo.1 hh
  refine ⟨_,rfl,?_⟩
  have P:=hM.iv.pn
  have: ∀i,it (nx μ) i a<4*n:=by
   intro i
   induction i with
   | zero=>exact hl
   | succ i ih=>exact P.lt _ ih
  exact this i
 · rw [dif_neg hl] at hh; cases hh
open Classical in
theorem strs_le (D:DV sg M lo μ) {A:Nat→Nat} {cnt':Nat} (hA:ArcS (4*sg.length) (mtP (4*sg.length) μ++ovP sg.length) A cnt'):(strs D.mt sg (4*sg.length)).length≤cnt':=by
 have iv:=D.mt.iv
 let adj:=adjI (4*sg.length) (nx μ)
 have hs: ∀a b,adj a b→adj b a:=adjI_symm
 let o:Nat→Nat:=fun h=>if Outg sg h then h else μ h
 let col:Nat→Nat→Prop:=fun h k=>Cn adj (o h) k
 have ceq: ∀a b,Cn adj (o a) (o b)→col a=col b:=fun a b h=>by
  funext k
  exact propext ⟨fun q=>(h.symm hs).trans q,fun q=>h.trans q⟩
 have hcol: ∀a b,(a,b)∈mtP (4*sg.length) μ++ovP sg.length→col a=col b:=by
  intro a b hab
  rcases Qs.1 hab with h | h
  ·
   unfold mtP at h
   obtain ⟨k,hk,e⟩:=Qo.1 h
   obtain ⟨e1,e2⟩:=Prod.mk.inj e
   subst e1 e2
   have hk':=Qg.1 hk
   refine ceq _ _ ?_
   have:o k=o (μ k):=by
    show (if Outg sg k then k else μ k)=if Outg sg (μ k) then μ k else μ (μ k)
    by_cases q:Outg sg k
    · rw [if_pos q,if_neg (fun q'=>(D.out k hk').1 q' q),iv.inv k hk']
    · rw [if_neg q,if_pos ((D.out k hk').2 q)]
   rw [this]; exact .refl _
  ·
   unfold ovP at h
   obtain ⟨c,hc,e⟩:=Qo.1 h
   obtain ⟨e1,e2⟩:=Prod.mk.inj e
   subst e1 e2
   have hc':=Qg.1 hc
   refine ceq _ _ ?_
   have hsg:sg.getD c 0=1∨sg.getD c 0=-1:=by
    rw [getD_of' hc']; exact D.sgn _ (Qj hc')
   have key: ∀a b,a<4*sg.length→b<4*sg.length→Outg sg a→¬Outg sg b→turnN b 2=a→Cn adj (o a) (o b):=fun a b ha hb h1 h2 h3=>by
    show Cn adj (if Outg sg a then a else μ a) (if Outg sg b then b else μ b)
    rw [if_pos h1,if_neg h2]
    refine Cn.symm hs (Cn.one ⟨iv.lt b hb,ha,.inl ?_⟩)
    unfold nx
    rw [iv.inv b hb,h3]
   rcases hsg with q | q
   ·
    refine key _ _ (by omega) (by omega) (.inr (.inl ⟨by omega,by rw [show (4*c+1)/ 4=c by omega,q]⟩)) ?_ (by unfold turnN; omega)
    unfold Outg
    rw [show (4*c+3)/ 4=c by omega,q]
    omega
   ·
    refine Cn.symm hs (key _ _ (by omega) (by omega) (.inr (.inr ⟨by omega,by rw [show (4*c+3)/ 4=c by omega,q]⟩)) ?_ (by unfold turnN; omega))
    unfold Outg
    rw [show (4*c+1)/ 4=c by omega,q]
    omega
 have fac:=hA.fac col hcol
 rw [strs_len]
 have hnd:(((List.range (4*sg.length)).filter fun h=>decide (Outg sg h∧Rep adj h)).map A).Nodup:=by
  rw [List.Nodup,Yj]
  refine List.Pairwise.imp_of_mem ?_ (List.Pairwise.filter _ Yc)
  intro a b ha hb hab e
  obtain ⟨a1,a2⟩:=Qx.1 ha
  obtain ⟨b1,b2⟩:=Qx.1 hb
  obtain ⟨a3,a4⟩:=of_decide_eq_true a2
  obtain ⟨b3,b4⟩:=of_decide_eq_true b2
  have h:=fac a b (Qg.1 a1) (Qg.1 b1) e
  have h2:Cn adj (o b) (o b):=.refl _
  have h3:Cn adj (o a) (o b):=by
   have:=congrFun h (o b)
   exact this.mpr h2
  have ea:o a=a:=if_pos a3
  have eb:o b=b:=if_pos b3
  rw [ea,eb] at h3
  exact hab (rep_eq hs a4 b4 h3)
 have hle: ∀(l:List Nat),l.Nodup→(∀x∈l,x<cnt')→l.length≤cnt':=fun l h1 h2=>by
  have h3:=List.Nodup.length_le_of_subset h1 (l₂:=List.range cnt') (fun x hx=>Qg.2 (h2 x hx))
  rwa [Qn] at h3
 have:=hle _ hnd (fun x hx=>by
  obtain ⟨a,ha,rfl⟩:=Qo.1 hx
  exact hA.lt a (Qg.1 (Qx.1 ha).1))
 rw [Qu] at this
 unfold cnt
 refine Z3 (Nat.le_of_eq ?_) this
 exact congrArg List.length (Yl fun x _=>decide_eq_decide.mpr Iff.rfl)
end
end Ho
end Go.Proofs.YtpnppjlnfhlmpaaGreat

set_option linter.all false
namespace Go.Proofs.YtpnppjlnfhlmpaaGreat
open Ev
namespace Ho
open Gar Pg
theorem wirtValid {gens:Nat} {comp:List Int} {ws:List (List Int)} (hg:gens≤1000) (hc:Cmp gens comp) (hw: ∀w∈ws,wV w (gens:Int)=true∧w.length≤100000) (hl:ws.length≤1000) (m:Nat) (hm:200000≤m):F.qdt m (gens:Int) comp ws=some true:=by
 have hcl:=hc.len
 have l0:loopN m (F.qeg m (gens:Int) comp) 0=some (.inl (comp.length:Int)):=by
  refine qba (fun k=>((k:Nat):Int)) comp.length (fun k hk=>?_) ?_ m (by omega)
  ·
   have e1:comp[k]? =some comp[k]:=gE hk
   obtain ⟨h1,h2⟩:=hc.rng _ (Qj hk)
   unfold F.qeg
   dsimp only
   rw [dT (by omega),kT,get_at rfl e1,bB,dF (by omega),kF,dF (by omega),kF,qal (by omega) (by omega),bB]
   rfl
  ·
   unfold F.qeg
   dsimp only
   rw [dF (by omega),kF]
 have l1:loopN m (F.qdf m (gens:Int) ws) 0=some (.inl (ws.length:Int)):=by
  refine qba (fun k=>((k:Nat):Int)) ws.length (fun k hk=>?_) ?_ m (by omega)
  ·
   have e1:ws[k]? =some ws[k]:=gE hk
   obtain ⟨h1,h2⟩:=hw _ (Qj hk)
   unfold F.qdf
   dsimp only
   rw [dT (by omega),kT,get_at rfl e1,bB,wordValid (by omega) (by omega) m (by omega),h1,bB,Qi,kF,qal (by omega) (by omega),bB]
   rfl
  ·
   unfold F.qdf
   dsimp only
   rw [dF (by omega),kF]
 unfold F.qdt
 rw [dF (by omega),kF,dF (by omega),kF,dT (by omega),Qi,kF,l0,bB]
 dsimp only
 rw [l1,bB]
section
variable {sg M : List Int} {L : Nat} {μ A : Nat → Nat} {cnt g : Nat}
theorem ofIn {N k:Nat} {q st:List Int} (hk:k<g) (hA: ∀j,j<N→A j<cnt) (hcg:cnt≤g) (hg:g≤1000) (hst: ∀h∈st,∃j:Nat,h=(j:Int)∧j<N) (hl:st.length≤100000) (hq:Cmp g q) (c:Int) (m:Nat) (hm:200000≤m):
  ∃o,loopN m (F.qen m (li N A,c) (k:Int) st) (0,q)=some o∧Cmp g o.2:=by
 refine qbq (fun s=> ∃i:Nat,i≤st.length∧s.1=(i:Int)∧Cmp g s.2) (fun s=>st.length-s.1.toNat) _ ?_ m _ ⟨0,Xk _,rfl,hq⟩ (by show st.length-(0:Int).toNat<m; omega)
 rintro ⟨s1,s2⟩ ⟨i,hi,e1,hc⟩
 dsimp only at e1 hc
 subst e1
 unfold F.qen
 dsimp only
 by_cases hlt:i<st.length
 ·
  left
  obtain ⟨j,e2,hj⟩:=hst _ (Qj hlt)
  have hAj:=hA j hj
  have e3:st[i]? =some (j:Int):=by rw [gE hlt,e2]
  have hl2:A j<s2.length:=by rw [hc.len]; omega
  rw [dT (by omega),kT,get_at rfl e3,bB,qas,li_at hj,bB,qas,gE hl2,bB,qal (by omega) (by omega),bB,Qb]
  exact ⟨_,rfl,⟨i+1,hlt,rfl,hc.set (by omega)⟩,by dsimp only; omega⟩
 ·
  right
  rw [dF (by omega),kF]
  exact ⟨_,rfl,hc⟩
theorem ofIn0 {N:Nat} {q:List Int} {sts:List (List Int)} (hk:sts.length≤g) (hA: ∀j,j<N→A j<cnt) (hcg:cnt≤g) (hg:g≤1000) (hst: ∀st∈sts,(∀h∈st,∃j:Nat,h=(j:Int)∧j<N)∧st.length≤100000) (hq:Cmp g q) (c:Int) (m:Nat) (hm:200000≤m):
  ∃o,loopN m (F.qet m (li N A,c) sts) (0,q)=some o∧Cmp g o.2:=by
 refine qbq (fun s=> ∃i:Nat,i≤sts.length∧s.1=(i:Int)∧Cmp g s.2) (fun s=>sts.length-s.1.toNat) _ ?_ m _ ⟨0,Xk _,rfl,hq⟩ (by show sts.length-(0:Int).toNat<m; omega)
 rintro ⟨s1,s2⟩ ⟨i,hi,e1,hc⟩
 dsimp only at e1 hc
 subst e1
 unfold F.qet
 dsimp only
 by_cases hlt:i<sts.length
 ·
  left
  obtain ⟨h1,h2⟩:=hst _ (Qj hlt)
  obtain ⟨⟨o1,o2⟩,q1,q2⟩:=ofIn (k:=i) (by omega) hA hcg hg h1 h2 hc c m hm
  rw [dT (by omega),kT,get_at rfl (gE hlt),bB,q1,bB]
  dsimp only
  rw [qal (by omega) (by omega),bB]
  exact ⟨_,rfl,⟨i+1,hlt,rfl,q2⟩,by dsimp only; omega⟩
 ·
  right
  rw [dF (by omega),kF]
  exact ⟨_,rfl,hc⟩
theorem ofIn2 {q al:List Int} {sts:List (List Int)} (hk:sts.length≤cnt) (hcg:cnt+L=g) (hg:g≤1000) (hq:Cmp g q) (m:Nat) (hm:200000≤m):
  ∃o,loopN m (F.qeq m (L:Int) (al,(cnt:Int)) sts) (0,q)=some o∧Cmp g o.2:=by
 refine qbq (fun s=> ∃i:Nat,i≤L∧s.1=(i:Int)∧Cmp g s.2) (fun s=>L-s.1.toNat) _ ?_ m _ ⟨0,Xk _,rfl,hq⟩ (by show L-(0:Int).toNat<m; omega)
 rintro ⟨s1,s2⟩ ⟨i,hi,e1,hc⟩
 dsimp only at e1 hc
 subst e1
 unfold F.qeq
 dsimp only
 by_cases hlt:i<L
 ·
  left
  have hl2:cnt+i<s2.length:=by rw [hc.len]; omega
  rw [dT (by omega),kT,qal (by omega) (by omega),bB,qal (by omega) (by omega),bB,get_at (k:=cnt+i) (by omega) (gE hl2),bB,qal (by omega) (by omega),bB]
  exact ⟨_,rfl,⟨i+1,hlt,rfl,hc.set (by omega)⟩,by dsimp only; omega⟩
 ·
  right
  rw [dF (by omega),kF]
  exact ⟨_,rfl,hc⟩
theorem rlc_lr (hA: ∀j,j<4*sg.length→A j<cnt) (hcg:cnt≤g) {c:Nat} (hc:c<sg.length) (v:Int): ∀y∈rlc A v c,Lr g y:=by
 have a0:=hA (4*c) (by omega)
 have a1:=hA (4*c+1) (by omega)
 have a2:=hA (4*c+2) (by omega)
 intro y hy
 unfold rlc at hy
 unfold Lr
 split at hy<;>simp only [Qp,Qh,or_false] at hy<;>rcases hy with h | h | h | h<;>rw [h]<;>omega
theorem ofRel (hn:sg.length≤64) (hA: ∀j,j<4*sg.length→A j<cnt) (hcb:cnt≤1000) (c:Int) (m:Nat) (hm:200000≤m):
  loopN m (F.qda m sg (li (4*sg.length) A,c)) (0,([]:List (List Int)))=some ((sg.length:Int),rls A sg):=by
 have hx:=qba (body:=F.qda m sg (li (4*sg.length) A,c)) (fun k=>((k:Int),(rls A sg).take k)) sg.length (r:=((sg.length:Int),rls A sg)) (fun k hk=>?_) ?_ m (by omega)
 · exact hx
 ·
  have e1:sg[k]? =some (sg.getD k 0):=by rw [Qc,gE hk,Xi]
  have a0:=hA (4*k) (by omega)
  have a1:=hA (4*k+1) (by omega)
  have a2:=hA (4*k+2) (by omega)
  have hlen:((rls A sg).take k).length=k:=by rw [Xx]; unfold rls; rw [Qu,Qn]; omega
  have et:(rls A sg).take (k+1)=(rls A sg).take k++[ird (rlc A (sg.getD k 0) k)]:=by
   rw [Xc]; unfold rls; rw [Qm,Qy hk]; rfl
  have hsm:Sm (rlc A (sg.getD k 0) k):=fun y hy=>by
   have:=rlc_lr hA (Xb cnt) hk _ y hy
   unfold Lr at this; omega
  have hrl:(rlc A (sg.getD k 0) k).length≤4:=by unfold rlc; split<;>exact Xb 4
  have hred:=wordReduce hsm (by omega) m (by omega)
  unfold F.qda
  dsimp only
  rw [dT (by omega),kT,get_at rfl e1,bB,qal (z:=4*(k:Int)) (by omega) (by omega),bB,get_at (k:=4*k) (by omega) (li_at (by omega)),bB,qal (by omega) (by omega),bB,bB,qal (by omega) (by omega),bB,get_at (k:=4*k+2) (by omega) (li_at (by omega)),bB,qal (by omega) (by omega),bB,bB,qal (by omega) (by omega),bB,get_at (k:=4*k+1) (by omega) (li_at (by omega)),bB,qal (by omega) (by omega),bB,et]
  by_cases h0:0<sg.getD k 0
  ·
   have er:rlc A (sg.getD k 0) k=[-((A (4*k+2):Int)+1),-((A (4*k+1):Int)+1),(A (4*k):Int)+1,(A (4*k+1):Int)+1]:=if_pos h0
   rw [dT h0,kT,qal (by omega) (by omega),bB,qal (by omega) (by omega),bB,lim_ok (by simp),bB,Zr,←er,hred,bB,lim_ok (by rw [hlen,Xa]; omega),bB,qal (by omega) (by omega),bB]
   rfl
  ·
   have er:rlc A (sg.getD k 0) k=[-((A (4*k+2):Int)+1),(A (4*k+1):Int)+1,(A (4*k):Int)+1,-((A (4*k+1):Int)+1)]:=if_neg h0
   rw [dF h0,kF,qal (by omega) (by omega),bB,qal (by omega) (by omega),bB,lim_ok (by simp),bB,Zr,←er,hred,bB,lim_ok (by rw [hlen,Xa]; omega),bB,qal (by omega) (by omega),bB]
   rfl
 ·
  unfold F.qda
  dsimp only
  rw [dF (by omega),kF,Xo (by unfold rls; rw [Qu,Qn]; exact Xb _)]
theorem of_run (D:DV sg M (L:Int) μ) (m:Nat) (hm:200000≤m):
  ∃(A:Nat→Nat) (cnt:Nat) (comp:List Int),F.qdj m sg M (L:Int)=some (li (4*sg.length) A,(cnt:Int))∧cnt≤4*sg.length∧ArcS (4*sg.length) (mtP (4*sg.length) μ++ovP sg.length) A cnt∧
   F.qic m sg M (L:Int)=some (((cnt+L:Nat):Int),comp,rls A sg,0)∧Cmp (cnt+L) comp:=by
 have hn:=D.n
 have hL:=D.lo1
 obtain ⟨A,cnt,hcN,q1,hA⟩:=arcs_run (lo:=(L:Int)) D.mt.1 (fun k hk=>⟨(D.mt.2 k hk).1,(D.mt.2 k hk).2.1⟩) (sg:=sg) rfl (by omega) m (by omega)
 have hsl:=strs_le D hA
 have hq0:Cmp (cnt+L) (List.replicate (cnt+L) (0:Int)):=⟨Qv ..,fun x hx=>by have h9:=List.mem_replicate.1 hx; omega⟩
 obtain ⟨⟨o1,o2⟩,q2,c2⟩:=ofIn0 (N:=4*sg.length) (sts:=strs D.mt sg (4*sg.length)) (g:=cnt+L) (by omega) hA.lt (by omega) (by omega) (fun st hst=>⟨strs_elem D.mt sg _ st hst,by
  unfold strs at hst
  obtain ⟨a,ha,rfl⟩:=Qo.1 hst
  by_cases hl:a<4*sg.length
  ·
   rw [dif_pos hl]; unfold cyc; rw [Qu,Qn]
   have P:=D.mt.iv.pn
   have:=per_le P hl
   omega
  · rw [dif_neg hl]; exact Xk _⟩) hq0 (cnt:Int) m hm
 obtain ⟨⟨p1,p2⟩,q3,c3⟩:=ofIn2 (L:=L) (al:=li (4*sg.length) A) (sts:=strs D.mt sg (4*sg.length)) hsl rfl (by omega) c2 m hm
 refine ⟨A,cnt,p2,q1,hcN,hA,?_,c3⟩
 unfold F.qic
 rw [dvalid_true D m (by omega),bB,Qi,kF,q1,bB]
 dsimp only
 rw [qal (by omega) (by omega),bB,bB,qdw (by omega) (by omega),bB,strands_eq D m (by omega),bB,show ((cnt:Int)+(L:Int)).toNat=cnt+L by omega,q2,bB]
 dsimp only
 rw [q3,bB]
 dsimp only
 rw [ofRel hn hA.lt (by omega) _ m hm,bB]
 dsimp only
 rw [show (cnt:Int)+(L:Int)=((cnt+L:Nat):Int) by omega]
end
end Ho
end Go.Proofs.YtpnppjlnfhlmpaaGreat

set_option linter.all false
namespace Go.Proofs.YtpnppjlnfhlmpaaGreat
open Ev
namespace Ho
open Gar Pg
section
variable {n gens : Nat} {C : List (List Int)} {ws : List (List Int)}
open Classical in
theorem count_run2 {comp cyc:List Int} (h1:1≤n) (h5:n≤5) (hC: ∀p∈C,Pe n p) (hCl:C.length≤1000) (hg:gens≤999) (hw: ∀w∈ws,(∀y∈w,Lr gens y)∧w.length≤100000) (hl:ws.length≤1000) (m:Nat) (hm:300000≤m)
  (hv:F.qdt m (gens:Int) comp ws=some true) (hc:F.qdx m (n:Int) cyc=some (C,0)):
  ∃c e,F.qgn m (gens:Int) comp ws (n:Int) cyc=some (c,e)∧(e=13∨(e=0∧c=(hct n C gens ws:Int)∧hct n C gens ws≤200000)):=by
 rcases Nat.eq_zero_or_pos gens with h00 | hg1
 ·
  subst h00
  obtain ⟨m,rfl⟩: ∃m',m=m'+1:=⟨m-1,by omega⟩
  have hw0: ∀w∈ws,w=[]:=fun w hw'=>by
   cases w with
   | nil=>rfl
   | cons y r=>have:=(hw _ hw').1 y Ql; unfold Lr at this; omega
  have h1c:hct n C 0 ws=1:=by
   unfold hct tpl
   rw [Xm,if_pos (dT fun w hw'=>by rw [hw0 w hw']; rfl)]; rfl
  refine ⟨1,0,?_,.inr ⟨rfl,by rw [h1c]; rfl,by omega⟩⟩
  unfold F.qgn F.qbv
  rw [hv,bB,Qi,kF,dF (by omega),kF,dF (by omega),kF,hc,bB,dT rfl,Qi,kF,byG_run hw hl (by omega) _ (by omega),bB,ident_run (by omega) _ (by omega),bB,bB,qdw (by omega) (by omega),bB,bB]
  unfold F.qci
  dsimp only
  rw [F.qcj,dT (show (0:Int)=((0:Nat):Int) from rfl),kT]
  unfold F.qhu
  rfl
 have G:=good_rg hC hCl (by omega) hg hw hl (gens:=gens)
 have A:Aft n gens 0 [] (List.replicate gens ([]:List Int)) (List.replicate gens ([]:List Int)) (un n) 0 0:=
  ⟨⟨⟨rfl,fun p hp=>absurd hp (by simp)⟩,by simp,by simp⟩,by simp,by simp,(Pe.un n).len,by omega,by omega,by omega⟩
 obtain ⟨ok,l',inv',v',num',eff',q1,q2,q3,q4⟩:=try_run G comp ws gens 0 m [] _ _ _ 0 0 (by omega) (by omega) A (by omega) (fun h=>by omega)
 have e0:((0:Nat):Int)=0:=rfl
 rw [e0] at q1
 have key:F.qbv m (gens:Int) comp ws (n:Int) cyc 0=some (if 200000<eff' then 13 else 0,num'):=by
  unfold F.qbv
  rw [hv,bB,Qi,kF,dF (by omega),kF,dF (by omega),kF,hc,bB,dT rfl,Qi,kF,byG_run hw hl hg m (by omega),bB,ident_run (by omega) m (by omega),bB,bB,qdw (by omega) (by omega),bB,bB,Qb]
  unfold F.qci
  dsimp only
  rw [q1,bB]
  dsimp only
  by_cases hb:200000<eff'
  · rw [dT hb,kT,if_pos hb]
  · rw [dF hb,kF,if_neg hb]
 unfold F.qgn
 rw [key,bB]
 dsimp only
 by_cases hb:200000<eff'
 ·
  rw [if_pos hb,dF (by decide),Qz,kT]
  exact ⟨_,_,rfl,.inl rfl⟩
 ·
  rw [if_neg hb,dT rfl,Qi,kF]
  refine ⟨_,_,rfl,.inr ⟨rfl,?_⟩⟩
  cases ok with
  | false=>exact absurd (q4 rfl) hb
  | true=>
   have h2:=q2.ne
   have h3:=(q3 rfl).2
   have h4:=(q3 rfl).1
   rw [cT_all G hw] at h3
   exact ⟨by rw [h3]; omega,by omega⟩
end
def tup (m:Nat):Nat→List (List Int)
 | 0=>[[]]
 | n+1=>(tup m n).flatMap fun t=>(List.range m).map fun (a:Nat)=>(a:Int)::t
theorem mem_tup (m:Nat): ∀(p:List Int),(∀x∈p,0≤x∧x<(m:Int))→p∈tup m p.length
 | [],_=>by simp [tup]
 | a::t,h=>by
  have ih:=mem_tup m t fun x hx=>h x (Qf _ hx)
  have ha:=h a Ql
  rw [Xe]
  unfold tup
  exact List.mem_flatMap.2 ⟨t,ih,Qo.2 ⟨a.toNat,Qg.2 (by omega),by rw [Int.toNat_of_nonneg ha.1]⟩⟩
/-! Classes of at most four points,and their quandles. -/
def tbi (T:List (List Int)) (i j:Nat):Nat:=((T.getD i []).getD j 0).toNat
def qunB (C T:List (List Int)):Bool:=
 decide (T.length=C.length)&&(decide (1≤C.length)&&(decide (C.length≤30)&&(decide (C.Nodup)&&
 ((T.all fun r=>decide (r.length=C.length)&&r.all fun x=>decide (0≤x)&&decide (x<(C.length:Int)))&&
 (((List.range C.length).all fun i=>(List.range C.length).all fun j=>decide (mu (C.getD j []) (C.getD (tbi T i j) [])=mu (C.getD i []) (C.getD j [])))&&
 ((List.range C.length).all fun i=>decide (tbi T i i=i)))))))
def clsB (n:Nat) (C:List (List Int)):Bool:=
 (C.all fun p=>decide (p.length=n)&&(p.all fun x=>decide (0≤x)&&decide (x<(n:Int)))&&decide p.Nodup)&&match F.qfg 10000000000 C with
  | some y=>decide (y.2=0)&&(qunB C y.1&&decide (F.qfr 10000000000 y.1=some true))
  | none=>false
structure Cls (n:Nat) (C:List (List Int)):Prop where
 pe: ∀p∈C,Pe n p
 qu: ∃T,F.qfg 10000000000 C=some (T,0)∧qunB C T=true∧F.qfr 10000000000 T=some true
theorem Cls.cl {n:Nat} {C:List (List Int)} (K:Cls n C):C.length≤1000:=by
 obtain ⟨T,_,h,_⟩:=K.qu
 unfold qunB at h
 simp only [Yo,decide_eq_true_eq] at h
 omega
theorem clsB_cls {n:Nat} {C:List (List Int)} (h:clsB n C=true):Cls n C:=by
 unfold clsB at h
 rw [Yo] at h
 obtain ⟨h1,h2⟩:=h
 refine ⟨fun p hp=>?_,?_⟩
 ·
  simp only [Yo,Y0,decide_eq_true_eq] at h1
  obtain ⟨⟨e1,e2⟩,e3⟩:=h1 p hp
  obtain ⟨f,g,q1,q2⟩:=isP_of (p:=p) (fun x hx=>by have:=e2 x hx; rw [e1]; exact this) e3
  rw [e1] at q1 q2
  exact ⟨f,g,q1,q2⟩
 ·
  cases hy:F.qfg 10000000000 C with
  | none=>rw [hy] at h2; cases h2
  | some y=>
   rw [hy] at h2
   dsimp only at h2
   simp only [Yo,decide_eq_true_eq] at h2
   obtain ⟨a,b,c⟩:=h2
   exact ⟨y.1,by rw [←a],b,c⟩
def clsR (n:Nat) (cs:List Int):Bool:=match F.qdx 10000000000 (n:Int) cs with
 | some y=>!(decide (y.2=0)) || clsB n y.1
 | none=>false
set_option maxRecDepth 100000 in
theorem cls_tab: ∀n∈[1,2,3,4],∀k∈[0,1,2,3,4],∀cs∈tup (n+1) k,clsR n cs=true:=by decide+kernel
theorem cls_loop {N:Nat} (hN:N≤8) {cs:List Int} (hl:cs.length≤1000) (m:Nat) (hm:2000≤m):
  ∃o,loopN m (F.qhr m cs) ((N:Int),0)=some o∧(o=.inr ([],1)∨∃r:Int,o=.inl (r,(cs.length:Int))∧0≤r∧r+cs.length≤N∧∀x∈cs,1≤x∧x≤(N:Int)):=by
 refine qbq (fun s:Int×Int=> ∃i:Nat,i≤cs.length∧s.2=(i:Int)∧0≤s.1∧s.1+(i:Int)≤(N:Int)∧∀x∈cs.take i,1≤x∧x≤(N:Int)) (fun s=>cs.length-s.2.toNat) _ ?_ m _ ⟨0,Xk _,rfl,by dsimp only; omega,by dsimp only; omega,fun x hx=>absurd hx (by simp)⟩ (by show cs.length-(0:Int).toNat<m; omega)
 rintro ⟨s1,s2⟩ ⟨i,hi,e1,h0,hs,ht⟩
 dsimp only at e1 h0 hs
 subst e1
 unfold F.qhr
 dsimp only
 by_cases hlt:i<cs.length
 ·
  have e2:cs[i]? =some cs[i]:=gE hlt
  rw [dT (by omega),kT,get_at rfl e2,bB]
  by_cases a1:cs[i]<1
  · right; rw [dT a1,kT]; exact ⟨_,rfl,.inl rfl⟩
  rw [dF a1,kF]
  by_cases a2:s1<cs[i]
  · right; rw [dT a2,kT]; exact ⟨_,rfl,.inl rfl⟩
  rw [dF a2,kF]
  have hn: ∀x∈cs.take (i+1),1≤x∧x≤(N:Int):=fun x hx=>by
   rw [Xc,e2] at hx
   rcases Qs.1 hx with h | h
   · exact ht x h
   · rw [show (some cs[i]).toList=[cs[i]] from rfl,Qq] at h; rw [h]; omega
  by_cases a3:0<(i:Int)
  ·
   have e3:cs[i-1]? =some cs[i-1]:=gE (by omega)
   rw [dT a3,kT,qal (by omega) (by omega),bB,get_at (k:=i-1) (by omega) e3,bB]
   by_cases a4:cs[i-1]<cs[i]
   · right; rw [dT a4,kT]; exact ⟨_,rfl,.inl rfl⟩
   ·
    left
    rw [dF a4,kF,qal (by omega) (by omega),bB,qal (by omega) (by omega),bB]
    exact ⟨_,rfl,⟨i+1,hlt,rfl,by dsimp only; omega,by dsimp only; omega,hn⟩,by dsimp only; omega⟩
  ·
   left
   rw [dF a3,kF,qal (by omega) (by omega),bB,qal (by omega) (by omega),bB]
   exact ⟨_,rfl,⟨i+1,hlt,rfl,by dsimp only; omega,by dsimp only; omega,hn⟩,by dsimp only; omega⟩
 ·
  right
  have:i=cs.length:=by omega
  subst this
  rw [dF (by omega),kF]
  rw [Xl] at ht
  exact ⟨_,rfl,.inr ⟨s1,rfl,h0,hs,ht⟩⟩
theorem class_run {n:Nat} (h1:1≤n) (h4:n≤4) {cs:List Int} (hl:cs.length≤1000): ∃y,F.qdx 10000000000 (n:Int) cs=some y∧(y.2=0→Cls n y.1):=by
 obtain ⟨o,q1,q2⟩:=cls_loop (N:=n) (by omega) hl 10000000000 (by omega)
 rcases q2 with e | ⟨r,e,r0,r1,r2⟩
 ·
  subst e
  refine ⟨([],1),?_,fun h=>absurd h (by decide)⟩
  unfold F.qdx
  rw [dF (by omega),kF,dF (by omega),kF,q1,bB]
 ·
  have hk:cs.length≤4:=by omega
  have hm:cs∈tup (n+1) cs.length:=mem_tup (n+1) cs fun x hx=>by have:=r2 x hx; omega
  have hn4:n∈[1,2,3,4]:=by
   have:n=1∨n=2∨n=3∨n=4:=by omega
   rcases this with e | e | e | e<;>rw [e]<;>decide
  have hk4:cs.length∈[0,1,2,3,4]:=by
   have:cs.length=0∨cs.length=1∨cs.length=2∨cs.length=3∨cs.length=4:=by omega
   rcases this with e | e | e | e | e<;>rw [e]<;>decide
  have ht:=cls_tab n hn4 _ hk4 cs hm
  unfold clsR at ht
  cases hy:F.qdx 10000000000 (n:Int) cs with
  | none=>rw [hy] at ht; cases ht
  | some y=>
   rw [hy] at ht
   dsimp only at ht
   refine ⟨y,rfl,fun h=>?_⟩
   rw [dT h,Qi,Y8] at ht
   exact clsB_cls ht
/-! Groups as the program writes them down. -/
structure Wg (g:Nat) (c:List Int) (ws:List (List Int)):Prop where
 g2:g≤999
 cm:Cmp g c
 wr: ∀w∈ws,(∀y∈w,Lr g y)∧w.length≤100000
 wl:ws.length≤1000
theorem Wg.valid {g:Nat} {c:List Int} {ws:List (List Int)} (h:Wg g c ws):F.qdt 10000000000 (g:Int) c ws=some true:=by
 have h2:=h.g2
 refine wirtValid (by omega) h.cm (fun w hw=>?_) h.wl _ (by omega)
 obtain ⟨q1,q2⟩:=h.wr w hw
 refine ⟨wV_iff.2 fun y hy=>?_,q2⟩
 have:=q1 y hy
 unfold Lr at this
 omega
theorem wg_of {sg comp:List Int} {A:Nat→Nat} {cnt g:Nat} (hA: ∀j,j<4*sg.length→A j<cnt) (hcg:cnt≤g) (hg2:g≤999) (hn:sg.length≤64) (hc:Cmp g comp):Wg g comp (rls A sg):=by
 refine ⟨hg2,hc,fun v hv=>?_,by unfold rls; rw [Qu,Qn]; omega⟩
 obtain ⟨c,hcc,rfl⟩:=Qo.1 hv
 have hc':=Qg.1 hcc
 refine ⟨fun y hy=>rlc_lr hA hcg hc' _ y (ird_mem y hy),?_⟩
 have:=ird_len_le (rlc A (sg.getD c 0) c)
 have h4:(rlc A (sg.getD c 0) c).length=4:=by unfold rlc; split<;>rfl
 omega
where
 ird_len_le: ∀l:List Int,(ird l).length≤l.length
  | []=>Xb _
  | a::l=>by
   have ih:=ird_len_le l
   show (ipush a (ird l)).length≤_
   have hp: ∀m:List Int,(ipush a m).length≤m.length+1:=fun m=>by
    cases m with
    | nil=>exact Xb _
    | cons b t=>
     by_cases e:a=-b
     · rw [ipush_eq a b t e,Xe]; omega
     · rw [qgs e]; exact Xb _
   have:=hp (ird l)
   rw [Xe]; omega
