import Derived.Test.YtpnppjlnfhlmpaaGreatPGint
import Derived.Test.YtpnppjlnfhlmpaaGreatPHcnt3
set_option linter.all false
namespace Go.Proofs.YtpnppjlnfhlmpaaGreat
open Ev
namespace Ho
open Gar
inductive Rt (p:List Int):Nat→Nat→Nat→Prop
 | root {h:Nat}:p[h]? =some (h:Int)→Rt p 0 h h
 | step {d h k r:Nat}:p[h]? =some (k:Int)→k≠h→Rt p d k r→Rt p (d+1) h r
theorem Rt.at_ {p:List Int} {d h r:Nat} (h1:Rt p d h r):p[r]? =some (r:Int):=by
 induction h1 with
 | root e=>exact e
 | step _ _ _ ih=>exact ih
theorem Rt.uniq {p:List Int} {d h r:Nat} (h1:Rt p d h r): ∀{d' r':Nat},Rt p d' h r'→r'=r:=by
 induction h1 with
 | root e=>
  intro d' r' h2
  cases h2 with
  | root e'=>rfl
  | step e' hne _=>rw [e] at e'; injection e' with e'; exact absurd (Int.ofNat.inj e').symm hne
 | step e hne _ ih=>
  intro d' r' h2
  cases h2 with
  | root e'=>rw [e] at e'; injection e' with e'; exact absurd (Int.ofNat.inj e') hne
  | step e' _ h3=>
   rw [e] at e'; injection e' with e'
   obtain rfl:=Int.ofNat.inj e'
   exact ih h3
structure Fo (N D:Nat) (p:List Int) (R:Nat→Nat):Prop where
 len:p.length=N
 rt: ∀h,h<N→∃d,d≤D∧Rt p d h (R h)
section
variable {N D : Nat} {p : List Int} {R : Nat → Nat}
theorem Fo.top (f:Fo N D p R) {h:Nat} (hh:h<N):p[R h]? =some (R h:Int)∧R h<N:=by
 obtain ⟨d,_,h1⟩:=f.rt h hh
 refine ⟨h1.at_,?_⟩
 rw [←f.len]
 exact (Xh.1 h1.at_).1
theorem set_at {p:List Int} {h j:Nat} {v:Int} (hj:j≠h):(p.set h v)[j]? =p[j]? :=Ym (Ne.symm hj)
theorem set_on {p:List Int} {h:Nat} {v:Int} (hh:h<p.length):(p.set h v)[h]? =some v:=Yh hh
theorem Fo.short (f:Fo N D p R) {h:Nat} (hh:h<N) (hne:R h≠h):Fo N D (p.set h (R h:Int)) R:=by
 refine ⟨by rw [Xs]; exact f.len,fun j hj=>?_⟩
 obtain ⟨d0,_,hr⟩:=f.rt h hh
 have key: ∀{d j s:Nat},Rt p d j s→∃d',d'≤d∧Rt (p.set h (R h:Int)) d' j s:=by
  intro d j s h1
  induction h1 with
  | @root j e=>
   by_cases hj:j=h
   · subst hj; exact absurd ((Rt.root e).uniq hr) hne
   · exact ⟨0,Xb _,.root (by rw [set_at hj]; exact e)⟩
  | @step d j k s e hk h2 ih=>
   obtain ⟨d',hd,h3⟩:=ih
   by_cases hj:j=h
   ·
    subst hj
    have es:=hr.uniq (Rt.step e hk h2)
    rw [es]
    exact ⟨1,by omega,.step (set_on (by rw [f.len]; exact hh)) hne (.root (by rw [set_at hne]; exact hr.at_))⟩
   · exact ⟨d'+1,by omega,.step (by rw [set_at hj]; exact e) hk h3⟩
 obtain ⟨d,hd,h1⟩:=f.rt j hj
 obtain ⟨d',hd',h2⟩:=key h1
 exact ⟨d',by omega,h2⟩
def U (R:Nat→Nat) (a b j:Nat):Nat:=if R j=R a then R b else R j
theorem Fo.join (f:Fo N D p R) {a b:Nat} (ha:a<N) (hb:b<N):Fo N (D+1) (p.set (R a) (R b:Int)) (U R a b):=by
 obtain ⟨a1,a2⟩:=f.top ha
 obtain ⟨b1,b2⟩:=f.top hb
 refine ⟨by rw [Xs]; exact f.len,fun j hj=>?_⟩
 obtain ⟨d,hd,h1⟩:=f.rt j hj
 by_cases hab:R a=R b
 ·
  have e1:p.set (R a) (R b:Int)=p:=by
   rw [←hab]
   apply Qw
   intro i
   by_cases hi:i=R a
   · subst hi; rw [set_on (by rw [f.len]; exact a2),a1]
   · rw [set_at hi]
  have e2:U R a b j=R j:=by unfold U; split<;>omega
  rw [e1,e2]
  exact ⟨d,by omega,h1⟩
 ·
  have key: ∀{d j s:Nat},Rt p d j s→∃d',d'≤d+1∧Rt (p.set (R a) (R b:Int)) d' j (if s=R a then R b else s):=by
   intro d j s h1
   induction h1 with
   | @root j e=>
    by_cases hj:j=R a
    ·
     rw [if_pos hj]
     subst hj
     exact ⟨1,by omega,.step (set_on (by rw [f.len]; exact a2)) (Ne.symm hab) (.root (by rw [set_at (Ne.symm hab)]; exact b1))⟩
    ·
     rw [if_neg hj]
     exact ⟨0,by omega,.root (by rw [set_at hj]; exact e)⟩
   | @step d j k s e hk h2 ih=>
    obtain ⟨d',hd,h3⟩:=ih
    have hj:j≠R a:=fun hj=>by
     subst hj
     rw [a1] at e; injection e with e
     exact hk (Int.ofNat.inj e).symm
    exact ⟨d'+1,by omega,.step (by rw [set_at hj]; exact e) hk h3⟩
  obtain ⟨d',hd',h2⟩:=key h1
  exact ⟨d',by omega,h2⟩
theorem find_run (n:Nat): ∀(d:Nat) {p:List Int} {h r:Nat},Rt p d h r→Fo N D p R→h<N→d<n→∃p',F.qbh n (h:Int) p=some ((r:Int),p')∧Fo N D p' R:=by
 induction n with
 | zero=>intro d p h r _ _ _ hn; exact absurd hn (Yr _)
 | succ n ih=>
  intro d p h r h1 f hh hn
  cases h1 with
  | root e=>
   have eg:Ev.get p (h:Int)=some (h:Int):=by rw [qas]; exact e
   refine ⟨p,?_,f⟩
   rw [F.qbh,eg,bB,dT rfl,Qi,kF,bB]
  | @step d _ k _ e hk h2=>
   have eg:Ev.get p (h:Int)=some (k:Int):=by rw [qas]; exact e
   have hkN:k<N:=by
    rw [←f.len]
    cases h2 with
    | root e'=>exact (Xh.1 e').1
    | step e' _ _=>exact (Xh.1 e').1
   obtain ⟨p1,q1,q2⟩:=ih d h2 f hkN (by omega)
   have hR:R h=r:=by
    obtain ⟨d',_,h3⟩:=f.rt h hh
    exact (Rt.step e hk h2).uniq h3
   have hne:R h≠h:=fun hx=>by
    have h4:=(Rt.step e hk h2).at_
    rw [←hR,hx,e] at h4
    injection h4 with h4
    exact hk (Int.ofNat.inj h4)
   have hl:h<p1.length:=by rw [q2.len]; exact hh
   refine ⟨p1.set h (r:Int),?_,by have:=q2.short hh hne; rwa [hR] at this⟩
   rw [F.qbh,eg,bB,dF (show¬((k:Int)=(h:Int)) by omega),Qz,kT,bB,q1,bB]
   dsimp only
   rw [get_at rfl (gE hl),bB,Qb,get_at rfl (set_on hl),bB]
theorem Fo.find (f:Fo N D p R) {h:Nat} (hh:h<N) (n:Nat) (hn:D<n): ∃p',F.qbh n (h:Int) p=some ((R h:Int),p')∧Fo N D p' R:=by
 obtain ⟨d,hd,h1⟩:=f.rt h hh
 exact find_run n d h1 f hh (by omega)
end
/-! The classes. -/
def uf (l:List (Nat×Nat)):Nat→Nat:=l.foldl (fun R ab=>U R ab.1 ab.2) fun k=>k
theorem uf_snoc (l:List (Nat×Nat)) (a b:Nat):uf (l++[(a,b)])=U (uf l) a b:=by unfold uf; rw [Y5]; rfl
theorem U_glue {R:Nat→Nat} {a b c d:Nat} (h:R c=R d):U R a b c=U R a b d:=by unfold U; rw [h]
theorem foldU_glue: ∀(l:List (Nat×Nat)) {R:Nat→Nat} {c d:Nat},R c=R d→(l.foldl (fun R ab=>U R ab.1 ab.2) R) c=(l.foldl (fun R ab=>U R ab.1 ab.2) R) d
 | [],_,_,_,h=>h
 | _::l,_,_,_,h=>foldU_glue l (U_glue h)
theorem foldU_mem: ∀(l:List (Nat×Nat)) (R:Nat→Nat) {a b:Nat},(a,b)∈l→(l.foldl (fun R ab=>U R ab.1 ab.2) R) a=(l.foldl (fun R ab=>U R ab.1 ab.2) R) b
 | (x,y)::l,R,a,b,h=>by
  rcases Qp.1 h with e | e
  ·
   injection e with e1 e2
   subst e1 e2
   refine foldU_glue l ?_
   unfold U
   dsimp only
   rw [if_pos rfl]; split<;>rfl
  · exact foldU_mem l _ e
theorem foldU_col {α:Type} (col:Nat→α): ∀(l:List (Nat×Nat)) (R:Nat→Nat),(∀j,col (R j)=col j)→(∀a b,(a,b)∈l→col a=col b)→∀j,col ((l.foldl (fun R ab=>U R ab.1 ab.2) R) j)=col j
 | [],_,h,_=>h
 | (x,y)::l,R,h,hl=>foldU_col col l _ (fun j=>by
   unfold U
   dsimp only
   split
   ·
    rename_i e
    rw [h,←hl x y Ql,←h x,←e,h]
   · exact h j) fun a b hm=>hl a b (Qf _ hm)
/-! The numbers. -/
def ky (R:Nat→Nat):Nat→List Nat
 | 0=>[]
 | k+1=>if R k∈ky R k then ky R k else ky R k++[R k]
def mmf:List Nat→Nat→List (Int×Int)
 | [],_=>[]
 | r::K,i=>((r:Int),(i:Int))::mmf K (i+1)
theorem mmf_len: ∀(K:List Nat) (i:Nat),(mmf K i).length=K.length
 | [],_=>rfl
 | _::K,i=>by simp [mmf,mmf_len K (i+1)]
theorem mmf_snoc: ∀(K:List Nat) (i r:Nat),mmf (K++[r]) i=mmf K i++[((r:Int),((i+K.length:Nat):Int))]
 | [],i,r=>rfl
 | _::K,i,r=>by
  simp only [Yz,mmf,mmf_snoc K (i+1) r,Xe]
  rw [show i+1+K.length=i+(K.length+1) by omega]
theorem mmf_get: ∀(K:List Nat) (i r:Nat),imget (mmf K i) (r:Int)=if r∈K then some (((i+K.idxOf r:Nat)):Int) else none
 | [],_,_=>rfl
 | s::K,i,r=>by
  unfold mmf imget
  dsimp only
  by_cases h:r=s
  ·
   subst h
   rw [if_pos rfl,if_pos Ql,List.idxOf_cons_self]; rfl
  ·
   rw [if_neg (show¬((r:Int)=(s:Int)) by omega),mmf_get K (i+1) r]
   by_cases hm:r∈K
   ·
    rw [if_pos hm,if_pos (Qf _ hm),show List.idxOf r (s::K)=List.idxOf r K+1 by rw [List.idxOf_cons,show (s == r)=false by simpa using fun e=>h e.symm]; rfl]
    congr 2; omega
   · rw [if_neg hm,if_neg (fun h'=>(Qp.1 h').elim h hm)]
theorem ky_succ (R:Nat→Nat) (k:Nat):ky R (k+1)=if R k∈ky R k then ky R k else ky R k++[R k]:=rfl
theorem ky_mem (R:Nat→Nat): ∀{k j:Nat},j<k→R j∈ky R k
 | k+1,j,h=>by
  unfold ky
  rcases Nat.lt_succ_iff_lt_or_eq.1 h with h1 | h1
  ·
   have:=ky_mem R h1
   split
   · exact this
   · exact Xu _ this
  ·
   subst h1
   split
   · assumption
   · exact Xq _ (by simp)
theorem ky_from (R:Nat→Nat): ∀{k r:Nat},r∈ky R k→∃j,j<k∧R j=r
 | k+1,r,h=>by
  unfold ky at h
  split at h
  · obtain ⟨j,h1,h2⟩:=ky_from R h; exact ⟨j,by omega,h2⟩
  ·
   rcases Qs.1 h with h1 | h1
   · obtain ⟨j,h1,h2⟩:=ky_from R h1; exact ⟨j,by omega,h2⟩
   · exact ⟨k,by omega,(Qq.1 h1).symm⟩
theorem ky_nodup (R:Nat→Nat): ∀k,(ky R k).Nodup
 | 0=>Yn
 | k+1=>by
  unfold ky
  split
  · exact ky_nodup R k
  ·
   rename_i h
   rw [X8]
   exact ⟨ky_nodup R k,by simp,fun a ha b hb e=>by rw [Qq] at hb; rw [e,hb] at ha; exact h ha⟩
theorem ky_idx (R:Nat→Nat) {r:Nat}: ∀{k k':Nat},k≤k'→r∈ky R k→r∈ky R k'∧(ky R k').idxOf r=(ky R k).idxOf r
 | k,k',h,hm=>by
  induction h with
  | refl=>exact ⟨hm,rfl⟩
  | @step q _ ih=>
   obtain ⟨i1,i2⟩:=ih
   rw [ky_succ]
   split
   · exact ⟨i1,i2⟩
   · exact ⟨Xu _ i1,by rw [List.idxOf_append,if_pos i1]; exact i2⟩
structure ArcS (N:Nat) (l:List (Nat×Nat)) (A:Nat→Nat) (cnt:Nat):Prop where
 lt: ∀j,j<N→A j<cnt
 sur: ∀i,i<cnt→∃j,j<N∧A j=i
 glue: ∀a b,(a,b)∈l→A a=A b
 fac: ∀{α:Type} (col:Nat→α),(∀a b,(a,b)∈l→col a=col b)→∀j j',j<N→j'<N→A j=A j'→col j=col j'
theorem arcS_of (N:Nat) (l:List (Nat×Nat)):ArcS N l (fun j=>(ky (uf l) N).idxOf (uf l j)) (ky (uf l) N).length:=
 ⟨fun j hj=>Xw.2 (ky_mem _ hj),fun i hi=>by
  obtain ⟨j,h1,h2⟩:=ky_from (uf l) (Qj hi)
  refine ⟨j,h1,?_⟩
  rw [h2]
  exact (ky_nodup _ N).idxOf_getElem i hi,fun a b h=>by
  have:=foldU_mem l (fun k=>k) h
  show List.idxOf (uf l a) _=List.idxOf (uf l b) _
  unfold uf; rw [this],fun col hc j j' hj hj' e=>by
  have e1:uf l j=uf l j':=by
   have h1:=Zk (Xw.2 (ky_mem (uf l) hj))
   have h2:=Zk (Xw.2 (ky_mem (uf l) hj'))
   rw [←h1,←h2]
   congr 1
  have k1:=foldU_col col l (fun k=>k) (fun _=>rfl) hc j
  have k2:=foldU_col col l (fun k=>k) (fun _=>rfl) hc j'
  rw [←k1,←k2]
  exact congrArg col e1⟩
end Ho
end Go.Proofs.YtpnppjlnfhlmpaaGreat

set_option linter.all false
namespace Go.Proofs.YtpnppjlnfhlmpaaGreat
open Ev
namespace Ho
open Gar
def mtP (N:Nat) (μ:Nat→Nat):List (Nat×Nat):=(List.range N).map fun k=>(k,μ k)
def ovP (C:Nat):List (Nat×Nat):=(List.range C).map fun c=>(4*c+1,4*c+3)
theorem mtP_take {N:Nat} {μ:Nat→Nat} {i:Nat} (hi:i<N):(mtP N μ).take (i+1)=(mtP N μ).take i++[(i,μ i)]:=by
 rw [Xc]; unfold mtP
 rw [Qm,Qy hi]; rfl
theorem ovP_take {C i:Nat} (hi:i<C):(ovP C).take (i+1)=(ovP C).take i++[(4*i+1,4*i+3)]:=by
 rw [Xc]; unfold ovP
 rw [Qm,Qy hi]; rfl
section
variable {N : Nat} {sg M : List Int} {μ : Nat → Nat}
theorem arc0 (hM:M.length=N) (hN:N≤1000) (m:Nat) (hm:10000≤m):loopN m (F.qdp m M) (0,List.replicate N (0:Int))=some ((N:Int),li N fun k=>k):=by
 have hx:=qba (body:=F.qdp m M) (fun k=>((k:Int),li N (fill (fun k=>k) k))) N (r:=((N:Int),li N fun k=>k)) (fun k hk=>?_) ?_ m (by omega)
 ·
  have e:((0:Nat):Int)=0:=rfl
  rw [←li_empty,e] at hx; exact hx
 ·
  have hs:(li N (fill (fun k=>k) k)).set k (k:Int)=li N (fill (fun k=>k) (k+1)):=li_fill (N:=N) (f:=fun k=>k) (k:=k)
  unfold F.qdp
  dsimp only
  rw [Qv,hM,Qb,dT (by omega),kT,qas,li_at hk,bB,qal (by omega) (by omega),bB,Qb,hs]
  rfl
 ·
  unfold F.qdp
  dsimp only
  rw [Qv,hM,Qb,dF (by omega),kF,li_full]
theorem fo_id (N:Nat):Fo N 0 (li N fun k=>k) fun k=>k:=⟨li_len,fun h hh=>⟨0,Xb _,.root (li_at hh)⟩⟩
theorem join_run {D:Nat} {p:List Int} {R:Nat→Nat} (f:Fo N D p R) {a b:Nat} (ha:a<N) (hb:b<N) (m:Nat) (hm:D<m) {α:Type} (K:List Int→Option α):
  ∃p',Fo N (D+1) p' (U R a b)∧((F.qbh m (a:Int) p).bind fun y74=>(F.qbh m (b:Int) y74.2).bind fun y79=>(Ev.get y79.2 y74.1).bind fun x84=>K (y79.2.set y74.1.toNat y79.1))=K p':=by
 obtain ⟨p1,q1,f1⟩:=f.find ha m hm
 obtain ⟨p2,q2,f2⟩:=f1.find hb m hm
 have f3:=f2.join ha hb
 refine ⟨_,f3,?_⟩
 rw [q1,bB]
 dsimp only
 rw [q2,bB]
 dsimp only
 rw [get_at rfl (f2.top ha).1,bB,Qb]
theorem arc1 (hM:M.length=N) (hμ: ∀k,k<N→M[k]? =some (μ k:Int)∧μ k<N) (hN:N≤1000) (m:Nat) (hm:10000≤m): ∃o,loopN m (F.qex m M) (0,li N fun k=>k)=some o∧Fo N N o.2 (uf (mtP N μ)):=by
 refine qbq (fun s=> ∃i:Nat,i≤N∧s.1=(i:Int)∧Fo N i s.2 (uf ((mtP N μ).take i))) (fun s=>N-s.1.toNat) _ ?_ m _ ⟨0,Xk _,rfl,fo_id N⟩ (by show N-(0:Int).toNat<m; omega)
 rintro ⟨s1,s2⟩ ⟨i,hi,e1,f⟩
 dsimp only at e1 f
 subst e1
 unfold F.qex
 dsimp only
 by_cases hlt:i<N
 ·
  left
  obtain ⟨g1,g2⟩:=hμ i hlt
  obtain ⟨p',f',e⟩:=join_run f hlt g2 m (by omega) (fun q=>(chk ((i:Int)+1)).bind fun z91=>some (Sum.inl (β:=Int×List Int) (z91,q)))
  refine ⟨((i:Int)+1,p'),?_,⟨i+1,hlt,rfl,?_⟩,?_⟩
  · rw [dT (by omega),kT,get_at rfl g1,bB,e,qal (by omega) (by omega),bB]
  · rw [mtP_take hlt,uf_snoc]; exact f'
  · show N-((i:Int)+1).toNat<N-(i:Int).toNat; omega
 ·
  right
  rw [dF (by omega),kF]
  refine ⟨_,rfl,?_⟩
  have e:i=N:=by omega
  subst e
  have e2:(mtP i μ).take i=mtP i μ:=Xo (by simp [mtP])
  rw [e2] at f; exact f
theorem arc2 {C:Nat} (hC:sg.length=C) (hN:4*C=N) (hN1:N≤1000) {p:List Int} {l:List (Nat×Nat)} (f0:Fo N N p (uf l)) (m:Nat) (hm:10000≤m): ∃o,loopN m (F.qev m sg) (0,p)=some o∧Fo N (N+C) o.2 (uf (l++ovP C)):=by
 refine qbq (fun s=> ∃i:Nat,i≤C∧s.1=(i:Int)∧Fo N (N+i) s.2 (uf (l++(ovP C).take i))) (fun s=>C-s.1.toNat) _ ?_ m _ ⟨0,Xk _,rfl,by rw [Zi,Yf]; exact f0⟩ (by show C-(0:Int).toNat<m; omega)
 rintro ⟨s1,s2⟩ ⟨i,hi,e1,f⟩
 dsimp only at e1 f
 subst e1
 unfold F.qev
 dsimp only
 by_cases hlt:i<C
 ·
  left
  obtain ⟨p1,q1,f1⟩:=f.find (h:=4*i+1) (by omega) m (by omega)
  obtain ⟨p2,q2,f2⟩:=f1.find (h:=4*i+3) (by omega) m (by omega)
  have f':=f2.join (a:=4*i+1) (b:=4*i+3) (by omega) (by omega)
  have a1:(4*(i:Int)+1)=((4*i+1:Nat):Int):=by omega
  have a2:(4*(i:Int)+3)=((4*i+3:Nat):Int):=by omega
  refine ⟨((i:Int)+1,p2.set (uf (l++(ovP C).take i) (4*i+1)) (uf (l++(ovP C).take i) (4*i+3):Int)),?_,⟨i+1,hlt,rfl,?_⟩,?_⟩
  rotate_left
  · rw [ovP_take hlt,←Ys,uf_snoc]; exact f'
  · show C-((i:Int)+1).toNat<C-(i:Int).toNat; omega
  ·
   rw [dT (by omega),kT,qal (z:=4*(i:Int)) (by omega) (by omega),bB,qal (by omega) (by omega),bB,a1,q1,bB]
   dsimp only
   rw [bB,qal (by omega) (by omega),bB,a2,q2,bB]
   dsimp only
   rw [get_at rfl (f2.top (h:=4*i+1) (by omega)).1,bB,qal (by omega) (by omega),bB,Qb]
 ·
  right
  rw [dF (by omega),kF]
  refine ⟨_,rfl,?_⟩
  have e:i=C:=by omega
  subst e
  have e2:(ovP i).take i=ovP i:=Xo (by simp [ovP])
  rw [e2] at f; exact f
theorem arc3 {D:Nat} {p:List Int} {R:Nat→Nat} (hM:M.length=N) (hN1:N≤1000) (f0:Fo N D p R) (m:Nat) (hm:10000≤m) (hD:D<m):
  ∃o,loopN m (F.qew m M) (0,p,([]:List (Int×Int)),List.replicate N (0:Int))=some o∧o.2.2.1.length=(ky R N).length∧o.2.2.2=li N fun j=>(ky R N).idxOf (R j):=by
 have hky: ∀k,k≤N→(ky R k).length≤k:=fun k _=>by
  induction k with
  | zero=>exact Xb _
  | succ k ih=>
   rw [ky_succ]
   split
   · have:=ih (by omega); omega
   · rw [Qr,Xa]; have:=ih (by omega); omega
 refine qbq (fun s=> ∃i:Nat,i≤N∧s.1=(i:Int)∧Fo N D s.2.1 R∧s.2.2.1=mmf (ky R i) 0∧s.2.2.2=li N fun j=>if j<i then (ky R N).idxOf (R j) else 0) (fun s=>N-s.1.toNat) _ ?_ m _ ⟨0,Xk _,rfl,f0,rfl,?_⟩ (by show N-(0:Int).toNat<m; omega)
 ·
  rintro ⟨s1,s2,s3,s4⟩ ⟨i,hi,e1,f,e3,e4⟩
  dsimp only at e1 f e3 e4
  subst e1 e3 e4
  unfold F.qew
  dsimp only
  rw [Qv,hM,Qb]
  by_cases hlt:i<N
  ·
   left
   obtain ⟨p',q1,f'⟩:=f.find hlt m hD
   have hk:=hky i hi
   have hset: ∀v:Nat,v=(ky R N).idxOf (R i)→(li N fun j=>if j<i then (ky R N).idxOf (R j) else 0).set i (v:Int)=li N fun j=>if j<i+1 then (ky R N).idxOf (R j) else 0:=fun v hv=>by
    rw [li_set]
    refine li_ext fun j hj=>?_
    by_cases e:j=i
    · subst e; rw [if_pos rfl,if_pos (by omega),hv]
    ·
     rw [if_neg e]
     by_cases e2:j<i
     · rw [if_pos e2,if_pos (by omega)]
     · rw [if_neg e2,if_neg (by omega)]
   rw [dT (by omega),kT,q1,bB]
   dsimp only
   rw [mmf_get,Y3]
   by_cases hm2:R i∈ky R i
   ·
    have hx:=ky_idx R (Nat.le_of_lt hlt) hm2
    have hb:=Xw.2 hm2
    have hks:ky R (i+1)=ky R i:=by rw [ky_succ,if_pos hm2]
    refine ⟨((i:Int)+1,p',mmf (ky R i) 0,(li N fun j=>if j<i then (ky R N).idxOf (R j) else 0).set i (((ky R i).idxOf (R i):Nat):Int)),?_,⟨i+1,hlt,rfl,f',by rw [hks],hset _ hx.2.symm⟩,?_⟩
    · rw [if_pos hm2,Xi,qal (by omega) (by omega),bB,Option.isSome_some,Qi,kF,bB,qas,li_at hlt,bB,qal (by omega) (by omega),bB,Qb]
    · show N-((i:Int)+1).toNat<N-(i:Int).toNat; omega
   ·
    have hks:ky R (i+1)=ky R i++[R i]:=by rw [ky_succ,if_neg hm2]
    have hmm:mmf (ky R i) 0++[((R i:Int),((mmf (ky R i) 0).length:Int))]=mmf (ky R (i+1)) 0:=by
     rw [hks,mmf_snoc,mmf_len,Y3]
    have hin:R i∈ky R (i+1):=ky_mem R (Qa i)
    have hx:=ky_idx R (show i+1≤N by omega) hin
    have hb:=Xw.2 hin
    have hk1:=hky (i+1) (by omega)
    refine ⟨((i:Int)+1,p',mmf (ky R i) 0++[((R i:Int),((mmf (ky R i) 0).length:Int))],(li N fun j=>if j<i then (ky R N).idxOf (R j) else 0).set i (((ky R (i+1)).idxOf (R i):Nat):Int)),?_,⟨i+1,hlt,rfl,f',hmm,hset _ hx.2.symm⟩,?_⟩
    · rw [if_neg hm2,Option.getD_none,qal (by omega) (by omega),bB,Option.isSome_none,Qz,kT,qal (by rw [mmf_len]; omega) (by rw [mmf_len]; omega),bB,show nok (none:Option Int)=some () from rfl,bB,hmm,mmf_get,if_pos hin,Y3,Xi,qal (by omega) (by omega),bB,qas,li_at hlt,bB,qal (by omega) (by omega),bB,Qb]
    · show N-((i:Int)+1).toNat<N-(i:Int).toNat; omega
  ·
   right
   rw [dF (by omega),kF]
   have e:i=N:=by omega
   subst e
   exact ⟨_,rfl,by dsimp only; rw [mmf_len],li_ext fun j hj=>if_pos hj⟩
 ·
  dsimp only
  rw [li_rep]
  exact li_ext fun j _=>by rw [if_neg (by omega)]
theorem arcs_run {lo:Int} (hM:M.length=N) (hμ: ∀k,k<N→M[k]? =some (μ k:Int)∧μ k<N) (hC:4*sg.length=N) (hN:N≤1000) (m:Nat) (hm:10000≤m):
  ∃(A:Nat→Nat) (cnt:Nat),cnt≤N∧F.qdj m sg M lo=some (li N A,(cnt:Int))∧ArcS N (mtP N μ++ovP sg.length) A cnt:=by
 obtain ⟨⟨a1,b1⟩,q1,f1⟩:=arc1 hM hμ hN m hm
 obtain ⟨⟨a2,b2⟩,q2,f2⟩:=arc2 rfl hC hN f1 m hm
 obtain ⟨⟨a3,b3,c3,d3⟩,q3,e1,e2⟩:=arc3 hM hN f2 m hm (by omega)
 dsimp only at e1 e2
 have hcnt:(ky (uf (mtP N μ++ovP sg.length)) N).length≤N:=by
  generalize uf (mtP N μ++ovP sg.length)=R
  have: ∀k,(ky R k).length≤k:=fun k=>by
   induction k with
   | zero=>exact Xb _
   | succ k ih=>
    rw [ky_succ]
    split
    · omega
    · rw [Qr,Xa]; omega
  exact this N
 refine ⟨_,_,hcnt,?_,arcS_of N (mtP N μ++ovP sg.length)⟩
 unfold F.qdj
 rw [hM,qdw (by omega) (by omega),bB,Qb,arc0 hM hN m hm,bB]
 dsimp only
 rw [q1,bB]
 dsimp only
 rw [q2,bB]
 dsimp only
 rw [bB,q3,bB]
 dsimp only
 rw [qal (by omega) (by omega),bB,e1,e2]
end
end Ho
end Go.Proofs.YtpnppjlnfhlmpaaGreat

set_option linter.all false
namespace Go.Proofs.YtpnppjlnfhlmpaaGreat
open Ev
namespace Gar
def Sm (w:List Int):Prop:= ∀y∈w,-1000≤y∧y≤1000
/-! The substitution of one letter. -/
/-! The action. -/
theorem drop_step {w:List Int} {k:Nat} (hk:k<w.length):w.drop k=w[k]::w.drop (k+1):=(List.getElem_cons_drop hk).symm
/-! Valid words. -/
def wV (w:List Int) (r:Int):Bool:=w.all fun x=>decide (1≤r)&&(decide (x≠0)&&(decide (x≤r)&&decide (-r≤x)))
theorem wV_iff {w:List Int} {r:Int}:wV w r=true↔∀x∈w,1≤r∧x≠0∧x≤r∧-r≤x:=by
 simp only [wV,Y0,Yo,decide_eq_true_eq]
theorem wV_drop {w:List Int} {r:Int} {k:Nat} {x:Int} (h:w[k]? =some x):wV (w.drop k) r=(decide (1≤r)&&(decide (x≠0)&&(decide (x≤r)&&decide (-r≤x)))&&wV (w.drop (k+1)) r):=by
 obtain ⟨hk,rfl⟩:=Xh.1 h
 unfold wV
 rw [drop_step hk,List.all_cons]
theorem allLoop {body:Int→Option (Int⊕(Int⊕Bool))} {w:List Int} {q:List Int→Bool} (h0:q []=true) (n:Nat) (hn:w.length<n)
  (step: ∀(k:Nat) (x:Int),w[k]? =some x→(q (w.drop k)=q (w.drop (k+1))∧body (k:Int)=some (.inl ((k+1:Nat):Int)))∨(q (w.drop k)=false∧body (k:Int)=some (.inr (.inr false))))
  (last:body (w.length:Int)=some (.inr (.inl (w.length:Int)))):
  ((loopN n body 0).bind fun o=>match o with | .inl _=>some true | .inr b=>some b)=some (q w):=by
 obtain ⟨r,hr,hq⟩:=qbq (body:=body) (fun v=> ∃k:Nat,v=(k:Int)∧k≤w.length∧q w=q (w.drop k)) (fun v=>w.length-v.toNat)
  (fun r=>match r with | .inl _=>q w=true | .inr b=>b=q w) (fun v ⟨k,hv,hk,hI⟩=>by
   subst hv
   by_cases hlt:k<w.length
   ·
    rcases step k _ (gE hlt) with ⟨h1,h2⟩ | ⟨h1,h2⟩
    · exact .inl ⟨_,h2,⟨k+1,rfl,by omega,by rw [hI,h1]⟩,by omega⟩
    · exact .inr ⟨_,h2,by show false=_; rw [hI,h1]⟩
   ·
    obtain rfl:k=w.length:=by omega
    exact .inr ⟨_,last,by show q w=true; rw [hI,List.drop_length,h0]⟩) n 0 ⟨0,rfl,Xk _,by rw [List.drop_zero]⟩ (by simpa using hn)
 rw [hr,bB]
 cases r with
 | inl v=>simp only at hq⊢; rw [hq]
 | inr b=>simp only at hq⊢; rw [hq]
theorem wordValid {w:List Int} {r:Int} (hr: -1000000≤r∧r≤1000000) (hl:w.length≤100000000) (n:Nat) (hn:w.length<n):F.word_Valid n w r=some (wV w r):=by
 unfold F.word_Valid
 refine allLoop (q:=fun v=>wV v r) (by rfl) n hn (fun k x hx=>?_) ?_
 ·
  have hk:=(Xh.1 hx).1
  rw [wV_drop hx]
  unfold F.qht
  dsimp only
  rw [dT (show (k:Int)<(w.length:Int) by omega),kT,get_at rfl hx,bB]
  by_cases c0:r<1
  · right; rw [dT c0,kT,dF (show¬1≤r by omega)]; exact ⟨rfl,rfl⟩
  rw [dF c0,kF,dT (show 1≤r by omega)]
  by_cases c1:x=0
  · right; rw [dT c1,kT,dF (show¬x≠0 from fun h=>h c1)]; exact ⟨rfl,rfl⟩
  rw [dF c1,kF,dT (show x≠0 from c1)]
  by_cases c2:r<x
  · right; rw [dT c2,kT,dF (show¬x≤r by omega)]; exact ⟨rfl,rfl⟩
  rw [dF c2,kF,dT (show x≤r by omega),qal (by omega) (by omega),bB]
  by_cases c3:x< -r
  · right; rw [dT c3,kT,dF (show¬-r≤x by omega)]; exact ⟨rfl,rfl⟩
  left
  rw [dF c3,kF,dT (show -r≤x by omega),qal (by omega) (by omega)]
  exact ⟨by simp,rfl⟩
 ·
  unfold F.qht
  dsimp only
  rw [dF (by omega)]; rfl
/-! A reduced word as a stack. -/
theorem Irdc.pre {u v:List Int} (h:Irdc (u++v)):Irdc u:=by
 induction u with
 | nil=>trivial
 | cons a u ih=>
  cases u with
  | nil=>trivial
  | cons b t=>exact ⟨h.1,ih h.2⟩
theorem Irdc.snoc {u:List Int} {a x:Int} (h:Irdc (u++[a])) (hx:a≠-x):Irdc (u++[a]++[x]):=by
 induction u with
 | nil=>exact ⟨hx,trivial⟩
 | cons b u ih=>
  cases u with
  | nil=>exact ⟨h.1,hx,trivial⟩
  | cons c t=>exact ⟨h.1,ih h.2⟩
theorem push1 {st:List Int} (h:Irdc st) (x:Int):(st=[]∧ird (st++[x])=[x])∨∃u a,st=u++[a]∧((a=-x∧ird (st++[x])=u)∨(a≠-x∧ird (st++[x])=st++[x])):=by
 rcases List.eq_nil_or_concat st with rfl | ⟨u,a,rfl⟩
 · exact .inl ⟨rfl,rfl⟩
 ·
  right
  rw [List.concat_eq_append] at h⊢
  refine ⟨u,a,rfl,?_⟩
  by_cases e:a=-x
  ·
   left
   refine ⟨e,?_⟩
   have:=ird_cancel u [] a x e
   rw [Ys]
   rw [Yf] at this
   rw [show [a]++[x]=a::x::[] from rfl,this,ird_of h.pre]
  · exact .inr ⟨e,ird_of (h.snoc e)⟩
theorem wordPush {st w:List Int} (hst:Irdc st) (hs:Sm w) (hl:st.length+w.length≤100000000) (n:Nat) (hn:w.length<n):F.word_push n st w=some (ird (st++w)):=by
 unfold F.word_push
 have:=qba (body:=F.qfz n w) (fun k=>(ird (st++w.take k),(k:Int))) w.length (r:=(ird (st++w),(w.length:Int))) (fun k hk=>by
  have hx:w[k]? =some (w[k]'hk):=gE _
  have hb:=hs _ (Qj hk)
  generalize w[k]'hk=x at hx hb
  have hS:=ird_rdc (st++w.take k)
  have hlen:=ird_le (st++w.take k)
  rw [Qr,Xx] at hlen
  have hnext:ird (st++w.take (k+1))=ird (ird (st++w.take k)++[x]):=by
   rw [ird_rdapp,Xc,hx,←Ys]; rfl
  rw [hnext]
  generalize ird (st++w.take k)=S at hS hlen
  unfold F.qfz
  dsimp only
  rw [dT (by omega),kT,get_at rfl hx,bB,qal (by omega) (by omega),bB]
  rcases push1 hS x with ⟨rfl,e⟩ | ⟨u,a,rfl,h⟩
  ·
   rw [dF (by simp),kF,lim_ok (by simp),bB,qal (by omega) (by omega),e]
   rfl
  ·
   rw [Qr,Xa] at hlen
   rw [Qr,Xa,dT (by omega),kT,get_at (k:=u.length) (x:=a) (by omega) (by simp),bB,qal (by omega) (by omega),bB]
   rcases h with ⟨e,e2⟩ | ⟨e,e2⟩
   ·
    rw [dT e,kT,cut_ok (by omega) (by omega) (by omega),bB,qal (by omega) (by omega),e2]
    have:(((u.length+1:Nat):Int)-1).toNat=u.length:=by omega
    rw [this,List.take_left]
    rfl
   ·
    rw [dF e,kF,lim_ok (by simp; omega),bB,qal (by omega) (by omega),e2]
    rfl) (by
  unfold F.qfz
  dsimp only
  rw [dF (by omega),kF,Xl]) n hn
 have e:loopN n (F.qfz n w) (st,0)=some (ird (st++w),(w.length:Int)):=by
  have e0:(ird (st++w.take 0),((0:Nat):Int))=(st,0):=by rw [Zi,Yf,ird_of hst]; rfl
  rw [←e0]; exact this
 rw [e]; rfl
theorem wordReduce {w:List Int} (hs:Sm w) (hl:w.length≤1000000) (n:Nat) (hn:w.length<n):F.qhv n w=some (ird w):=by
 unfold F.qhv
 rw [qdw (by omega) (by omega),bB,wordPush (st:=[]) trivial hs (by simp; omega) n hn]
 rfl
/-! The images for a letter. -/
/-! The substitution of one letter,with a stack. -/
/-! The action of a word of letters. -/
def fact:List Int→List Int→List Int
 | [],u=>u
 | x::w,u=>fact w (ird (isub x u))
/-! Crossings of a path. -/
section
variable {N : Nat}
end
/-! From the crossings to the letters. -/
def arc (a b:Nat):List Int:=if a≤b then (List.range (b-a)).map (fun t=>((a+1+t:Nat):Int)) else (List.range (a-b)).map (fun t=>-((a-t:Nat):Int))
def arcs:List Nat→List Int
 | a::b::t=>arc a b++arcs t
 | _=>[]
/-! The action,from the first letter on. -/
