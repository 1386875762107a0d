import Derived.Test.YtpnppjlnfhlmpaaGreatPWcnt
import Derived.Test.YtpnppjlnfhlmpaaGreatPWhom
set_option linter.all false
namespace Go.Proofs.YtpnppjlnfhlmpaaGreat
open Ev
namespace Wm
open Gar Pg
def tri0:Tri:=(0,0,0)
section
variable {q : Nat} {tb : Nat → Nat → Nat} {T Z : List (List Int)} (Q : Qt q tb T Z)
include Q
theorem count_run {RR:List Tri} {K:Nat} (hK:K≤300) (harc: ∀r∈RR,∀a,has r a→a<K) {cs:List Nat} (hcs: ∀c∈cs,c<RR.length) (hl:cs.length≤100) (m:Nat) (hm:10000≤m):
  ∃El:List Nat,El.Nodup∧(∀a,a∈El↔arcsOf (cs.map fun c=>RR.getD c tri0) a)∧F.qes m (rz RR) (K:Int) T Z (iz cs)=some (sat (S q El (ind tb (cs.map fun c=>RR.getD c tri0)) fun _=>0):Int):=by
 have hR0: ∀r∈cs.map (fun c=>RR.getD c tri0),r∈RR:=fun r hr=>by
  obtain ⟨c,hc,rfl⟩:=Qo.1 hr
  rw [Qc,gE (hcs c hc)]
  exact Qj _
 have hb0:=qba (body:=F.qch m (rz RR) (iz cs)) (fun i:Nat=>((i:Int),rz ((cs.take i).map fun c=>RR.getD c tri0))) cs.length (fun i hi=>by
  have hci:=hcs _ (Qj hi)
  unfold F.qch
  dsimp only
  rw [qeo,dT (by omega),kT,qas,iz_at hi,bB,qas,rz_at hci,bB,lim_ok (by rw [rz_len]; simp; omega),bB,qal (by omega) (by omega),bB]
  rw [show ((i:Int)+1)=((i+1:Nat):Int) by omega,Xc,gE hi,Xn]
  congr 3
  unfold rz
  rw [Xn]
  congr 1
  show _=[ri (RR.getD cs[i] tri0)]
  rw [Qc,gE hci]
  rfl) (r:=((cs.length:Int),rz ((cs.take cs.length).map fun c=>RR.getD c tri0))) (by
  unfold F.qch
  dsimp only
  rw [qeo,dF (by omega),kF]) m (by omega)
 rw [Xl] at hb0
 generalize hR:cs.map (fun c=>RR.getD c tri0)=R0 at*
 have hRl:R0.length≤100:=by rw [←hR,Qu]; exact hl
 obtain ⟨o,o1,o2⟩:=qbq (body:=F.qct m (rz RR) (K:Int) T Z)
  (fun s=> ∃(B:List Nat) (R D:List Tri) (El:List Nat),s.1=iz B∧s.2.1=rz R∧(D++R).Perm R0∧Inv q tb D R B El s.2.2) (fun s=>s.2.1.length)
  (fun s=> ∃El:List Nat,El.Nodup∧(∀a,a∈El↔arcsOf R0 a)∧Ok s.2.2∧vl s.2.2 []=sat (S q El (ind tb R0) fun _=>0)) (by
  rintro ⟨s1,s2,s3⟩ ⟨B,R,D,El,e1,e2,p,I⟩
  dsimp only at e1 e2 I
  subst e1 e2
  have hlen:D.length+R.length=R0.length:=by rw [←Qr]; exact p.length_eq
  have hin: ∀r,r∈R→r∈RR:=fun r hr=>hR0 r (p.mem_iff.1 (Xq _ hr))
  unfold F.qct
  dsimp only
  rw [rz_len]
  by_cases h0:0<R.length
  ·
   left
   have hBK: ∀a∈B,a<K:=fun a ha=>by
    obtain ⟨r,hr,hh⟩:=I.br a ha
    exact harc r (hin r hr) a hh
   have hBl:B.length≤K:=nodup_lt I.bn hBK
   obtain ⟨i,hi,B',c1,c2,c3,c4⟩:=choose_run (R:=R) (by omega) h0 (show B.length≤900 by omega) m (by omega)
   have hri:=hin _ (Qj hi)
   have hp:R.Perm (R[i]::R.eraseIdx i):=(perm_at (gE hi) tri0).1
   obtain ⟨res,x1,x2,x3,x4⟩:=extend_run Q (K:=K) (fr:=R[i].1) (ov:=R[i].2.1) (to:=R[i].2.2) (by omega) (harc _ hri _ (.inl rfl)) (harc _ hri _ (.inr (.inl rfl))) (harc _ hri _ (.inr (.inr rfl))) (rz RR) I.bn hBK (by omega) (after:=B') (by omega) (fun a ha=>by
    rcases ((c4 a).1 ha).1 with z | z
    · exact ⟨hBK a z,.inl z⟩
    ·
     refine ⟨harc _ hri a z,.inr ?_⟩
     unfold has at z
     simp only [Qp,Qh,or_false]
     omega) I.ok I.ks m (by omega)
   rw [dT (by omega),kT,c1,bB]
   dsimp only
   rw [x1,bB]
   obtain ⟨El',I'⟩:=I.step Q hp c2 c4 x2 x3 x4
   refine ⟨_,rfl,⟨B',R.eraseIdx i,R[i]::D,El',rfl,rfl,?_,I'⟩,?_⟩
   ·
    refine List.Perm.trans ?_ p
    rw [Yz]
    exact (List.perm_middle.symm).trans (hp.symm.append_left D)
   ·
    dsimp only
    rw [rz_len]
    have:=hp.length_eq
    rw [Xe] at this
    omega
  ·
   right
   have hR9:R=[]:=Zf (by omega)
   subst hR9
   have hB9:B=[]:=Zc.2 fun a ha=>by
    obtain ⟨r,hr,_⟩:=I.br a ha
    cases hr
   subst hB9
   rw [Yf] at p
   have hD: ∀r,r∈D↔r∈R0:=fun r=>p.mem_iff
   rw [dF (by omega),kF]
   refine ⟨_,rfl,El,I.en,fun a=>⟨fun ha=>?_,fun ⟨r,hr,hh⟩=>?_⟩,I.ok,?_⟩
   ·
    obtain ⟨r,hr,hh⟩:=I.ed a ha
    exact ⟨r,(hD r).1 hr,hh⟩
   · exact (I.ad a ⟨r,(hD r).2 hr,hh⟩).resolve_right (by simp)
   ·
    have:=I.vs (fun _=>0) (fun b hb=>by cases hb)
    rw [←ind_iff hD]
    exact this) m (([]:List Int),rz R0,[([],1)]) ⟨[],R0,[],[],rfl,rfl,.refl _,Inv.start q tb R0⟩ (by dsimp only; rw [rz_len]; omega)
 obtain ⟨s1,s2,s3⟩:=o
 obtain ⟨El,p1,p2,p3,p4⟩:=o2
 dsimp only at p3 p4
 refine ⟨El,p1,p2,?_⟩
 have hb0':loopN m (F.qch m (rz RR) (iz cs)) (0,([]:List (Int×(Int×Int))))=some ((cs.length:Int),rz R0):=hb0
 have o1':loopN m (F.qct m (rz RR) (K:Int) T Z) (([]:List Int),rz R0,(gput ([]:List ((List UInt8)×Int)) (([]:List Int).map b8) 1))=some (s1,s2,s3):=o1
 unfold F.qes
 rw [qeo,qdw (by omega) (by omega),bB,hb0',bB]
 dsimp only
 rw [o1',bB]
 dsimp only
 rw [bB,show ([]:List Int).map b8=[] from rfl,(p3.get []).1,p4]
end
end Wm
end Go.Proofs.YtpnppjlnfhlmpaaGreat

set_option linter.all false
namespace Go.Proofs.YtpnppjlnfhlmpaaGreat
open Ev
namespace Wm
open Gar Pg Ho
def rel (A:Nat→Nat) (sg:List Int) (c:Nat):Tri:=if sg.getD c 0<0 then (A (4*c+2),A (4*c+1),A (4*c)) else (A (4*c),A (4*c+1),A (4*c+2))
def rels (A:Nat→Nat) (sg:List Int):List Tri:=(List.range sg.length).map (rel A sg)
def zl (q:Nat) (f:Nat→Nat→Nat):List (List Int):=(List.range q).map fun x=>li q (f x)
theorem zl_len (q:Nat) (f:Nat→Nat→Nat):(zl q f).length=q:=by simp [zl]
theorem zl_at {q:Nat} {f:Nat→Nat→Nat} {x:Nat} (h:x<q):(zl q f)[x]? =some (li q (f x)):=by simp [zl,h]
theorem zl_set {q:Nat} {f:Nat→Nat→Nat} {x y v:Nat} (hx:x<q):(zl q f).set x ((li q (f x)).set y (v:Int))=zl q fun a b=>if a=x∧b=y then v else f a b:=by
 rw [li_set]
 apply Qw
 intro j
 rw [Yg]
 by_cases e:x=j
 ·
  subst e
  rw [if_pos rfl,if_pos (by rw [zl_len]; exact hx),zl_at hx]
  congr 1
  refine li_ext fun b _=>?_
  by_cases e2:b=y
  · rw [if_pos e2,if_pos ⟨rfl,e2⟩]
  · rw [if_neg e2,if_neg fun z=>e2 z.2]
 ·
  rw [if_neg e]
  rcases Xf j q with h | h
  ·
   rw [zl_at h,zl_at h]
   congr 1
   exact li_ext fun b _=>by rw [if_neg fun z=>e z.1.symm]
  · rw [Qk (by rw [zl_len]; exact h),Qk (by rw [zl_len]; exact h)]
structure Qd (q:Nat) (tb:Nat→Nat→Nat) (T:List (List Int)):Prop where
 q1:1≤q
 q2:q≤30
 lt: ∀i j,i<q→j<q→tb i j<q
 inj: ∀i i' j,i<q→i'<q→j<q→tb i j=tb i' j→i=i'
 idem: ∀i,i<q→tb i i=i
 tl:T.length=q
 t: ∀i,i<q→T[i]? =some (li q (tb i))
theorem quot_run {q:Nat} {tb:Nat→Nat→Nat} {T:List (List Int)} (Q:Qd q tb T) (m:Nat) (hm:1000≤m):
  ∃f:Nat→Nat→Nat,(∀z,z<q→∀y,y<q→f (tb z y) y=z)∧∀{α:Type} (k:List (List Int)→Option α),
   ((loopN m (F.qec m T) (0,(List.replicate (T.length:Int).toNat ([]:List Int)))).bind fun o157=>match o157 with
  | (v85_1,qf153_1)=>((loopN m (F.qfe m T) (0,qf153_1)).bind fun o206=>match o206 with
  | (v100_2,qf153_2)=>k qf153_2))=k (zl q f):=by
 have hq1:=Q.q1; have hq2:=Q.q2
 have hb1:=qba (body:=F.qec m T) (fun i:Nat=>((i:Int),(List.range q).map fun x=>if x<i then li q (fun _=>0) else ([]:List Int))) q (fun i hi=>by
  have hg:((List.range q).map fun x=>if x<i then li q (fun _=>0) else ([]:List Int))[i]? =some []:=by
   rw [Qm,Qy hi,X9,if_neg (by omega)]
  unfold F.qec
  dsimp only
  rw [Q.tl,dT (by omega),kT,qas,hg,bB,qdw (by omega) (by omega),bB,bB,qal (by omega) (by omega),bB,Qb,Qb,li_rep]
  rw [show ((i:Int)+1)=((i+1:Nat):Int) by omega]
  congr 3
  apply Qw
  intro j
  rw [Yg]
  by_cases e:i=j
  ·
   subst e
   rw [if_pos rfl,if_pos (by simpa using hi),Qm,Qy hi,X9,if_pos (by omega)]
  ·
   rw [if_neg e,Qm,Qm]
   rcases Xf j q with h | h
   ·
    rw [Qy h,X9,X9]
    by_cases e2:j<i
    · rw [if_pos e2,if_pos (by omega)]
    · rw [if_neg e2,if_neg (by omega)]
   · rw [Qk (by rw [Qn]; exact h)]; rfl) (r:=((q:Int),(List.range q).map fun x=>if x<q then li q (fun _=>0) else ([]:List Int))) (by
  unfold F.qec
  dsimp only
  rw [Q.tl,dF (by omega),kF]) m (by omega)
 have e0:((0:Int),List.replicate (T.length:Int).toNat ([]:List Int))=(fun i:Nat=>((i:Int),(List.range q).map fun x=>if x<i then li q (fun _=>0) else ([]:List Int))) 0:=by
  rw [Q.tl,Qb]
  dsimp only
  congr 1
  apply Qw
  intro j
  rw [Xz,Qm]
  rcases Xf j q with h | h
  · rw [if_pos h,Qy h,X9,if_neg (by omega)]
  · rw [if_neg (by omega),Qk (by rw [Qn]; exact h)]; rfl
 have e1:((List.range q).map fun x=>if x<q then li q (fun _=>0) else ([]:List Int))=zl q fun _ _=>0:=
  Xd fun x hx=>if_pos (Qg.1 hx)
 rw [e1] at hb1
 obtain ⟨o,o1,f,o2,o3⟩:=qbq (body:=F.qfe m T) (fun s=> ∃(z:Nat) (f:Nat→Nat→Nat),z≤q∧s.1=(z:Int)∧s.2=zl q f∧∀z',z'<z→∀y,y<q→f (tb z' y) y=z') (fun s=>q-s.1.toNat)
  (fun s=> ∃f:Nat→Nat→Nat,s.2=zl q f∧∀z',z'<q→∀y,y<q→f (tb z' y) y=z') (by
  rintro ⟨s1,s2⟩ ⟨z,f,hz,e1,e2,hf⟩
  dsimp only at e1 e2
  subst e1 e2
  unfold F.qfe
  dsimp only
  rw [Q.tl]
  by_cases hlt:z<q
  ·
   left
   obtain ⟨p,p1,g,p2,p3⟩:=qbq (body:=F.qhc m (z:Int) (li q (tb z))) (fun s=> ∃(y:Nat) (g:Nat→Nat→Nat),y≤q∧s.1=(y:Int)∧s.2=zl q g∧(∀z',z'<z→∀y,y<q→g (tb z' y) y=z')∧∀y',y'<y→g (tb z y') y'=z) (fun s=>q-s.1.toNat)
    (fun s=> ∃g:Nat→Nat→Nat,s.2=zl q g∧∀z',z'<z+1→∀y,y<q→g (tb z' y) y=z') (by
    rintro ⟨t1,t2⟩ ⟨y,g,hy,e1,e2,hg1,hg2⟩
    dsimp only at e1 e2
    subst e1 e2
    unfold F.qhc
    dsimp only
    rw [li_len]
    by_cases hyl:y<q
    ·
     left
     have ht:=Q.lt z y hlt hyl
     rw [dT (by omega),kT,qas,li_at hyl,bB,qas,zl_at ht,bB,qas,li_at hyl,bB,qal (by omega) (by omega),bB,Qb,Qb,zl_set ht]
     refine ⟨_,rfl,⟨y+1,_,hyl,by dsimp only; omega,rfl,fun z' hz' y' hy'=>?_,fun y' hy'=>?_⟩,by dsimp only; omega⟩
     ·
      rw [if_neg fun w=>?_,hg1 z' hz' y' hy']
      have:=w.2
      subst this
      have:=Q.inj z' z y' (by omega) hlt hyl w.1
      omega
     ·
      by_cases e:y'=y
      · subst e; rw [if_pos ⟨rfl,rfl⟩]
      · rw [if_neg fun w=>e w.2,hg2 y' (by omega)]
    ·
     right
     have:y=q:=by omega
     subst this
     rw [dF (by omega),kF]
     refine ⟨_,rfl,g,rfl,fun z' hz' y' hy'=>?_⟩
     by_cases e:z'=z
     · subst e; exact hg2 y' hy'
     · exact hg1 z' (by omega) y' hy') m (0,zl q f) ⟨0,f,Xk _,rfl,rfl,hf,fun _ h=>absurd h (Yr _)⟩ (by show q-(0:Int).toNat<m; omega)
   obtain ⟨p4,p5⟩:=p
   dsimp only at p2
   subst p2
   rw [dT (by omega),kT,qas,Q.t z hlt,bB,p1,bB]
   dsimp only
   rw [qal (by omega) (by omega),bB]
   exact ⟨_,rfl,⟨z+1,g,hlt,by dsimp only; omega,rfl,p3⟩,by dsimp only; omega⟩
  ·
   right
   have:z=q:=by omega
   subst this
   rw [dF (by omega),kF]
   exact ⟨_,rfl,f,rfl,hf⟩) m (0,zl q fun _ _=>0) ⟨0,_,Xk _,rfl,rfl,fun _ h=>absurd h (Yr _)⟩ (by show q-(0:Int).toNat<m; omega)
 obtain ⟨s1,s2⟩:=o
 dsimp only at o2
 subst o2
 refine ⟨f,o3,fun {α} k=>?_⟩
 rw [e0,hb1,bB]
 dsimp only
 rw [o1,bB]
theorem Qd.qt {q:Nat} {tb:Nat→Nat→Nat} {T:List (List Int)} (Q:Qd q tb T) {f:Nat→Nat→Nat} (h: ∀z,z<q→∀y,y<q→f (tb z y) y=z):Qt q tb T (zl q f):=
 ⟨Q.q1,Q.q2,Q.lt,Q.inj,Q.idem,Q.tl,Q.t,zl_len q f,fun i j hi hj=>⟨_,zl_at (Q.lt i j hi hj),li_len,by rw [li_at hj,h i hi j hj]⟩⟩
theorem pose_run {q:Nat} {tb:Nat→Nat→Nat} {T:List (List Int)} (Q:Qd q tb T) {sg M:List Int} {μ:Nat→Nat} {L:Nat} (D:DV sg M (L:Int) μ) {A:Nat→Nat} {cnt:Nat} (m:Nat) (hm:10000≤m)
  (hA:F.qdj m sg M (L:Int)=some (li (4*sg.length) A,(cnt:Int))) (hc:cnt≤1000) (hv:F.qfr m T=some true):
  ∃Z,Qt q tb T Z∧F.qcolor_pose m sg M (L:Int) T=some (rz (rels A sg),((cnt+L:Nat):Int),T,Z,true):=by
 have hn:=D.n
 have hL:=D.lo1
 obtain ⟨f,hf,hk⟩:=quot_run Q m (by omega)
 refine ⟨zl q f,Q.qt hf,?_⟩
 have hb0:=qba (body:=F.qfa m sg (li (4*sg.length) A,((cnt+L:Nat):Int),0)) (fun i:Nat=>((i:Int),rz ((List.range i).map (rel A sg)))) sg.length (fun i hi=>by
  have eg:sg[i]? =some (sg.getD i 0):=by rw [Qc,gE hi]; rfl
  unfold F.qfa
  dsimp only
  rw [dT (by omega),kT,qas,eg,bB,qal (by omega) (by omega),bB,get_at (k:=4*i) (by omega) (li_at (by omega)),bB,qal (by omega) (by omega),bB,get_at (k:=4*i+1) (by omega) (li_at (by omega)),bB,qal (by omega) (by omega),bB,get_at (k:=4*i+2) (by omega) (li_at (by omega)),bB]
  have hs:rz ((List.range (i+1)).map (rel A sg))=rz ((List.range i).map (rel A sg))++[ri (rel A sg i)]:=by
   unfold rz
   rw [Xt,Xn,Xn]; rfl
  rw [hs]
  have hlim:lim ((rz ((List.range i).map (rel A sg))).length+1)=some ():=lim_ok (by rw [rz_len,Qu,Qn]; omega)
  by_cases c:sg.getD i 0<0
  ·
   rw [dT c,kT,Xa,hlim,bB,qal (by omega) (by omega),bB]
   have:rel A sg i=(A (4*i+2),A (4*i+1),A (4*i)):=if_pos c
   rw [this,show ((i:Int)+1)=((i+1:Nat):Int) by omega]
   rfl
  ·
   rw [dF c,kF,Xa,hlim,bB,qal (by omega) (by omega),bB]
   have:rel A sg i=(A (4*i),A (4*i+1),A (4*i+2)):=if_neg c
   rw [this,show ((i:Int)+1)=((i+1:Nat):Int) by omega]
   rfl) (r:=((sg.length:Int),rz (rels A sg))) (by
  unfold F.qfa
  dsimp only
  rw [dF (by omega),kF]
  rfl) m (by omega)
 have hb0':loopN m (F.qfa m sg (li (4*sg.length) A,((cnt+L:Nat):Int),0)) (0,([]:List (Int×(Int×Int))))=some ((sg.length:Int),rz (rels A sg)):=hb0
 have hT:=Q.tl
 have hq2:=Q.q2
 unfold F.qcolor_pose F.qih
 rw [dvalid_true D m (by omega),bB,Qi,kF,hA,bB]
 dsimp only
 rw [qal (by omega) (by omega),bB,bB,dT rfl,Qi,kF,hv,bB,Qi,kF]
 rw [show (cnt:Int)+(L:Int)=((cnt+L:Nat):Int) by omega,hb0',bB]
 dsimp only
 rw [qdw (by omega) (by omega),bB]
 exact hk fun Z=>some (rz (rels A sg),((cnt+L:Nat):Int),T,Z,true)
end Wm
end Go.Proofs.YtpnppjlnfhlmpaaGreat

set_option linter.all false
namespace Go.Proofs.YtpnppjlnfhlmpaaGreat
open Ev
namespace Wm
open Gar Pg Ho
theorem lab_adj {adj:Nat→Nat→Prop} (hs: ∀a b,adj a b→adj b a) {a b:Nat} (h:adj a b):lab hs a=lab hs b:=by
 obtain ⟨_,h2,h3⟩:=rp_spec hs a
 obtain ⟨_,h4,h5⟩:=rp_spec hs b
 have:rp hs a=rp hs b:=rep_eq hs h3 h5 ((h2.trans (Cn.one h)).trans (h4.symm hs))
 unfold lab
 rw [this]
def grp (n:Nat) (lb:Nat→Nat) (p:Nat):List Nat:=(List.range n).filter fun c=>decide (lb c=p)
theorem graph_run {sg M:List Int} {lo:Int} {μ:Nat→Nat} (D:DV sg M lo μ) (m:Nat) (hm:1000≤m):
  ∃(P:Nat) (lb:Nat→Nat),P≤sg.length∧(∀c,c<sg.length→lb c<P)∧(∀k,k<4*sg.length→lb (k/ 4)=lb (μ k/ 4))∧F.qhs m sg M lo=some ((List.range P).map fun p=>iz (grp sg.length lb p)):=by
 have hn:=D.n
 have hs:=adjP_symm D.mt
 have hP:=cls_le sg.length (adjP sg.length μ)
 generalize hPe:cls sg.length (adjP sg.length μ)=P at hP
 have hlt: ∀c,c<sg.length→((lab hs c).toNat:Int)=lab hs c∧(lab hs c).toNat<P:=fun c hc=>by
  have:=lab_lt hs hc
  rw [hPe] at this
  omega
 refine ⟨P,fun c=>(lab hs c).toNat,hP,fun c hc=>(hlt c hc).2,fun k hk=>?_,?_⟩
 ·
  have h1:=D.mt.2 k hk
  have:adjP sg.length μ (k/ 4) (μ k/ 4):=⟨by omega,by omega,k%4,by omega,by rw [show 4*(k/ 4)+k%4=k by omega]⟩
  dsimp only
  rw [lab_adj hs this]
 have hb0:=qba (body:=F.qfj m (iL sg.length (lab hs),(P:Int))) (fun i:Nat=>((i:Int),(List.range P).map fun p=>iz ((List.range i).filter fun c=>decide ((lab hs c).toNat=p)))) sg.length (fun i hi=>by
  obtain ⟨l1,l2⟩:=hlt i hi
  have hg: ∀i:Nat,((List.range P).map fun p=>iz ((List.range i).filter fun c=>decide ((lab hs c).toNat=p)))[(lab hs i).toNat]? =if (lab hs i).toNat<P then some (iz ((List.range i).filter fun c=>decide ((lab hs c).toNat=(lab hs i).toNat))) else none:=fun i=>by
   rw [Qm]
   split
   · rename_i h; rw [Qy h]; rfl
   · rename_i h; rw [Qk (by rw [Qn]; omega)]; rfl
  have hg1:=hg i
  rw [if_pos l2] at hg1
  have hfl:=Xr (fun c=>decide ((lab hs c).toNat=(lab hs i).toNat)) (List.range i)
  rw [Qn] at hfl
  unfold F.qfj
  dsimp only
  rw [iL_len,dT (by omega),kT,qas,qcc hi,bB,get_at l1.symm hg1,bB,lim_ok (by rw [qeo]; simp; omega),bB,bB,qal (by omega) (by omega),bB]
  rw [show ((i:Int)+1)=((i+1:Nat):Int) by omega]
  congr 3
  apply Qw
  intro j
  rw [Yg,Qm,Qm]
  rcases Xf j P with h | h
  ·
   rw [Qy h,X9,X9,Xt,Xj,Xm,Zv]
   by_cases e:(lab hs i).toNat=j
   ·
    subst e
    rw [if_pos rfl,if_pos (by simpa using l2),if_pos (by simp)]
    unfold iz
    rw [Xn]; rfl
   · rw [if_neg e,if_neg (by simpa using e),Yf]
  · rw [if_neg (by omega),Qk (by rw [Qn]; exact h)]; rfl) (r:=((sg.length:Int),(List.range P).map fun p=>iz ((List.range sg.length).filter fun c=>decide ((lab hs c).toNat=p)))) (by
  unfold F.qfj
  dsimp only
  rw [iL_len,dF (by omega),kF]) m (by omega)
 have e0:((0:Int),List.replicate (P:Int).toNat ([]:List Int))=(fun i:Nat=>((i:Int),(List.range P).map fun p=>iz ((List.range i).filter fun c=>decide ((lab hs c).toNat=p)))) 0:=by
  rw [Qb]
  dsimp only
  congr 1
  apply Qw
  intro j
  rw [Xz,Qm]
  rcases Xf j P with h | h
  · rw [if_pos h,Qy h]; rfl
  · rw [if_neg (by omega),Qk (by rw [Qn]; exact h)]; rfl
 unfold F.qhs
 rw [dvalid_true D m (by omega),bB,Qi,kF,label_eq D.mt hn rfl lo m (by omega),bB,hPe]
 dsimp only
 rw [qdw (by omega) (by omega),bB,e0,hb0,bB]
 rfl
theorem times_run {a b:Nat} (ha:a≤M1) (hb:1≤b) (hb2:b≤M1) (m:Nat):F.qgz m (a:Int) (b:Int)=some ((sat (a*b):Nat):Int):=by
 have e1:Int.tdiv 1099511627777 (b:Int)=((M1/ b:Nat):Int):=by
  have:=Zh M1 b
  exact this.symm
 have hd:M1/ b≤M1:=Nat.div_le_self _ _
 have k1:M1/ b<a→M1<a*b:=fun c=>(Nat.div_lt_iff_lt_mul hb).1 c
 have k2: ¬M1/ b<a→a*b≤M1:=fun c=>(Nat.le_div_iff_mul_le hb).1 (by omega)
 generalize M1/ b=dv at*
 unfold F.qgz
 rw [nz_ok (by omega),bB,e1,qal (by omega) (by unfold M1 at hd; omega),bB]
 by_cases c:dv<a
 ·
  have h1:=k1 c
  rw [dT (by omega),kT]
  have:sat (a*b)=M1:=by unfold sat; omega
  rw [this]; rfl
 ·
  have h1:=k2 c
  rw [dF (by omega),kF,←Int.natCast_mul,qal (by omega) (by unfold M1 at h1; omega),bB]
  have:sat (a*b)=a*b:=by unfold sat; omega
  rw [this]
section
variable {q : Nat} {tb : Nat → Nat → Nat} {T Z : List (List Int)} (Q : Qt q tb T Z)
include Q
theorem ind_pos {l:List Nat} {D:List Tri}:0<S q l (ind tb D) fun _=>0:=by
 have hq:=Q.q1
 refine S_pos_of (g:=fun _=>0) ?_ (fun _ _=>rfl) fun _ _=>by omega
 unfold ind
 rw [if_pos (show∀r∈D,okr tb (fun _=>0) r from fun r _=>Q.idem 0 (by omega))]
 omega
end
theorem rel_has {A:Nat→Nat} {sg:List Int} {c a:Nat} (h:has (rel A sg c) a): ∃k,k/ 4=c∧A k=a:=by
 have h3:a=A (4*c)∨a=A (4*c+1)∨a=A (4*c+2):=by
  unfold has rel at h
  split at h
  · dsimp only at h; omega
  · dsimp only at h; omega
 rcases h3 with e | e | e
 · exact ⟨4*c,by omega,e.symm⟩
 · exact ⟨4*c+1,by omega,e.symm⟩
 · exact ⟨4*c+2,by omega,e.symm⟩
theorem rels_at {A:Nat→Nat} {sg:List Int} {c:Nat} (h:c<sg.length):(rels A sg).getD c tri0=rel A sg c:=by
 unfold rels
 rw [Qc,Qm,Qy h]; rfl
theorem count_total {q:Nat} {tb:Nat→Nat→Nat} {T:List (List Int)} (Q:Qd q tb T) {sg M:List Int} {μ:Nat→Nat} {L:Nat} (D:DV sg M (L:Int) μ) (hn:sg.length≤14) {A:Nat→Nat} {cnt:Nat} (hcn:cnt≤4*sg.length) (hS:ArcS (4*sg.length) (mtP (4*sg.length) μ++ovP sg.length) A cnt) (m:Nat) (hm:20000≤m)
  (hA:F.qdj m sg M (L:Int)=some (li (4*sg.length) A,(cnt:Int))) (hv:F.qfr m T=some true):
  ∃(El:List Nat) (y:Int×Int),El.Nodup∧(∀a,a∈El↔arcsOf (rels A sg) a)∧F.qhg m sg M (L:Int) T=some y∧(q ^ L*S q El (ind tb (rels A sg)) (fun _=>0)≤200000→y=(((q ^ L*S q El (ind tb (rels A sg)) fun _=>0:Nat):Int),0)):=by
 have hq1:=Q.q1; have hq2:=Q.q2
 have hL:=D.lo1
 obtain ⟨Z,QZ,hpose⟩:=pose_run Q D m (by omega) hA (by omega) hv
 obtain ⟨P,lb,hP,hlb,hmu,hgr⟩:=graph_run D m (by omega)
 have hrl:(rels A sg).length=sg.length:=by unfold rels; rw [Qu,Qn]
 have harc: ∀r∈rels A sg,∀a,has r a→a<cnt+L:=fun r hr a h=>by
  unfold rels at hr
  obtain ⟨c,hc,rfl⟩:=Qo.1 hr
  obtain ⟨k,hk,rfl⟩:=rel_has h
  have:=hS.lt k (by have:=Qg.1 hc; omega)
  omega
 -- arcs of crossings of different parts differ
 have hpart: ∀c c' a,c<sg.length→c'<sg.length→has (rel A sg c) a→has (rel A sg c') a→lb c=lb c':=fun c c' a hc hc' h h'=>by
  obtain ⟨k,hk,e⟩:=rel_has h
  obtain ⟨k',hk',e'⟩:=rel_has h'
  have:=hS.fac (fun j=>lb (j/ 4)) (fun x y hxy=>by
   rcases Qs.1 hxy with z | z
   ·
    unfold mtP at z
    obtain ⟨j,hj,e9⟩:=Qo.1 z
    obtain ⟨e1,e2⟩:=Prod.mk.inj e9
    subst e1 e2
    exact hmu j (Qg.1 hj)
   ·
    unfold ovP at z
    obtain ⟨j,hj,e9⟩:=Qo.1 z
    obtain ⟨e1,e2⟩:=Prod.mk.inj e9
    subst e1 e2
    rw [show (4*j+1)/ 4=j by omega,show (4*j+3)/ 4=j by omega]) k k' (by omega) (by omega) (e.trans e'.symm)
  rw [hk,hk'] at this
  exact this
 have hb0:=qba (body:=F.qel m (L:Int) T) (fun i:Nat=>(((sat (q ^ i):Nat):Int),(i:Int))) L (fun i hi=>by
  unfold F.qel
  dsimp only
  rw [dT (by omega),kT,Q.tl,times_run (sat_le _) hq1 (by unfold M1; omega),bB,qal (by omega) (by omega),bB,sat_mul,←Nat.pow_succ]
  rfl) (r:=(((sat (q ^ L):Nat):Int),(L:Int))) (by
  unfold F.qel
  dsimp only
  rw [dF (by omega),kF]) m (by omega)
 have hb0':loopN m (F.qel m (L:Int) T) (1,0)=some (((sat (q ^ L):Nat):Int),(L:Int)):=hb0
 let RP:=fun p=>((List.range sg.length).filter fun c=>decide (lb c<p)).map (rel A sg)
 obtain ⟨o,o1,o2⟩:=qbq (body:=F.qgm m (rz (rels A sg),((cnt+L:Nat):Int),T,Z,true) ((List.range P).map fun p=>iz (grp sg.length lb p)))
  (fun s=> ∃(p:Nat) (El:List Nat),p≤P∧s.2=(p:Int)∧El.Nodup∧(∀a,a∈El↔arcsOf (RP p) a)∧s.1=((sat (q ^ L*S q El (ind tb (RP p)) fun _=>0):Nat):Int)) (fun s=>P-s.2.toNat)
  (fun s=> ∃El:List Nat,El.Nodup∧(∀a,a∈El↔arcsOf (RP P) a)∧s.1=((sat (q ^ L*S q El (ind tb (RP P)) fun _=>0):Nat):Int)) (by
  rintro ⟨s1,s2⟩ ⟨p,El,hp,e2,en,em,e1⟩
  dsimp only at e1 e2
  subst e1 e2
  unfold F.qgm
  dsimp only
  rw [Qu,Qn]
  by_cases hlt:p<P
  ·
   left
   have hgp:((List.range P).map fun p=>iz (grp sg.length lb p))[p]? =some (iz (grp sg.length lb p)):=by rw [Qm,Qy hlt]; rfl
   have hgm: ∀c,c∈grp sg.length lb p↔c<sg.length∧lb c=p:=fun c=>by unfold grp; rw [Qx,Qg,decide_eq_true_eq]
   have hgl:(grp sg.length lb p).length≤sg.length:=by
    unfold grp
    have:=Xr (fun c=>decide (lb c=p)) (List.range sg.length)
    rwa [Qn] at this
   obtain ⟨El2,n2,m2,c2⟩:=count_run QZ (RR:=rels A sg) (K:=cnt+L) (by omega) harc (cs:=grp sg.length lb p) (fun c hc=>by rw [hrl]; exact ((hgm c).1 hc).1) (by omega) m (by omega)
   have hmap:(grp sg.length lb p).map (fun c=>(rels A sg).getD c tri0)=(grp sg.length lb p).map (rel A sg):=Xd fun c hc=>rels_at ((hgm c).1 hc).1
   rw [hmap] at m2 c2
   have hpos:=ind_pos QZ (l:=El2) (D:=(grp sg.length lb p).map (rel A sg))
   rw [dT (by omega),kT,qas,hgp,bB,c2,bB,times_run (sat_le _) (sat_pos.2 hpos) (sat_le _),bB,qal (by omega) (by omega),bB,sat_mul,sat_mulr]
   have hdis: ∀a,arcsOf (RP p) a→¬arcsOf ((grp sg.length lb p).map (rel A sg)) a:=by
    rintro a ⟨r,hr,hh⟩ ⟨r',hr',hh'⟩
    obtain ⟨c,hc,rfl⟩:=Qo.1 hr
    obtain ⟨c',hc',rfl⟩:=Qo.1 hr'
    rw [Qx,Qg,decide_eq_true_eq] at hc
    have h9:=(hgm c').1 hc'
    have:=hpart c c' a hc.1 h9.1 hh hh'
    omega
   have hmem: ∀r,r∈RP p++(grp sg.length lb p).map (rel A sg)↔r∈RP (p+1):=fun r=>by
    rw [Qs,Qo,Qo,Qo]
    constructor
    ·
     rintro (⟨c,hc,e⟩ | ⟨c,hc,e⟩)
     ·
      rw [Qx,Qg,decide_eq_true_eq] at hc
      exact ⟨c,Qx.2 ⟨Qg.2 hc.1,dT (by omega)⟩,e⟩
     ·
      have:=(hgm c).1 hc
      exact ⟨c,Qx.2 ⟨Qg.2 this.1,dT (by omega)⟩,e⟩
    ·
     rintro ⟨c,hc,e⟩
     rw [Qx,Qg,decide_eq_true_eq] at hc
     by_cases z:lb c<p
     · exact .inl ⟨c,Qx.2 ⟨Qg.2 hc.1,dT z⟩,e⟩
     · exact .inr ⟨c,(hgm c).2 ⟨hc.1,by omega⟩,e⟩
   refine ⟨_,rfl,⟨p+1,El++El2,hlt,by dsimp only; omega,?_,fun a=>?_,?_⟩,by dsimp only; omega⟩
   ·
    rw [X8]
    exact ⟨en,n2,fun a ha b hb e=>hdis a ((em a).1 ha) ((m2 a).1 (e▸hb))⟩
   ·
    rw [Qs,em,m2]
    unfold arcsOf
    constructor
    ·
     rintro (⟨r,hr,hh⟩ | ⟨r,hr,hh⟩)
     · exact ⟨r,(hmem r).1 (Xu _ hr),hh⟩
     · exact ⟨r,(hmem r).1 (Xq _ hr),hh⟩
    ·
     rintro ⟨r,hr,hh⟩
     rcases Qs.1 ((hmem r).2 hr) with z | z
     · exact .inl ⟨r,z,hh⟩
     · exact .inr ⟨r,z,hh⟩
   ·
    dsimp only
    congr 2
    rw [←ind_iff hmem,show ind tb (RP p++(grp sg.length lb p).map (rel A sg))=fun g=>ind tb (RP p) g*ind tb ((grp sg.length lb p).map (rel A sg)) g from funext fun g=>ind_app tb _ _ g,S_prod (ind_dep tb _) (ind_dep tb _) (fun b hb z=>hdis b hb ((m2 b).1 z)) (fun b hb z=>hdis b ((em b).1 z) hb),Nat.mul_assoc]
  ·
   right
   have:p=P:=by omega
   subst this
   rw [dF (by omega),kF]
   exact ⟨_,rfl,El,en,em,rfl⟩) m (((sat (q ^ L):Nat):Int),0) ⟨0,[],Xk _,rfl,Yn,fun a=>by
    have h0:RP 0=[]:=by
     show List.map _ _=[]
     rw [Y7.2 fun c _=>by simp]; rfl
    rw [h0]
    exact ⟨(fun h=>by cases h),(fun ⟨r,hr,_⟩=>by cases hr)⟩,by
    have h0:RP 0=[]:=by
     show List.map _ _=[]
     rw [Y7.2 fun c _=>by simp]; rfl
    dsimp only
    rw [h0]
    have:S q [] (ind tb []) (fun _=>0)=1:=by
     show ind tb [] _=1
     unfold ind
     rw [if_pos fun r hr=>by cases hr]
    rw [this,Zj]⟩ (by show P-(0:Int).toNat<m; omega)
 obtain ⟨s1,s2⟩:=o
 obtain ⟨El,p1,p2,p3⟩:=o2
 dsimp only at p3
 subst p3
 have hall: ∀r,r∈RP P↔r∈rels A sg:=fun r=>by
  unfold rels
  rw [Qo,Qo]
  constructor
  · rintro ⟨c,hc,e⟩; exact ⟨c,(Qx.1 hc).1,e⟩
  · rintro ⟨c,hc,e⟩; exact ⟨c,Qx.2 ⟨hc,dT (hlb c (Qg.1 hc))⟩,e⟩
 rw [ind_iff hall] at o1
 have hc:F.qhg m sg M (L:Int) T=cond (decide (1099511627776<((sat (q ^ L*S q El (ind tb (rels A sg)) fun _=>0):Nat):Int))) (some (0,5)) (some (((sat (q ^ L*S q El (ind tb (rels A sg)) fun _=>0):Nat):Int),0)):=by
  unfold F.qhg
  rw [hpose,bB]
  dsimp only
  rw [Qi,kF,dF (by omega),kF,hb0',bB]
  dsimp only
  rw [hgr,bB,o1,bB]
 by_cases hb:1099511627776<((sat (q ^ L*S q El (ind tb (rels A sg)) fun _=>0):Nat):Int)
 ·
  rw [dT hb,kT] at hc
  refine ⟨El,_,p1,fun a=>by rw [p2]; unfold arcsOf; exact ⟨fun ⟨r,hr,hh⟩=>⟨r,(hall r).1 hr,hh⟩,fun ⟨r,hr,hh⟩=>⟨r,(hall r).2 hr,hh⟩⟩,hc,fun h=>?_⟩
  exfalso
  unfold sat at hb
  omega
 ·
  rw [dF hb,kF] at hc
  refine ⟨El,_,p1,fun a=>by rw [p2]; unfold arcsOf; exact ⟨fun ⟨r,hr,hh⟩=>⟨r,(hall r).1 hr,hh⟩,fun ⟨r,hr,hh⟩=>⟨r,(hall r).2 hr,hh⟩⟩,hc,fun h=>?_⟩
  have:sat (q ^ L*S q El (ind tb (rels A sg)) fun _=>0)=q ^ L*S q El (ind tb (rels A sg)) fun _=>0:=by unfold sat M1; omega
  rw [this]
end Wm
end Go.Proofs.YtpnppjlnfhlmpaaGreat

set_option linter.all false
namespace Go.Proofs.YtpnppjlnfhlmpaaGreat
open Ev
namespace Wm
open Gar Pg Ho
theorem qun_qd {n:Nat} {C T:List (List Int)} (K: ∀p∈C,Pe n p) (h:qunB C T=true):
  Qd C.length (tbi T) T∧C.Nodup∧∀i j,i<C.length→j<C.length→mu (C.getD j []) (C.getD (tbi T i j) [])=mu (C.getD i []) (C.getD j []):=by
 unfold qunB at h
 simp only [Yo,decide_eq_true_eq,Y0,Qg] at h
 obtain ⟨h1,h2,h3,h4,h5,h6,h7⟩:=h
 have hg: ∀i,i<C.length→C.getD i []=C[i]!∧C.getD i []∈C:=fun i hi=>by
  rw [Qc,gE hi,getElem!_pos C i hi]
  exact ⟨rfl,Qj hi⟩
 have hrow: ∀i,i<C.length→T[i]? =some (li C.length (tbi T i))∧∀j,j<C.length→tbi T i j<C.length:=fun i hi=>by
  have e1:T[i]? =some T[i]:=gE (by omega)
  obtain ⟨r1,r2⟩:=h5 T[i] (Qj (by omega))
  have ht:T.getD i []=T[i]:=by rw [Qc,e1]; rfl
  have hj: ∀j,j<C.length→T[i][j]? =some ((tbi T i j:Nat):Int)∧tbi T i j<C.length:=fun j hj=>by
   have e2:T[i][j]? =some T[i][j]:=gE (by omega)
   have:=r2 T[i][j] (Qj (by omega))
   have e3:tbi T i j=(T[i][j]).toNat:=by
    unfold tbi
    rw [ht,Qc,e2]; rfl
   rw [e2,e3]
   exact ⟨by congr 1; omega,by omega⟩
  refine ⟨?_,fun j h9=>(hj j h9).2⟩
  rw [e1]
  congr 1
  apply Qw
  intro j
  rcases Xf j C.length with q | q
  · rw [(hj j q).1,li_at q]
  · rw [Qk (by omega),li_none q]
 refine ⟨⟨h2,h3,fun i j hi hj=>(hrow i hi).2 j hj,fun i i' j hi hi' hj e=>?_,fun i hi=>h7 i hi,h1,fun i hi=>(hrow i hi).1⟩,h4,fun i j hi hj=>h6 i hi j hj⟩
 have e1:=h6 i hi j hj
 have e2:=h6 i' hi' j hj
 rw [e,e2] at e1
 have e3:=mu_right (K _ (hg j hj).2) (K _ (hg i' hi').2) (K _ (hg i hi).2) e1
 have a1:C[i']? =some (C.getD i' []):=by rw [Qc,gE hi']; rfl
 have a2:C[i]? =some (C.getD i []):=by rw [Qc,gE hi]; rfl
 rw [e3] at a1
 exact (Zn hi h4).1 (a2.trans a1.symm)
theorem tpl_sum {C:List (List Int)}: ∀(j s:Nat) (F:List (List Int)→Nat) (f:Nat→Nat),sm (tpl C j) F=S C.length (List.range' s j) (fun g=>F ((List.range' s j).map fun i=>C.getD (g i) [])) f
 | 0,_,F,f=>by show F []+0=F []; omega
 | j+1,s,F,f=>by
  have hC: ∀h:List Int→Nat,sm C h=sm (List.range C.length) fun x=>h (C.getD x []):=fun h=>by
   have:C=(List.range C.length).map fun x=>C.getD x []:=by
    apply Qw
    intro k
    rw [Qm]
    rcases Xf k C.length with q | q
    · rw [Qy q,X9,Qc,gE q]; rfl
    · rw [Qk q,Qk (by rw [Qn]; exact q)]; rfl
   conv=>lhs; rw [this]
   rw [sm_map]
  show sm (C.flatMap fun c=>(tpl C j).map (c:: ·)) F=S C.length (s::List.range' (s+1) j) _ f
  rw [sm_flat,hC]
  refine qfk fun x _=>?_
  rw [sm_map,tpl_sum j (s+1) (fun t=>F (C.getD x []::t)) (upd f s x)]
  refine qfn fun g h1 _=>?_
  have hs:g s=x:=by rw [h1 s (by rw [Yt]; omega),qgu]
  show F (C.getD x []::_)=F ((s::List.range' (s+1) j).map fun i=>C.getD (g i) [])
  rw [List.map_cons,hs]
section
variable {n g cnt : Nat} {C T : List (List Int)} (K : ∀ p ∈ C, Pe n p) (Q : Qd C.length (tbi T) T) (nd : C.Nodup) (hm : ∀ i j, i < C.length → j < C.length → mu (C.getD j []) (C.getD (tbi T i j) []) = mu (C.getD i []) (C.getD j []))
include K Q nd hm
theorem tri_iff {f a o b:Nat} (ha:a<C.length) (ho:o<C.length) (hb:b<C.length):tbi T a o=b↔mu (C.getD o []) (C.getD b [])=mu (C.getD a []) (C.getD o []):=by
 have hg: ∀i,i<C.length→C.getD i []∈C:=fun i hi=>by
  rw [Qc,gE hi]
  exact Qj hi
 rw [←hm a o ha ho]
 constructor
 · intro e; rw [e]
 ·
  intro e
  have ht:=Q.lt a o ha ho
  have e3:=mu_left (K _ (hg o ho)) (K _ (hg b hb)) (K _ (hg _ ht)) e
  have a1:C[b]? =some (C.getD b []):=by rw [Qc,gE hb]; rfl
  have a2:C[tbi T a o]? =some (C.getD (tbi T a o) []):=by rw [Qc,gE ht]; rfl
  rw [e3] at a1
  exact (Zn ht nd).1 (a2.trans a1.symm)
theorem rel_iff {A:Nat→Nat} {sg:List Int} (hsg: ∀s∈sg,s=1∨s=-1) (hA: ∀j,j<4*sg.length→A j<cnt) (hcg:cnt≤g) {f:Nat→Nat} (hf: ∀a,a<g→f a<C.length) {c:Nat} (hc:c<sg.length):
  ev n ((List.range' 0 g).map fun i=>C.getD (f i) []) (ird (rlc A (sg.getD c 0) c))=Ho.un n↔okr (tbi T) f (rel A sg c):=by
 have hg: ∀i,i<C.length→C.getD i []∈C:=fun i hi=>by
  rw [Qc,gE hi]
  exact Qj hi
 have hT:Tu n g ((List.range' 0 g).map fun i=>C.getD (f i) []):=⟨by simp,fun p hp=>by
  obtain ⟨i,hi,rfl⟩:=Qo.1 hp
  rw [Yt] at hi
  exact K _ (hg _ (hf i (by omega)))⟩
 have hlr:=rlc_lr hA hcg hc (sg.getD c 0)
 rw [ev_ird hT hlr]
 have hgt: ∀a,a<g→((List.range' 0 g).map fun i=>C.getD (f i) []).getD a []=C.getD (f a) []:=fun a ha=>by
  rw [Qc,Qm,List.getElem?_range' (by omega)]
  simp
 have lp: ∀a,a<g→lt n ((List.range' 0 g).map fun i=>C.getD (f i) []) ((a:Int)+1)=C.getD (f a) []:=fun a ha=>by
  unfold lt
  rw [if_pos (by omega),show ((a:Int)+1).toNat-1=a by omega,hgt a ha]
 have ln: ∀a,a<g→lt n ((List.range' 0 g).map fun i=>C.getD (f i) []) (-((a:Int)+1))=iv n (C.getD (f a) []):=fun a ha=>by
  unfold lt
  rw [if_neg (by omega),show (-(-((a:Int)+1))).toNat-1=a by omega,hgt a ha]
 have ha:=hA (4*c) (by omega)
 have ho:=hA (4*c+1) (by omega)
 have hb:=hA (4*c+2) (by omega)
 have Pa:=K _ (hg _ (hf (A (4*c)) (by omega)))
 have Po:=K _ (hg _ (hf (A (4*c+1)) (by omega)))
 have Pb:=K _ (hg _ (hf (A (4*c+2)) (by omega)))
 have hs:=hsg _ (Qj hc)
 have es:sg.getD c 0=sg[c]:=by rw [Qc,gE hc]; rfl
 unfold okr rel rlc ev
 rw [es]
 by_cases h1:0<sg[c]
 ·
  rw [if_pos h1,if_neg (by omega)]
  dsimp only [List.foldl]
  rw [ln _ (by omega),ln _ (by omega),lp _ (by omega),lp _ (by omega),un_mu Pb.iv,tri_iff K Q nd hm (f:=0) (hf _ (by omega)) (hf _ (by omega)) (hf _ (by omega))]
  generalize C.getD (f (A (4*c))) []=a at*
  generalize C.getD (f (A (4*c+1))) []=o at*
  generalize C.getD (f (A (4*c+2))) []=b at*
  rw [←conj_iff' Po Pa Pb |>.trans eq_comm]
  have e:mu (mu (mu (iv n b) (iv n o)) a) o=mu (iv n b) (mu (mu (iv n o) a) o):=by
   rw [qdq Pb.iv Po.iv Pa,qdq Pb.iv (Po.iv.mu Pa) Po]
  rw [e]
  constructor
  ·
   intro q
   have h9:mu (iv n b) (mu (mu (iv n o) a) o)=mu (iv n b) b:=by rw [q,iv_mu Pb]
   exact mu_left Pb.iv ((Po.iv.mu Pa).mu Po) Pb h9
  · intro q; rw [q,iv_mu Pb]
 ·
  rw [if_neg h1,if_pos (by omega)]
  dsimp only [List.foldl]
  rw [ln _ (by omega),lp _ (by omega),lp _ (by omega),ln _ (by omega),un_mu Pb.iv,tri_iff K Q nd hm (f:=0) (hf _ (by omega)) (hf _ (by omega)) (hf _ (by omega))]
  generalize C.getD (f (A (4*c))) []=a at*
  generalize C.getD (f (A (4*c+1))) []=o at*
  generalize C.getD (f (A (4*c+2))) []=b at*
  rw [←conj_iff Po Pa Pb]
  have e:mu (mu (mu (iv n b) o) a) (iv n o)=mu (iv n b) (mu (mu o a) (iv n o)):=by
   rw [qdq Pb.iv Po Pa,qdq Pb.iv (Po.mu Pa) Po.iv]
  rw [e]
  constructor
  ·
   intro q
   have h9:mu (iv n b) (mu (mu o a) (iv n o))=mu (iv n b) b:=by rw [q,iv_mu Pb]
   exact mu_left Pb.iv ((Po.mu Pa).mu Po.iv) Pb h9
  · intro q; rw [q,iv_mu Pb]
theorem homs_colours {A:Nat→Nat} {sg:List Int} {μ:Nat→Nat} {L:Nat} (hsg: ∀s∈sg,s=1∨s=-1) (hS:ArcS (4*sg.length) (mtP (4*sg.length) μ++ovP sg.length) A cnt) {El:List Nat} (en:El.Nodup) (em: ∀a,a∈El↔arcsOf (rels A sg) a):
  hct n C (cnt+L) (rls A sg)=C.length ^ L*S C.length El (ind (tbi T) (rels A sg)) fun _=>0:=by
 unfold hct
 rw [sm_filter,tpl_sum (cnt+L) 0 _ (fun _=>0)]
 have e1:S C.length (List.range' 0 (cnt+L)) (fun f=>if decide (∀w∈rls A sg,ev n ((List.range' 0 (cnt+L)).map fun i=>C.getD (f i) []) w=Ho.un n)=true then 1 else 0) (fun _=>0)=S C.length (List.range' 0 (cnt+L)) (ind (tbi T) (rels A sg)) fun _=>0:=by
  refine qfn fun f _ hf=>?_
  have hf2: ∀a,a<cnt+L→f a<C.length:=fun a ha=>hf a (by rw [Yt]; omega)
  have key:(∀w∈rls A sg,ev n ((List.range' 0 (cnt+L)).map fun i=>C.getD (f i) []) w=Ho.un n)↔∀r∈rels A sg,okr (tbi T) f r:=by
   constructor
   ·
    intro h r hr
    unfold rels at hr
    obtain ⟨c,hc,rfl⟩:=Qo.1 hr
    have hc':=Qg.1 hc
    exact (rel_iff K Q nd hm hsg hS.lt (Nat.le_add_right cnt L) hf2 hc').1 (h _ (Qo.2 ⟨c,hc,rfl⟩))
   ·
    intro h w hw
    unfold rls at hw
    obtain ⟨c,hc,rfl⟩:=Qo.1 hw
    have hc':=Qg.1 hc
    exact (rel_iff K Q nd hm hsg hS.lt (Nat.le_add_right cnt L) hf2 hc').2 (h _ (Qo.2 ⟨c,hc,rfl⟩))
  unfold ind
  by_cases c: ∀r∈rels A sg,okr (tbi T) f r
  · rw [if_pos c,if_pos (dT (key.2 c))]
  · rw [if_neg c,if_neg fun z=>c (key.1 (of_decide_eq_true z))]
 rw [e1]
 have e2:List.range' 0 (cnt+L)=List.range' 0 cnt++List.range' (0+cnt) L:=by rw [←List.range'_append_1]
 have hlt: ∀a,arcsOf (rels A sg) a→a<cnt:=fun a ⟨r,hr,hh⟩=>by
  unfold rels at hr
  obtain ⟨c,hc,rfl⟩:=Qo.1 hr
  obtain ⟨k,hk,rfl⟩:=rel_has hh
  exact hS.lt k (by have:=Qg.1 hc; omega)
 have e3:S C.length (List.range' 0 (cnt+L)) (ind (tbi T) (rels A sg)) (fun _=>0)=S C.length (List.range' 0 cnt) (ind (tbi T) (rels A sg)) (fun _=>0)*C.length ^ L:=by
  rw [e2,show ind (tbi T) (rels A sg)=fun g=>ind (tbi T) (rels A sg) g*1 from funext fun g=>(Zj _).symm,S_prod (ψ:=fun _=>1) (D2:=fun _=>False) (ind_dep (tbi T) (rels A sg)) (fun _ _ _=>rfl) (fun b hb z=>by
   rw [Yt] at z
   have:=hlt b hb
   omega) (fun b hb=>hb.elim),S_const,List.length_range',Zj]
  simp only [Zj]
 rw [e3,Yx]
 congr 1
 refine S_perm (Yp.2 fun a=>?_) _
 rw [(show (List.range' 0 cnt).Nodup from List.nodup_range').count,en.count]
 have:a∈List.range' 0 cnt↔a∈El:=by
  rw [Yt,em]
  constructor
  ·
   rintro ⟨_,h⟩
   obtain ⟨j,hj,rfl⟩:=hS.sur a (by omega)
   refine ⟨rel A sg (j/ 4),Qo.2 ⟨j/ 4,Qg.2 (by omega),rfl⟩,?_⟩
   have ho:A (4*(j/ 4)+1)=A (4*(j/ 4)+3):=hS.glue _ _ (Xq _ (Qo.2 ⟨j/ 4,Qg.2 (by omega),rfl⟩))
   have hj4:j=4*(j/ 4)∨j=4*(j/ 4)+1∨j=4*(j/ 4)+2∨j=4*(j/ 4)+3:=by omega
   have hh:A j=A (4*(j/ 4))∨A j=A (4*(j/ 4)+1)∨A j=A (4*(j/ 4)+2):=by
    rcases hj4 with e | e | e | e
    · exact .inl (congrArg A e)
    · exact .inr (.inl (congrArg A e))
    · exact .inr (.inr (congrArg A e))
    · exact .inr (.inl ((congrArg A e).trans ho.symm))
   unfold has rel
   split
   · dsimp only; omega
   · dsimp only; omega
  ·
   intro h
   have:=hlt a h
   omega
 by_cases z:a∈List.range' 0 cnt
 · rw [if_pos z,if_pos (this.1 z)]
 · rw [if_neg z,if_neg fun w=>z (this.2 w)]
end
end Wm
set_option maxRecDepth 100000 in
theorem awakemer:F.qhn 10000000000=some true:=by decide+kernel
open Wm Gar Pg Ho in
theorem qis (x0:List Int×(List Int×Int)) (z1:Int) (x2:List Int) (o0:Ev.Sh.ok (.pr (.sl (.int .i64)) (.pr (.sl (.int .i64)) (.int .i64))) x0) (o1:Ev.Sh.ok (.int .i64) z1) (o2:Ev.Sh.ok (.sl (.int .i64)) x2): ∃n,F.qej n x0.1 x0.2.1 x0.2.2 z1 x2=some true:=by
 refine ⟨10000000000,?_⟩
 obtain ⟨sg,M,lo⟩:=x0
 dsimp only
 unfold F.qej
 rw [awakemer,bB,Qi,kF]
 by_cases h7:7<(sg.length:Int)
 · rw [dT h7,kT]
 rw [dF h7,kF]
 by_cases h2:2<lo
 · rw [dT h2,kT]
 rw [dF h2,kF]
 by_cases h4:4<z1
 · rw [dT h4,kT]
 rw [dF h4,kF]
 by_cases h10:10<(x2.length:Int)
 · rw [dT h10,kT]
 rw [dF h10,kF]
 obtain ⟨b,hb,hD⟩:=dvalid_some sg M lo 10000000000 (by omega)
 rw [hb,bB]
 cases b with
 | false=>rfl
 | true=>
  obtain ⟨μ,D⟩:=hD rfl
  rw [Qi,kF]
  by_cases hz:z1<1
  ·
   have:F.qdx 10000000000 z1 x2=some ([],2):=by
    unfold F.qdx
    rw [dT hz,kT]
   rw [this,bB]
   rfl
  obtain ⟨n,rfl⟩:=Xy (show 0≤z1 by omega)
  obtain ⟨⟨C,e⟩,c1,c2⟩:=class_run (n:=n) (by omega) (by omega) (show x2.length≤1000 by omega)
  rw [c1,bB]
  dsimp only
  by_cases he:e=0
  rotate_left
  · rw [dF he,Qz,kT]
  subst he
  have Kc:Cls n C:=c2 rfl
  obtain ⟨T,t1,t2,t3⟩:=Kc.qu
  obtain ⟨Qd1,nd,hmu⟩:=qun_qd Kc.pe t2
  have hq1:=Qd1.q1
  obtain ⟨L,rfl⟩:=Xy D.lo0
  obtain ⟨A,cnt,comp,a1,a2,a3,a4,a5⟩:=of_run D 10000000000 (by omega)
  have W:Wg (cnt+L) comp (rls A sg):=wg_of a3.lt (by omega) (by omega) D.n a5
  obtain ⟨x,e3,k1,k2⟩:=count_run2 (comp:=comp) (cyc:=x2) (n:=n) (by omega) (by omega) Kc.pe Kc.cl (by omega) W.wr W.wl 10000000000 (by omega) W.valid c1
  obtain ⟨El,y,p1,p2,p3,p4⟩:=count_total Qd1 D (by omega) a2 a3 10000000000 (by omega) a1 t3
  rw [dT rfl,Qi,kF,dF (by omega),kF,t1,bB,a4,bB]
  dsimp only
  rw [k1,bB,p3,bB]
  dsimp only
  rcases k2 with e13 | ⟨e0,ex,ebig⟩
  · rw [dT e13,kT]
  ·
   subst e0
   have hc:=homs_colours (L:=L) Kc.pe Qd1 nd hmu D.sgn a3 p1 p2
   rw [hc] at ex ebig
   have py:=p4 ebig
   subst py
   dsimp only
   rw [dF (by omega),kF,dT rfl,kT,kT,kT,kT,ex,dT rfl]
