import Derived.Test.YtpnppjlnfhlmpaaGreatPGint
set_option linter.all false
namespace Go.Proofs.YtpnppjlnfhlmpaaGreat
open List (replicate)
open Ev
namespace Pg
theorem getD_of' {α:Type} {xs:List α} {k:Nat} (h:k<xs.length) (d:α):xs.getD k d=xs[k]:=by simp [List.getD,gE h]
abbrev Vis:=Int×Bool
def v0:Vis:=(0,false)
theorem nodup_map {α β:Type} {l:List α} {f:α→β} (hn:l.Nodup) (h: ∀x∈l,∀y∈l,f x=f y→x=y):(l.map f).Nodup:=by
 unfold List.Nodup
 rw [Yj]
 exact List.Pairwise.imp_of_mem (fun ha hb hne e=>hne (h _ ha _ hb e)) hn
theorem sub_len {α:Type} [DecidableEq α]: ∀{l1 l2:List α},l1.Nodup→(∀x∈l1,x∈l2)→l1.length≤l2.length
 | [],l2,_,_=>Xk _
 | a::r,l2,hn,hs=>by
  rw [Y1] at hn
  have ha:=hs a Ql
  have:=sub_len (l1:=r) (l2:=l2.erase a) hn.2 fun x hx=>(List.mem_erase_of_ne (by intro h; subst h; exact hn.1 hx)).2 (hs x (Qf _ hx))
  rw [List.length_erase_of_mem ha] at this
  have hp:=List.length_pos_of_mem ha
  rw [Xe]
  omega
@[reducible] def stepR {S E Q:Type} (o:Option Q) (s:S):S⊕(E⊕Q):=match o with | none=>.inl s | some q=>.inr (.inr q)
theorem scan_loop {S E Q:Type} {body:S→Option (S⊕(E⊕Q))} (st:Nat→S) (m:Nat) (bad:Nat→Option Q) {e:E}
  (h: ∀k,k<m→body (st k)=some (stepR (bad k) (st (k+1))))
  (he:body (st m)=some (.inr (.inl e))) (n:Nat) (hn:m<n):
  loopN n body (st 0)=some (match (List.range m).findSome? bad with | none=>.inl e | some q=>.inr q):=by
 have key: ∀(j k n:Nat),k+j=m→j<n→loopN n body (st k)=some (match (List.range' k j).findSome? bad with | none=>.inl e | some q=>.inr q):=by
  intro j
  induction j with
  | zero=>
   intro k n hk hn
   obtain ⟨n,rfl⟩: ∃n',n=n'+1:=⟨n-1,by omega⟩
   obtain rfl:k=m:=by omega
   simp only [loopN,he,bB]
   rfl
  | succ j ih=>
   intro k n hk hn
   obtain ⟨n,rfl⟩: ∃n',n=n'+1:=⟨n-1,by omega⟩
   rw [List.range'_succ,List.findSome?_cons]
   have hb:=h k (by omega)
   simp only [loopN,hb,bB]
   cases hq:bad k with
   | none=>
    rw [show (stepR (none:Option Q) (st (k+1)):S⊕(E⊕Q))=.inl (st (k+1)) from rfl]
    exact ih (k+1) n (by omega) (by omega)
   | some q=>rfl
 rw [List.range_eq_range']
 exact key m 0 n (by omega) hn
theorem findSome_none {Q:Type} {m:Nat} {bad:Nat→Option Q} (h: ∀k,k<m→bad k=none):(List.range m).findSome? bad=none:=by
 rw [Ya]
 intro k hk
 exact h k (Qg.1 hk)
theorem findSome_one {Q:Type} {m:Nat} {bad:Nat→Option Q} {q:Q} (h: ∀k q',bad k=some q'→q'=q) {k:Nat} (hk:k<m) (hb:bad k≠none):(List.range m).findSome? bad=some q:=by
 cases hf:(List.range m).findSome? bad with
 | none=>
  rw [Ya] at hf
  exact absurd (hf k (Qg.2 hk)) hb
 | some q'=>
  obtain ⟨k',_,h2⟩:=Yb hf
  rw [h k' q' h2]
def bset (N:Nat) (R:Nat→Bool):List Bool:=(List.range N).map R
theorem bset_len (N:Nat) (R:Nat→Bool):(bset N R).length=N:=by simp [bset]
theorem bset_get {N:Nat} {R:Nat→Bool} {k:Nat} (h:k<N):(bset N R)[k]? =some (R k):=by
 unfold bset
 rw [Qm,Qy h]; rfl
theorem bset_set {N:Nat} {R:Nat→Bool} {k:Nat} (h:k<N):(bset N R).set k true=bset N (fun j=>decide (j=k) || R j):=by
 apply Qw
 intro j
 rw [Yg]
 by_cases hj:j<N
 ·
  rw [bset_get hj,bset_get hj,bset_len]
  by_cases hk:k=j
  · subst hk; simp [h]
  · rw [if_neg hk,dF (fun h=>hk h.symm)]; rfl
 · rw [Qk (by rw [bset_len]; omega),Qk (by rw [bset_len]; omega),if_neg (by omega)]
theorem qhm {N:Nat} {R S:Nat→Bool} (h: ∀k,k<N→R k=S k):bset N R=bset N S:=Xd fun k hk=>h k (Qg.1 hk)
theorem bset_rep (N:Nat):replicate N false=bset N (fun _=>false):=by
 apply Qw
 intro j
 rw [Xz]
 by_cases hj:j<N
 · rw [bset_get hj,if_pos hj]
 · rw [Qk (by rw [bset_len]; omega),if_neg hj]
def okv (n:Nat) (pre:List Vis) (v:Vis):Prop:=0≤v.1∧v.1<(n:Int)∧v∉pre
instance (n:Nat) (pre:List Vis) (v:Vis):Decidable (okv n pre v):=by unfold okv; infer_instance
open Classical in
theorem gv_signs (sg:List Int) (n:Nat) (hn:sg.length<n) (hb:sg.length≤64):loopN n (F.qdi n sg) 0=some (if∀s∈sg,s=1∨s=-1 then .inl (sg.length:Int) else .inr false):=by
 have hs:=scan_loop (body:=F.qdi n sg) (fun k=>(k:Int)) sg.length (fun k=>if sg.getD k 0=1∨sg.getD k 0=-1 then none else some false) (e:=(sg.length:Int)) (fun k hk=>by
  unfold F.qdi
  dsimp only
  rw [dT (by omega),kT,qas,gE hk,bB,getD_of' hk]
  by_cases h1:sg[k]=1
  · rw [dT h1,Qi,kF,qal (by omega) (by omega),bB,if_pos (.inl h1)]; rfl
  rw [dF h1,Qz,kT]
  by_cases h2:sg[k]=-1
  · rw [dT h2,Qi,kF,qal (by omega) (by omega),bB,if_pos (.inr h2)]; rfl
  · rw [dF h2,Qz,kT,if_neg (by rintro (h | h); exact h1 h; exact h2 h)]) (by
  unfold F.qdi
  dsimp only
  rw [dF (by omega),kF]) n hn
 refine hs.trans ?_
 by_cases hf: ∀s∈sg,s=1∨s=-1
 ·
  rw [if_pos hf,findSome_none]
  intro k hk
  rw [getD_of' hk,if_pos (hf _ (Qj hk))]
 ·
  rw [if_neg hf]
  have: ∃k,∃h:k<sg.length,¬(sg[k]=1∨sg[k]=-1):=by
   apply Classical.byContradiction
   intro hc
   apply hf
   intro x hx
   obtain ⟨k,hk,rfl⟩:=Y9.1 hx
   exact Classical.byContradiction fun hx=>hc ⟨k,hk,hx⟩
  obtain ⟨k,hk,hx⟩:=this
  rw [findSome_one (q:=false) (k:=k) (fun k q' h=>by
   split at h
   · cases h
   · injection h with h; exact h.symm) hk (by rw [getD_of' hk,if_neg hx]; simp)]
inductive Cn (adj:Nat→Nat→Prop):Nat→Nat→Prop
 | refl (a:Nat):Cn adj a a
 | step {a b c:Nat}:Cn adj a b→adj b c→Cn adj a c
theorem Cn.one {adj:Nat→Nat→Prop} {a b:Nat} (h:adj a b):Cn adj a b:=.step (.refl a) h
theorem Cn.trans {adj:Nat→Nat→Prop} {a b c:Nat} (h1:Cn adj a b) (h2:Cn adj b c):Cn adj a c:=by
 induction h2 with
 | refl=>exact h1
 | step _ h ih=>exact .step ih h
theorem Cn.symm {adj:Nat→Nat→Prop} (hs: ∀a b,adj a b→adj b a) {a b:Nat} (h:Cn adj a b):Cn adj b a:=by
 induction h with
 | refl=>exact .refl _
 | step _ h ih=>exact (Cn.one (hs _ _ h)).trans ih
theorem Cn.closed {adj:Nat→Nat→Prop} {S:Nat→Prop} (hS: ∀a b,S a→adj a b→S b) {a b:Nat} (h:Cn adj a b) (ha:S a):S b:=by
 induction h with
 | refl=>exact ha
 | step _ h ih=>exact hS _ _ ih h
def Rep (adj:Nat→Nat→Prop) (h:Nat):Prop:= ∀g,g<h→¬Cn adj g h
open Classical in
noncomputable def reps (N:Nat) (adj:Nat→Nat→Prop):List Nat:=(List.range N).filter (fun h=>decide (Rep adj h))
noncomputable def cls (N:Nat) (adj:Nat→Nat→Prop):Nat:=(reps N adj).length
theorem cls_succ_rep {N:Nat} {adj:Nat→Nat→Prop} (h:Rep adj N):cls (N+1) adj=cls N adj+1:=by
 unfold cls reps
 rw [Xt,Xj,Qr]
 simp [h]
theorem cls_succ_not {N:Nat} {adj:Nat→Nat→Prop} (h: ¬Rep adj N):cls (N+1) adj=cls N adj:=by
 unfold cls reps
 rw [Xt,Xj,Qr]
 simp [h]
theorem cls_le (N:Nat) (adj:Nat→Nat→Prop):cls N adj≤N:=by
 unfold cls reps
 have:=Xr (fun h=>@decide (Rep adj h) (Classical.propDecidable _)) (List.range N)
 rwa [Qn] at this
theorem nodup_lt {l:List Nat} {N:Nat} (hn:l.Nodup) (hl: ∀x∈l,x<N):l.length≤N:=by
 have:=sub_len hn (l2:=List.range N) fun x hx=>Qg.2 (hl x hx)
 rwa [Qn] at this
theorem least_of {p:Nat→Prop} {n:Nat} (h:p n): ∃k,p k∧k≤n∧∀j,j<k→¬p j:=by
 induction n using Nat.strongRecOn with
 | _ n ih=>
  by_cases hc: ∃j,j<n∧p j
  ·
   obtain ⟨j,hj,hp⟩:=hc
   obtain ⟨k,a,b,c⟩:=ih j hj hp
   exact ⟨k,a,by omega,c⟩
  · exact ⟨n,h,Xb _,fun j hj hp=>hc ⟨j,hj,hp⟩⟩
theorem rep_of {adj:Nat→Nat→Prop} (hs: ∀a b,adj a b→adj b a) (h:Nat): ∃k,k≤h∧Cn adj k h∧Rep adj k:=by
 obtain ⟨k,a,b,c⟩:=least_of (p:=fun k=>Cn adj k h) (.refl h)
 exact ⟨k,b,a,fun j hj hjk=>c j hj (hjk.trans a)⟩
def MT (N:Nat) (M:List Int) (μ:Nat→Nat):Prop:=M.length=N∧∀h,h<N→M[h]? =some (μ h:Int)∧μ h<N∧μ (μ h)=h∧μ h≠h
def turnN (h k:Nat):Nat:=4*(h/ 4)+(h%4+k)%4
theorem turn3 (h:Nat) (hh:h≤1000000) (n:Nat):F.qep n (h:Int) (-1)=some ((turnN h 3:Nat):Int):=by
 have e1:Int.tmod (h:Int) 4=((h%4:Nat):Int):=Y4 h 4
 have e2:Int.tmod (-1) 4=-1:=by decide
 have e3:Int.tmod (((h%4:Nat):Int)+ -1+4) 4=(((h%4+3)%4:Nat):Int):=by
  rw [show ((h%4:Nat):Int)+ -1+4=((h%4+3:Nat):Int) from by omega]
  exact Y4 _ 4
 unfold F.qep turnN
 rw [dF (by omega),kF,nz_ok (by decide),bB,e1,qal (by omega) (by omega),bB,bB,bB,e2,qal (by omega) (by omega),bB,qal (by omega) (by omega),bB,bB,e3,qal (by omega) (by omega),bB]
 congr 1
 omega
theorem turnN_lt {h k n:Nat} (hh:h<4*n):turnN h k<4*n:=by unfold turnN; omega
theorem turnN_inj {a b k:Nat} (h:turnN a k=turnN b k):a=b:=by unfold turnN at h; omega
def fc (μ:Nat→Nat) (h:Nat):Nat:=turnN (μ h) 3
def adjF (n:Nat) (μ:Nat→Nat) (a b:Nat):Prop:=a<4*n∧b<4*n∧(b=fc μ a∨a=fc μ b)
theorem adjF_symm {n:Nat} {μ:Nat→Nat} (a b:Nat) (h:adjF n μ a b):adjF n μ b a:=⟨h.2.1,h.1,h.2.2.symm⟩
theorem fc_lt {n:Nat} {M:List Int} {μ:Nat→Nat} (hM:MT (4*n) M μ) {a:Nat} (ha:a<4*n):fc μ a<4*n:=turnN_lt (hM.2 a ha).2.1
theorem fc_inj {n:Nat} {M:List Int} {μ:Nat→Nat} (hM:MT (4*n) M μ) {a b:Nat} (ha:a<4*n) (hb:b<4*n) (h:fc μ a=fc μ b):a=b:=by
 have:=turnN_inj h
 rw [←(hM.2 a ha).2.2.1,this,(hM.2 b hb).2.2.1]
def it (f:Nat→Nat):Nat→Nat→Nat
 | 0,s=>s
 | k+1,s=>f (it f k s)
theorem it_lt {n:Nat} {M:List Int} {μ:Nat→Nat} (hM:MT (4*n) M μ) {h:Nat} (hh:h<4*n) (k:Nat):it (fc μ) k h<4*n:=by
 induction k with
 | zero=>exact hh
 | succ k ih=>exact fc_lt hM ih
theorem it_cn {n:Nat} {M:List Int} {μ:Nat→Nat} (hM:MT (4*n) M μ) {h:Nat} (hh:h<4*n) (k:Nat):Cn (adjF n μ) h (it (fc μ) k h):=by
 induction k with
 | zero=>exact .refl _
 | succ k ih=>exact .step ih ⟨it_lt hM hh k,fc_lt hM (it_lt hM hh k),.inl rfl⟩
theorem it_back {n:Nat} {M:List Int} {μ:Nat→Nat} (hM:MT (4*n) M μ) {h:Nat} (hh:h<4*n): ∀(j k:Nat),it (fc μ) j h=it (fc μ) (j+k) h→h=it (fc μ) k h
 | 0,k,e=>by rw [Y3] at e; exact e
 | j+1,k,e=>by
  refine it_back hM hh j k (fc_inj hM (it_lt hM hh _) (it_lt hM hh _) ?_)
  rw [show j+1+k=(j+k)+1 from by omega] at e
  exact e
theorem it_all {n:Nat} {M:List Int} {μ:Nat→Nat} (hM:MT (4*n) M μ) {h:Nat} (hh:h<4*n) {j k:Nat} (hj:j<k) (he:it (fc μ) j h=it (fc μ) k h) {g:Nat} (hg:Cn (adjF n μ) h g): ∃i,i<k∧it (fc μ) i h=g:=by
 have hp:h=it (fc μ) (k-j) h:=it_back hM hh j (k-j) (by rw [show j+(k-j)=k from by omega]; exact he)
 refine Cn.closed (S:=fun g=> ∃i,i<k∧it (fc μ) i h=g) (fun a b=>?_) hg ⟨0,by omega,rfl⟩
 rintro ⟨i,hi,rfl⟩ ⟨h1,h2,h3 | h3⟩
 ·
  by_cases hik:i+1<k
  · exact ⟨i+1,hik,h3.symm⟩
  ·
   have:k=i+1:=by omega
   exact ⟨j,hj,by rw [he,this]; exact h3.symm⟩
 ·
  cases i with
  | zero=>
   refine ⟨k-j-1,by omega,fc_inj hM (it_lt hM hh _) h2 ?_⟩
   rw [←h3]
   have e:k-j=(k-j-1)+1:=by omega
   rw [e] at hp
   exact hp.symm
  | succ i=>exact ⟨i,by omega,fc_inj hM (it_lt hM hh _) h2 h3⟩
theorem bset_succ (N:Nat) (R:Nat→Bool):bset (N+1) R=bset N R++[R N]:=by
 unfold bset
 rw [Xt,Xn]; rfl
theorem bset_count {N:Nat} {R:Nat→Bool} {k:Nat} (hk:k<N) (h:R k=false):(bset N (fun j=>decide (j=k) || R j)).countP (fun b=>!b)+1=(bset N R).countP (fun b=>!b):=by
 induction N with
 | zero=>omega
 | succ N ih=>
  rw [bset_succ,bset_succ,List.countP_append,List.countP_append]
  by_cases hkN:k=N
  ·
   subst hkN
   rw [qhm (S:=R) (fun j hj=>by rw [dF (by omega)]; rfl),h]
   simp
  ·
   have:=ih (by omega)
   rw [dF (fun h=>hkN h.symm),Y8]
   omega
open Classical in
theorem face_loop {n:Nat} {M:List Int} {μ:Nat→Nat} (hM:MT (4*n) M μ) (hn:n≤100) (S:Nat→Bool) (hS: ∀a b,S a=true→adjF n μ a b→S b=true) {h:Nat} (hh:h<4*n) (hx:S h=false) (m:Nat) (hm:4*n<m) (m':Nat):
  ∃v,loopN m (F.qdk m' M) ((h:Int),bset (4*n) S)=some (v,bset (4*n) (fun g=>S g || decide (Cn (adjF n μ) h g))):=by
 have hout: ∀k,S (it (fc μ) k h)=false:=by
  intro k
  cases hc:S (it (fc μ) k h) with
  | false=>rfl
  | true=>
   have:=Cn.closed (S:=fun g=>S g=true) (fun a b ha hab=>hS a b ha hab) ((it_cn hM hh k).symm adjF_symm) hc
   rw [hx] at this; cases this
 obtain ⟨r,h1,v,hv⟩:=qbq (body:=F.qdk m' M)
  (fun s=> ∃k,s=(((it (fc μ) k h:Nat):Int),bset (4*n) (fun g=>S g || decide (∃j,j<k∧it (fc μ) j h=g)))∧∀i j,i<j→j<k→it (fc μ) i h≠it (fc μ) j h)
  (fun s=>s.2.countP (fun b=>!b))
  (fun r=> ∃v,r=(v,bset (4*n) (fun g=>S g || decide (Cn (adjF n μ) h g))))
  (fun s hs=>by
   obtain ⟨k,rfl,hd⟩:=hs
   have hlt:=it_lt hM hh k
   have hmt:=hM.2 _ hlt
   unfold F.qdk
   dsimp only
   rw [qas,bset_get hlt,bB,hout k,Y8]
   by_cases hc: ∃j,j<k∧it (fc μ) j h=it (fc μ) k h
   ·
    rw [dT hc]
    right
    refine ⟨_,rfl,((it (fc μ) k h:Nat):Int),?_⟩
    congr 1
    obtain ⟨j,hj,he⟩:=hc
    refine qhm fun g hg=>?_
    congr 1
    refine decide_eq_decide.mpr ⟨?_,it_all hM hh hj he⟩
    rintro ⟨i,hi,rfl⟩
    exact it_cn hM hh i
   ·
    rw [dF hc]
    left
    have hl:=hM.1
    refine ⟨(((it (fc μ) (k+1) h:Nat):Int),bset (4*n) (fun g=>S g || decide (∃j,j<k+1∧it (fc μ) j h=g))),?_,⟨k+1,rfl,fun i j hi hj=>?_⟩,?_⟩
    ·
     rw [Qz,kT,bB,qas,hmt.1,bB,turn3 _ (by omega),bB,Qb,bset_set hlt]
     congr 3
     refine qhm fun g hg=>?_
     by_cases e1:g=it (fc μ) k h
     · rw [dT e1,Za,dT ⟨k,by omega,e1.symm⟩,Zb]
     ·
      rw [dF e1,Y8]
      congr 1
      refine decide_eq_decide.mpr ⟨fun ⟨j,hj,e⟩=>⟨j,by omega,e⟩,fun ⟨j,hj,e⟩=>⟨j,?_,e⟩⟩
      rcases Xf j k with h | h
      · exact h
      ·
       obtain rfl:j=k:=by omega
       exact absurd e.symm e1
    ·
     rcases Xf j k with h | h
     · exact hd i j hi h
     ·
      obtain rfl:j=k:=by omega
      exact fun e=>hc ⟨i,hi,e⟩
    ·
     dsimp only
     have:=bset_count hlt (R:=fun g=>S g || decide (∃j,j<k∧it (fc μ) j h=g)) (by rw [hout k,dF hc]; rfl)
     have e:bset (4*n) (fun g=>S g || decide (∃j,j<k+1∧it (fc μ) j h=g))=bset (4*n) (fun g=>decide (g=it (fc μ) k h) || (S g || decide (∃j,j<k∧it (fc μ) j h=g))):=by
      refine qhm fun g hg=>?_
      by_cases e1:g=it (fc μ) k h
      · rw [dT e1,Za,dT ⟨k,by omega,e1.symm⟩,Zb]
      ·
       rw [dF e1,Y8]
       congr 1
       refine decide_eq_decide.mpr ⟨fun ⟨j,hj,e⟩=>⟨j,?_,e⟩,fun ⟨j,hj,e⟩=>⟨j,by omega,e⟩⟩
       rcases Xf j k with h | h
       · exact h
       ·
        obtain rfl:j=k:=by omega
        exact absurd e.symm e1
     rw [e]
     omega)
  m ((h:Int),bset (4*n) S) ⟨0,by simp [it],fun i j _ hj=>by omega⟩ (by
   dsimp only
   have:=List.countP_le_length (p:=fun b=>!b) (l:=bset (4*n) S)
   rw [bset_len] at this
   omega)
 exact ⟨v,by rw [h1,hv]⟩
open Classical in
noncomputable def before (adj:Nat→Nat→Prop) (k:Nat) (g:Nat):Bool:=decide (∃h,h<k∧Cn adj h g)
open Classical in
theorem before_zero (adj:Nat→Nat→Prop):before adj 0=fun _=>false:=by
 funext g
 unfold before
 exact dF (by rintro ⟨h,hh,_⟩; omega)
open Classical in
theorem before_closed {adj:Nat→Nat→Prop} {k a b:Nat} (h:before adj k a=true) (hab:adj a b):before adj k b=true:=by
 unfold before at*
 obtain ⟨h,hh,hc⟩:=of_decide_eq_true h
 exact dT ⟨h,hh,.step hc hab⟩
theorem before_rep {adj:Nat→Nat→Prop} {k:Nat}:before adj k k=false↔Rep adj k:=by
 unfold before Rep
 rw [decide_eq_false_iff_not]
 exact ⟨fun h g hg hc=>h ⟨g,hg,hc⟩,fun h ⟨g,hg,hc⟩=>h g hg hc⟩
open Classical in
theorem before_same {adj:Nat→Nat→Prop} (hs: ∀a b,adj a b→adj b a) {k:Nat} (h:before adj k k=true):before adj (k+1)=before adj k:=by
 unfold before at*
 obtain ⟨q,hq,hc⟩:=of_decide_eq_true h
 funext g
 refine decide_eq_decide.mpr ⟨fun ⟨j,hj,hjg⟩=>?_,fun ⟨j,hj,hjg⟩=>⟨j,by omega,hjg⟩⟩
 rcases Xf j k with h | h
 · exact ⟨j,h,hjg⟩
 ·
  obtain rfl:j=k:=by omega
  exact ⟨q,hq,hc.trans hjg⟩
open Classical in
theorem before_next {adj:Nat→Nat→Prop} {k:Nat}:before adj (k+1)=fun g=>before adj k g || decide (Cn adj k g):=by
 unfold before
 funext g
 rw [←Zy]
 refine decide_eq_decide.mpr ⟨fun ⟨j,hj,hjg⟩=>?_,?_⟩
 ·
  rcases Xf j k with h | h
  · exact .inl ⟨j,h,hjg⟩
  ·
   obtain rfl:j=k:=by omega
   exact .inr hjg
 ·
  rintro (⟨j,hj,h⟩ | h)
  · exact ⟨j,by omega,h⟩
  · exact ⟨k,by omega,h⟩
def adjP (n:Nat) (μ:Nat→Nat) (c d:Nat):Prop:=c<n∧d<n∧∃s,s<4∧μ (4*c+s)/ 4=d
theorem adjP_symm {n:Nat} {M:List Int} {μ:Nat→Nat} (hM:MT (4*n) M μ) (a b:Nat) (h:adjP n μ a b):adjP n μ b a:=by
 obtain ⟨h1,h2,s,hs,h3⟩:=h
 have:=hM.2 (4*a+s) (by omega)
 refine ⟨h2,h1,μ (4*a+s)%4,by omega,?_⟩
 rw [←h3,show 4*(μ (4*a+s)/ 4)+μ (4*a+s)%4=μ (4*a+s) from by omega,this.2.2.1]
 omega
def castL (l:List Nat):List Int:=l.map fun (k:Nat)=>(k:Int)
def nbr (μ:Nat→Nat) (c:Nat) (a:List Nat×(Nat→Bool)) (s:Nat):List Nat×(Nat→Bool):=
 if a.2 (μ (4*c+s)/ 4)=true then a else (a.1++[μ (4*c+s)/ 4],fun j=>decide (j=μ (4*c+s)/ 4) || a.2 j)
def nbrs (μ:Nat→Nat) (c:Nat) (a:List Nat×(Nat→Bool)) (m:Nat):List Nat×(Nat→Bool):=(List.range m).foldl (nbr μ c) a
theorem nbrs_succ (μ:Nat→Nat) (c:Nat) (a:List Nat×(Nat→Bool)) (m:Nat):nbrs μ c a (m+1)=nbr μ c (nbrs μ c a m) m:=by
 unfold nbrs
 rw [Xt,Y5]
 rfl
theorem nbrs_spec {n:Nat} {M:List Int} {μ:Nat→Nat} (hM:MT (4*n) M μ) {c:Nat} (hc:c<n) (l:List Nat) (R:Nat→Bool): ∀m,m≤4→∃new,
  (nbrs μ c (l,R) m).1=l++new∧(∀x∈new,R x=false∧x<n∧adjP n μ c x)∧(∀j,(nbrs μ c (l,R) m).2 j=true↔R j=true∨j∈new)∧(∀s,s<m→(nbrs μ c (l,R) m).2 (μ (4*c+s)/ 4)=true)∧
  (bset n (nbrs μ c (l,R) m).2).countP (fun b=>!b)+new.length=(bset n R).countP (fun b=>!b)∧new.length≤m:=by
 intro m
 induction m with
 | zero=>intro _; exact ⟨[],by simp [nbrs],by simp,by simp [nbrs],by omega,by simp [nbrs],by simp⟩
 | succ m ih=>
  intro hm
  obtain ⟨new,h1,h2,h3,h4,h5,h6⟩:=ih (by omega)
  rw [nbrs_succ]
  generalize nbrs μ c (l,R) m=a at*
  have hmt:=hM.2 (4*c+m) (by omega)
  have hx:μ (4*c+m)/ 4<n:=by omega
  unfold nbr
  by_cases hr:a.2 (μ (4*c+m)/ 4)=true
  ·
   rw [if_pos hr]
   refine ⟨new,h1,h2,h3,fun s hs=>?_,h5,by omega⟩
   rcases Xf s m with h | h
   · exact h4 s h
   ·
    obtain rfl:s=m:=by omega
    exact hr
  ·
   rw [if_neg hr]
   have hrf:a.2 (μ (4*c+m)/ 4)=false:=by simpa using hr
   have hRf:R (μ (4*c+m)/ 4)=false:=by
    cases hR:R (μ (4*c+m)/ 4) with
    | false=>rfl
    | true=>exact absurd ((h3 _).2 (.inl hR)) hr
   refine ⟨new++[μ (4*c+m)/ 4],by dsimp only; rw [h1,Ys],fun x hx'=>?_,fun j=>?_,fun s hs=>?_,?_,by simp; omega⟩
   ·
    rcases Qs.1 hx' with hx' | hx'
    · exact h2 x hx'
    ·
     rw [Qq] at hx'
     subst hx'
     exact ⟨hRf,hx,hc,hx,m,by omega,rfl⟩
   ·
    dsimp only
    rw [Yq,decide_eq_true_iff,h3 j,Qs,Qq]
    constructor
    ·
     rintro (h | h | h)
     · exact .inr (.inr h)
     · exact .inl h
     · exact .inr (.inl h)
    ·
     rintro (h | h | h)
     · exact .inr (.inl h)
     · exact .inr (.inr h)
     · exact .inl h
   ·
    dsimp only
    rcases Xf s m with h | h
    · rw [h4 s h,Zb]
    ·
     obtain rfl:s=m:=by omega
     rw [dT rfl,Za]
   ·
    dsimp only
    have:=bset_count hx hrf
    rw [Qr,Xa]
    omega
theorem castL_len (l:List Nat):(castL l).length=l.length:=by simp [castL]
structure PI (N:Nat) (f:Nat→Nat):Prop where
 lt: ∀a,a<N→f a<N
 inj: ∀a b,a<N→b<N→f a=f b→a=b
def adjI (N:Nat) (f:Nat→Nat) (a b:Nat):Prop:=a<N∧b<N∧(b=f a∨a=f b)
theorem adjI_symm {N:Nat} {f:Nat→Nat} (a b:Nat) (h:adjI N f a b):adjI N f b a:=⟨h.2.1,h.1,h.2.2.symm⟩
section
variable {N : Nat} {f : Nat → Nat} (P : PI N f)
include P
theorem PI.it {a:Nat} (ha:a<N) (k:Nat):Pg.it f k a<N:=by
 induction k with
 | zero=>exact ha
 | succ k ih=>exact P.lt _ ih
theorem PI.cn {a:Nat} (ha:a<N) (k:Nat):Cn (adjI N f) a (Pg.it f k a):=by
 induction k with
 | zero=>exact .refl _
 | succ k ih=>exact .step ih ⟨P.it ha k,P.lt _ (P.it ha k),.inl rfl⟩
theorem PI.back {a:Nat} (ha:a<N): ∀(j k:Nat),Pg.it f j a=Pg.it f (j+k) a→a=Pg.it f k a
 | 0,k,e=>by rw [Y3] at e; exact e
 | j+1,k,e=>by
  refine PI.back ha j k (P.inj _ _ (P.it ha _) (P.it ha _) ?_)
  rw [show j+1+k=(j+k)+1 from by omega] at e
  exact e
theorem PI.period {a:Nat} (ha:a<N): ∃L,0<L∧Pg.it f L a=a:=by
 have: ∃i j,i<j∧Pg.it f i a=Pg.it f j a:=by
  apply Classical.byContradiction
  intro hc
  have hn:((List.range (N+1)).map fun k=>Pg.it f k a).Nodup:=nodup_map Yc fun x _ y _ e=>by
   rcases Yk x y with h | h | h
   · exact absurd ⟨x,y,h,e⟩ hc
   · exact h
   · exact absurd ⟨y,x,h,e.symm⟩ hc
  have:=nodup_lt (N:=N) hn fun x hx=>by
   obtain ⟨k,_,rfl⟩:=Qo.1 hx
   exact P.it ha k
  rw [Qu,Qn] at this
  omega
 obtain ⟨i,j,hij,e⟩:=this
 exact ⟨j-i,by omega,(P.back ha i (j-i) (by rw [show i+(j-i)=j from by omega]; exact e)).symm⟩
theorem PI.fwd {a b:Nat} (ha:a<N) (h:Cn (adjI N f) a b): ∃k,Pg.it f k a=b:=by
 obtain ⟨L,hL,e⟩:=P.period ha
 refine Cn.closed (S:=fun b=> ∃k,Pg.it f k a=b) (fun x y=>?_) h ⟨0,rfl⟩
 rintro ⟨k,rfl⟩ ⟨h1,h2,h3 | h3⟩
 · exact ⟨k+1,h3.symm⟩
 ·
  cases k with
  | zero=>
   refine ⟨L-1,P.inj _ _ (P.it ha _) h2 ?_⟩
   rw [←h3]
   show Pg.it f (L-1+1) a=_
   rw [show L-1+1=L from by omega,e]
   rfl
  | succ k=>exact ⟨k,P.inj _ _ (P.it ha _) h2 h3⟩
end
open Classical in
noncomputable def cnt (N:Nat) (p:Nat→Prop):Nat:=((List.range N).filter (fun h=>decide (p h))).length
theorem cnt_succ_yes {N:Nat} {p:Nat→Prop} (h:p N):cnt (N+1) p=cnt N p+1:=by
 unfold cnt
 rw [Xt,Xj,Qr]
 simp [h]
theorem cnt_succ_no {N:Nat} {p:Nat→Prop} (h: ¬p N):cnt (N+1) p=cnt N p:=by
 unfold cnt
 rw [Xt,Xj,Qr]
 simp [h]
theorem cnt_le (N:Nat) (p:Nat→Prop):cnt N p≤N:=by
 induction N with
 | zero=>simp [cnt]
 | succ N ih=>
  by_cases h:p N
  · rw [cnt_succ_yes h]; omega
  · rw [cnt_succ_no h]; omega
structure IV (n:Nat) (μ:Nat→Nat):Prop where
 lt: ∀h,h<4*n→μ h<4*n
 inv: ∀h,h<4*n→μ (μ h)=h
theorem MT.iv {n:Nat} {M:List Int} {μ:Nat→Nat} (h:MT (4*n) M μ):IV n μ:=⟨fun k hk=>(h.2 k hk).2.1,fun k hk=>(h.2 k hk).2.2.1⟩
def addP (μ:Nat→Nat) (a b h:Nat):Nat:=if h=a then b else if h=b then a else μ h
section
variable {n : Nat} {μ : Nat → Nat} (h : IV n μ) {S : Nat → Prop} (hS : ∀ c d, S c → adjP n μ c d → S d)
include h hS
end
def iL (N:Nat) (f:Nat→Int):List Int:=(List.range N).map f
theorem iL_len (N:Nat) (f:Nat→Int):(iL N f).length=N:=by simp [iL]
theorem qcc {N:Nat} {f:Nat→Int} {k:Nat} (h:k<N):(iL N f)[k]? =some (f k):=by
 unfold iL
 rw [Qm,Qy h]; rfl
theorem iL_set {N:Nat} {f:Nat→Int} {k:Nat} {v:Int}:(iL N f).set k v=iL N (fun j=>if j=k then v else f j):=by
 apply Qw
 intro j
 rw [Yg]
 by_cases hj:j<N
 ·
  rw [qcc hj,qcc hj,iL_len]
  by_cases hk:k=j
  · subst hk; simp [hj]
  · rw [if_neg hk,if_neg (fun h=>hk h.symm)]
 ·
  rw [Qk (by rw [iL_len]; omega),Qk (by rw [iL_len]; omega),iL_len]
  split
  · rw [if_neg (by omega)]
  · rfl
theorem qcv {N:Nat} {f g:Nat→Int} (h: ∀k,k<N→f k=g k):iL N f=iL N g:=Xd fun k hk=>h k (Qg.1 hk)
theorem iL_rep (N:Nat) (v:Int):replicate N v=iL N (fun _=>v):=by
 apply Qw
 intro j
 rw [Xz]
 by_cases hj:j<N
 · rw [qcc hj,if_pos hj]
 · rw [Qk (by rw [iL_len]; omega),if_neg hj]
noncomputable def rp {adj:Nat→Nat→Prop} (hs: ∀a b,adj a b→adj b a) (c:Nat):Nat:=Classical.choose (rep_of hs c)
theorem rp_spec {adj:Nat→Nat→Prop} (hs: ∀a b,adj a b→adj b a) (c:Nat):rp hs c≤c∧Cn adj (rp hs c) c∧Rep adj (rp hs c):=Yy (rep_of hs c)
theorem rep_eq {adj:Nat→Nat→Prop} (hs: ∀a b,adj a b→adj b a) {r r':Nat} (h:Rep adj r) (h':Rep adj r') (hc:Cn adj r r'):r=r':=by
 rcases Yk r r' with q | q | q
 · exact absurd hc (h' r q)
 · exact q
 · exact absurd (hc.symm hs) (h r' q)
noncomputable def lab {adj:Nat→Nat→Prop} (hs: ∀a b,adj a b→adj b a) (c:Nat):Int:=(cls (rp hs c) adj:Int)
theorem cls_mono {adj:Nat→Nat→Prop} {a b:Nat} (h:a≤b):cls a adj≤cls b adj:=by
 induction b with
 | zero=>
      obtain rfl:a=0:=by omega
      exact Xb _
 | succ b ih=>
  rcases Xf a (b+1) with q | q
  ·
   have:=ih (by omega)
   by_cases hr:Rep adj b
   · rw [cls_succ_rep hr]; omega
   · rw [cls_succ_not hr]; exact this
  ·
   obtain rfl:a=b+1:=by omega
   exact Xb _
theorem cls_rep_lt {adj:Nat→Nat→Prop} {r b:Nat} (h:Rep adj r) (hb:r<b):cls r adj<cls b adj:=by
 have:=cls_mono (adj:=adj) (show r+1≤b from hb)
 rw [cls_succ_rep h] at this
 omega
theorem lab_rep {adj:Nat→Nat→Prop} (hs: ∀a b,adj a b→adj b a) {r c:Nat} (h:Rep adj r):lab hs c=(cls r adj:Int)↔Cn adj r c:=by
 obtain ⟨_,h2,h3⟩:=rp_spec hs c
 unfold lab
 constructor
 ·
  intro e
  have e:cls (rp hs c) adj=cls r adj:=by omega
  have:rp hs c=r:=by
   rcases Yk (rp hs c) r with q | q | q
   · have:=cls_rep_lt h3 q; omega
   · exact q
   · have:=cls_rep_lt h q; omega
  rw [←this]; exact h2
 ·
  intro q
  rw [rep_eq hs h h3 (q.trans (h2.symm hs))]
theorem lab_lt {adj:Nat→Nat→Prop} (hs: ∀a b,adj a b→adj b a) {c n:Nat} (hc:c<n):0≤lab hs c∧lab hs c<(cls n adj:Int):=by
 obtain ⟨h1,h2,h3⟩:=rp_spec hs c
 have:=cls_rep_lt (b:=n) h3 (by omega)
 unfold lab
 omega
def lbl (n:Nat) (o:Nat→Int) (v:Int) (S R:Nat→Bool):List Int:=iL n fun c=>if S c=true then o c else if R c=true then v else -1
theorem lbl_count {n:Nat} {o:Nat→Int} {v:Int} {S R:Nat→Bool} (ho: ∀c,0≤o c) (hv:0≤v) (hSR: ∀g,S g=true→R g=true):(lbl n o v S R).countP (fun x=>decide (x<0))=(bset n R).countP (fun b=>!b):=by
 unfold lbl iL bset
 rw [List.countP_map,List.countP_map]
 refine List.countP_congr fun c _=>?_
 show decide ((if S c=true then o c else if R c=true then v else -1)<0)=true↔(!R c)=true
 rw [decide_eq_true_iff]
 have:=ho c
 by_cases h1:S c=true
 · rw [if_pos h1,hSR c h1]; simp; omega
 ·
  rw [if_neg h1]
  by_cases h2:R c=true
  · rw [if_pos h2,h2]; simp; omega
  ·
   rw [if_neg h2]
   have:R c=false:=by simpa using h2
   rw [this]; simp
theorem lbl_add {n:Nat} {o:Nat→Int} {v:Int} {S R:Nat→Bool} {c:Nat} (hS: ¬S c=true):(lbl n o v S R).set c v=lbl n o v S (fun j=>decide (j=c) || R j):=by
 unfold lbl
 rw [iL_set]
 refine qcv fun j hj=>?_
 show (if j=c then v else (if S j=true then o j else if R j=true then v else -1))=(if S j=true then o j else if (decide (j=c) || R j)=true then v else -1)
 by_cases e:j=c
 · subst e; simp [hS]
 · simp [e]
theorem lbl_len (n:Nat) (o:Nat→Int) (v:Int) (S R:Nat→Bool):(lbl n o v S R).length=n:=iL_len _ _
theorem nbr_loop2 {n:Nat} {M:List Int} {μ:Nat→Nat} (hM:MT (4*n) M μ) (hn:n≤100) {c:Nat} (hc:c<n) (l:List Nat) (hl:l.length≤100000) (o:Nat→Int) (ho: ∀c,0≤o c) (v:Int) (hv:0≤v) (S R:Nat→Bool) (hSR: ∀g,S g=true→R g=true) (m:Nat) (hm:4<m) (m':Nat):
  loopN m (F.qfc m' M v (c:Int)) (castL l,0,lbl n o v S R)=some (castL (nbrs μ c (l,R) 4).1,((4:Nat):Int),lbl n o v S (nbrs μ c (l,R) 4).2):=by
 refine qba (fun k:Nat=>(castL (nbrs μ c (l,R) k).1,(k:Int),lbl n o v S (nbrs μ c (l,R) k).2)) 4 (fun k hk=>?_) ?_ m hm
 ·
  obtain ⟨new,h1,_,h3,_,_,h6⟩:=nbrs_spec hM hc l R k (by omega)
  have hlen:(nbrs μ c (l,R) k).1.length≤100004:=by rw [h1,Qr]; omega
  have hSR': ∀g,S g=true→(nbrs μ c (l,R) k).2 g=true:=fun g hg=>(h3 g).2 (.inl (hSR g hg))
  clear h1 h6 h3
  rw [nbrs_succ]
  generalize nbrs μ c (l,R) k=a at*
  have hmt:=hM.2 (4*c+k) (by omega)
  have hx:μ (4*c+k)/ 4<n:=by omega
  have ht:Int.tdiv ((μ (4*c+k):Nat):Int) 4=((μ (4*c+k)/ 4:Nat):Int):=Zh _ 4
  unfold F.qfc
  dsimp only
  have hget: ∀R',Ev.get (lbl n o v S R') ((μ (4*c+k)/ 4:Nat):Int)=some (if S (μ (4*c+k)/ 4)=true then o (μ (4*c+k)/ 4) else if R' (μ (4*c+k)/ 4)=true then v else -1):=fun R'=>by
   rw [qas]; exact qcc hx
  rw [dT (by omega),kT,qal (by omega) (by omega),bB,qal (by omega) (by omega),bB,show 4*(c:Int)+(k:Int)=((4*c+k:Nat):Int) from by omega,qas,hmt.1,bB,nz_ok (by decide),bB,ht,qal (by omega) (by omega),bB,hget,bB]
  unfold nbr
  cases hr:a.2 (μ (4*c+k)/ 4) with
  | true=>
   have hneg: ¬((if S (μ (4*c+k)/ 4)=true then o (μ (4*c+k)/ 4) else if true=true then v else -1)<0):=by
    have:=ho (μ (4*c+k)/ 4)
    split
    · omega
    · rw [if_pos rfl]; omega
   rw [dF hneg,kF,qal (by omega) (by omega),bB,if_pos rfl]
   rfl
  | false=>
   have hSf: ¬S (μ (4*c+k)/ 4)=true:=fun h=>by rw [hSR' _ h] at hr; cases hr
   rw [if_neg hSf,if_neg (by simp),dT (by decide),kT,bB,lim_ok (by rw [castL_len]; simp; omega),bB,qal (by omega) (by omega),bB,Qb,if_neg (by simp)]
   dsimp only
   have e:(lbl n o v S a.2).set (μ (4*c+k)/ 4) v=lbl n o v S (fun j=>decide (j=μ (4*c+k)/ 4) || a.2 j):=lbl_add hSf
   rw [e]
   unfold castL
   rw [Xn]
   rfl
 ·
  unfold F.qfc
  dsimp only
  rw [dF (by omega),kF]
open Classical in
theorem part_loop2 {n:Nat} {M:List Int} {μ:Nat→Nat} (hM:MT (4*n) M μ) (hn:n≤100) (o:Nat→Int) (ho: ∀c,0≤o c) (v:Int) (hv:0≤v) (S:Nat→Bool) (hS: ∀a b,S a=true→adjP n μ a b→S b=true) {c:Nat} (hc:c<n) (hx:S c=false) (m:Nat) (hm:300<m):
  loopN m (F.qdz m M v) ([(c:Int)],(lbl n o v S S).set c v)=some ([],lbl n o v S (fun g=>S g || decide (Cn (adjP n μ) c g))):=by
 have e0:(lbl n o v S S).set c v=lbl n o v S (fun g=>decide (g=c) || S g):=lbl_add (by rw [hx]; simp)
 rw [e0]
 obtain ⟨r,h1,h2⟩:=qbq (body:=F.qdz m M v)
  (fun s=> ∃(l:List Nat) (R:Nat→Bool),s=(castL l,lbl n o v S R)∧l.length+(bset n R).countP (fun b=>!b)≤1000∧(∀g,S g=true→R g=true)∧R c=true∧(∀g,R g=true→S g=true∨Cn (adjP n μ) c g)∧(∀x∈l,x<n∧R x=true∧Cn (adjP n μ) c x)∧(∀g,g<n→R g=true→S g=false→g∉l→∀d,adjP n μ g d→R d=true))
  (fun s=>s.1.length+2*s.2.countP (fun x=>decide (x<0)))
  (fun r=>r=([],lbl n o v S (fun g=>S g || decide (Cn (adjP n μ) c g))))
  (fun s hs=>by
   obtain ⟨l,R,rfl,hl,i1,i2,i3,i4,i5⟩:=hs
   cases l with
   | nil=>
    right
    unfold F.qdz
    dsimp only
    rw [show castL []=[] from rfl,dF (by simp),kF]
    refine ⟨_,rfl,?_⟩
    congr 1
    unfold lbl
    refine qcv fun g hg=>?_
    have:R g=(S g || decide (Cn (adjP n μ) c g)):=by
     rw [←Zs (R g),←Zs (S g || decide (Cn (adjP n μ) c g))]
     refine decide_eq_decide.mpr ⟨fun h=>?_,fun h=>?_⟩
     ·
      rcases i3 g h with h | h
      · rw [h,Za]
      · rw [dT h,Zb]
     ·
      rw [Yq,decide_eq_true_iff] at h
      rcases h with h | h
      · exact i1 g h
      ·
       refine (Cn.closed (S:=fun g=>g<n∧R g=true∧S g=false) (fun a b ha hab=>?_) h ⟨hc,i2,hx⟩).2.1
       refine ⟨hab.2.1,i5 a ha.1 ha.2.1 ha.2.2 (by simp) b hab,?_⟩
       cases hb:S b with
       | false=>rfl
       | true=>
        have:=hS b a hb (adjP_symm hM a b hab)
        rw [ha.2.2] at this; cases this
    rw [this]
   | cons x q=>
    left
    have hxm:=i4 x Ql
    have hlq:q.length≤999:=by rw [Xe] at hl; omega
    obtain ⟨new,n1,n2,n3,n4,n5,n6⟩:=nbrs_spec hM hxm.1 q R 4 (by omega)
    refine ⟨(castL (nbrs μ x (q,R) 4).1,lbl n o v S (nbrs μ x (q,R) 4).2),?_,⟨(nbrs μ x (q,R) 4).1,(nbrs μ x (q,R) 4).2,rfl,?_,?_,?_,?_,?_,?_⟩,?_⟩
    ·
     have e1:((castL (x::q)).length:Int)=(q.length:Int)+1:=by rw [castL_len]; simp
     have e2:Ev.get (castL (x::q)) 0=some (x:Int):=rfl
     have e3:(castL (x::q)).drop (1:Int).toNat=castL q:=rfl
     unfold F.qdz
     dsimp only
     rw [e1,dT (by omega),kT,e2,bB,cut_ok (by omega) (by omega) (by rw [e1]; omega),bB,e3,nbr_loop2 hM hn hxm.1 q (by omega) o ho v hv S R i1 m (by omega),bB]
    ·
     rw [n1,Qr]
     rw [Xe] at hl
     omega
    · exact fun g hg=>(n3 g).2 (.inl (i1 g hg))
    · exact (n3 c).2 (.inl i2)
    ·
     intro g hg
     rcases (n3 g).1 hg with h | h
     · exact i3 g h
     · exact .inr (.step hxm.2.2 (n2 g h).2.2)
    ·
     intro y hy
     rw [n1] at hy
     rcases Qs.1 hy with hy | hy
     ·
      have:=i4 y (Qf _ hy)
      exact ⟨this.1,(n3 y).2 (.inl this.2.1),this.2.2⟩
     · exact ⟨(n2 y hy).2.1,(n3 y).2 (.inr hy),.step hxm.2.2 (n2 y hy).2.2⟩
    ·
     intro g hg hR hSg hgl d hd
     rw [n1,Qs,not_or] at hgl
     rcases (n3 g).1 hR with h | h
     ·
      by_cases hgx:g=x
      ·
       subst hgx
       obtain ⟨_,_,s,hs,rfl⟩:=hd
       exact n4 s hs
      ·
       refine (n3 d).2 (.inl (i5 g hg h hSg ?_ d hd))
       rw [Qp,not_or]
       exact ⟨hgx,hgl.1⟩
     · exact absurd h hgl.2
    ·
     dsimp only
     rw [lbl_count ho hv i1,lbl_count ho hv (fun g hg=>(n3 g).2 (.inl (i1 g hg))),castL_len,castL_len,n1,Qr,Xe]
     omega)
  m ([(c:Int)],lbl n o v S (fun g=>decide (g=c) || S g)) ⟨[c],fun g=>decide (g=c) || S g,rfl,by have:=(bset n (fun g=>decide (g=c) || S g)).countP_le_length (p:=fun b=>!b); rw [bset_len] at this; simp only [Xa]; omega,fun g hg=>by show (decide (g=c) || S g)=true; rw [hg,Zb],by simp,fun g hg=>by
    rw [Yq,decide_eq_true_iff] at hg
    rcases hg with rfl | hg
    · exact .inr (.refl _)
    · exact .inl hg,fun x hx=>by
    rw [Qq] at hx
    subst hx
    exact ⟨hc,by simp,.refl _⟩,fun g hg hR hSg hgl=>by
    rw [Yq,decide_eq_true_iff] at hR
    rcases hR with rfl | hR
    · exact absurd (List.mem_singleton_self _) hgl
    · rw [hSg] at hR; cases hR⟩ (by
   dsimp only
   have:=(lbl n o v S (fun g=>decide (g=c) || S g)).countP_le_length (p:=fun x=>decide (x<0))
   rw [lbl_len] at this
   simp only [Xa]
   omega)
 rw [h1,h2]
open Classical in
theorem label_eq {n:Nat} {M sg:List Int} {μ:Nat→Nat} (hM:MT (4*n) M μ) (hn:n≤64) (hsg:sg.length=n) (lo:Int) (m:Nat) (hm:300<m):
  F.qgi m sg M lo=some (iL n (lab (adjP_symm hM)),(cls n (adjP n μ):Int)):=by
 have hsl:((replicate (sg.length:Int).toNat (0:Int)).length:Int)=(n:Int):=by rw [Qv,hsg]; simp
 have hl0:loopN m (F.qff m sg) (0,replicate (sg.length:Int).toNat (0:Int))=some ((n:Int),iL n (fun _=>-1)):=by
  have h0:((0:Int),replicate (sg.length:Int).toNat (0:Int))=(fun k:Nat=>((k:Int),iL n (fun c=>if c<k then -1 else 0))) 0:=by
   rw [hsg,Qb,iL_rep]
   dsimp only
   congr 1
  rw [h0]
  refine qba (fun k:Nat=>((k:Int),iL n (fun c=>if c<k then -1 else 0))) n (fun k hk=>?_) ?_ m (by omega)
  ·
   unfold F.qff
   dsimp only
   rw [hsl,dT (by omega),kT,qas,qcc hk,bB,qal (by omega) (by omega),bB,Qb,iL_set]
   rw [show ((k:Int)+1)=((k+1:Nat):Int) from by omega]
   congr 3
   refine qcv fun j hj=>?_
   by_cases e:j=k
   · subst e; rw [if_pos rfl,if_pos (by omega)]
   ·
    rw [if_neg e]
    by_cases h:j<k
    · rw [if_pos h,if_pos (by omega)]
    · rw [if_neg h,if_neg (by omega)]
  ·
   unfold F.qff
   dsimp only
   rw [hsl,dF (by omega),kF]
   congr 3
   refine qcv fun j hj=>by rw [if_pos hj]
 have hs:=adjP_symm hM
 have hl1:loopN m (F.qfd m sg M) (0,0,iL n (fun _=>-1))=some ((cls n (adjP n μ):Int),(n:Int),iL n (lab hs)):=by
  have h0:((0:Int),(0:Int),iL n (fun _=>-1))=(fun k:Nat=>((cls k (adjP n μ):Int),(k:Int),iL n (fun c=>if before (adjP n μ) k c=true then lab hs c else -1))) 0:=by
   dsimp only
   rw [before_zero]
   rfl
  have he:((cls n (adjP n μ):Int),(n:Int),iL n (lab hs))=(fun k:Nat=>((cls k (adjP n μ):Int),(k:Int),iL n (fun c=>if before (adjP n μ) k c=true then lab hs c else -1))) n:=by
   dsimp only
   congr 2
   refine qcv fun c hc=>?_
   obtain ⟨q1,q2,_⟩:=rp_spec hs c
   rw [if_pos]
   unfold before
   exact dT ⟨_,by omega,q2⟩
  rw [h0,he]
  refine qba (fun k:Nat=>((cls k (adjP n μ):Int),(k:Int),iL n (fun c=>if before (adjP n μ) k c=true then lab hs c else -1))) n (fun k hk=>?_) ?_ m (by omega)
  ·
   have hc:=cls_le k (adjP n μ)
   have hlo: ∀c,0≤lab hs c:=fun c=>by unfold lab; omega
   unfold F.qfd
   dsimp only
   rw [hsl,dT (by omega),kT,qas,qcc hk,bB]
   cases hb:before (adjP n μ) k k with
   | true=>
    have hr: ¬Rep (adjP n μ) k:=fun h=>by rw [before_rep.2 h] at hb; cases hb
    have:=hlo k
    rw [if_pos rfl,dT this,kT,qal (by omega) (by omega),bB,before_same hs hb,cls_succ_not hr]
    rfl
   | false=>
    have hr:Rep (adjP n μ) k:=before_rep.1 hb
    have hpl:=part_loop2 hM (by omega) (lab hs) hlo (cls k (adjP n μ):Int) (by omega) (before (adjP n μ) k) (fun a b=>before_closed) hk hb m hm
    have e1:iL n (fun c=>if before (adjP n μ) k c=true then lab hs c else -1)=lbl n (lab hs) (cls k (adjP n μ):Int) (before (adjP n μ) k) (before (adjP n μ) k):=by
     unfold lbl
     refine qcv fun c _=>?_
     split
     · rfl
     · rfl
    rw [if_neg (by simp),dF (by decide),kF,bB,Qb,e1,hpl,bB]
    dsimp only
    rw [qal (by omega) (by omega),bB,qal (by omega) (by omega),bB,cls_succ_rep hr,←before_next]
    have e2:lbl n (lab hs) (cls k (adjP n μ):Int) (before (adjP n μ) k) (before (adjP n μ) (k+1))=iL n (fun c=>if before (adjP n μ) (k+1) c=true then lab hs c else -1):=by
     unfold lbl
     refine qcv fun c _=>?_
     by_cases q:before (adjP n μ) k c=true
     · rw [if_pos q,if_pos (by rw [before_next]; dsimp only; rw [q,Za])]
     ·
      rw [if_neg q]
      by_cases q2:before (adjP n μ) (k+1) c=true
      ·
       rw [if_pos q2,if_pos q2]
       have:Cn (adjP n μ) k c:=by
        rw [before_next] at q2
        have q3:(before (adjP n μ) k c || decide _)=true:=q2
        rw [Yq,decide_eq_true_iff] at q3
        rcases q3 with q3 | q3
        · exact absurd q3 q
        · exact q3
       exact ((lab_rep hs hr).2 this).symm
      · rw [if_neg q2,if_neg q2]
    rw [e2]
    rfl
  ·
   unfold F.qfd
   dsimp only
   rw [hsl,dF (by omega),kF]
 unfold F.qgi
 rw [qdw (by omega) (by omega),bB,hl0,bB]
 dsimp only
 rw [hl1,bB]

noncomputable def sphN {n:Nat} {M:List Int} {μ:Nat→Nat} (hM:MT (4*n) M μ) (p:Nat):Int:=-(cnt n (fun c=>lab (adjP_symm hM) c=(p:Int)):Int)+(cnt (4*n) (fun h=>lab (adjP_symm hM) (h/ 4)=(p:Int)∧Rep (adjF n μ) h):Int)
theorem spherical_eq {n:Nat} {M sg:List Int} {μ:Nat→Nat} (hM:MT (4*n) M μ) (hn:n≤64) (hsg:sg.length=n) (lo:Int) (m:Nat) (hm:300<m):
  F.qdo m sg M lo=some (decide (∀p,p<cls n (adjP n μ)→sphN hM p=2)):=by
 have hs:=adjP_symm hM
 have hP:=cls_le n (adjP n μ)
 have hl:=hM.1
 unfold F.qdo
 rw [label_eq hM hn hsg lo m hm,bB]
 dsimp only
 rw [qdw (by omega) (by omega),bB,Qb]
 have lb: ∀{c:Nat},c<n→∃p:Nat,lab hs c=(p:Int)∧p<cls n (adjP n μ):=fun {c} hc=>by
  have:=lab_lt hs hc
  exact ⟨(lab hs c).toNat,by omega,by omega⟩
 have h1:loopN m (F.qdm m (iL n (lab hs),(cls n (adjP n μ):Int))) (0,replicate (cls n (adjP n μ)) (0:Int))=some ((n:Int),iL (cls n (adjP n μ)) (fun p=>-(cnt n (fun c=>lab hs c=(p:Int)):Int))):=by
  have h0:((0:Int),replicate (cls n (adjP n μ)) (0:Int))=(fun k:Nat=>((k:Int),iL (cls n (adjP n μ)) (fun p=>-(cnt k (fun c=>lab hs c=(p:Int)):Int)))) 0:=by
   rw [iL_rep]; rfl
  rw [h0]
  refine qba (fun k:Nat=>((k:Int),iL (cls n (adjP n μ)) (fun p=>-(cnt k (fun c=>lab hs c=(p:Int)):Int)))) n (fun k hk=>?_) ?_ m (by omega)
  ·
   obtain ⟨q,hq1,hq2⟩:=lb hk
   have hb:=cnt_le k (fun c=>lab hs c=(q:Int))
   unfold F.qdm
   dsimp only
   rw [iL_len,dT (by omega),kT,qas,qcc hk,bB,hq1,qas,qcc hq2,bB,qal (by omega) (by omega),bB,bB,qal (by omega) (by omega),bB,Qb,iL_set]
   rw [show ((k:Int)+1)=((k+1:Nat):Int) from by omega]
   congr 3
   refine qcv fun p hp=>?_
   by_cases e:p=q
   ·
    subst e
    rw [if_pos rfl,cnt_succ_yes (p:=fun c=>lab hs c=(p:Int)) hq1]
    omega
   · rw [if_neg e,cnt_succ_no (p:=fun c=>lab hs c=(p:Int)) (fun h=>e (by rw [hq1] at h; omega))]
  ·
   unfold F.qdm
   dsimp only
   rw [iL_len,dF (by omega),kF]
 rw [h1,bB]
 dsimp only
 rw [qdw (by omega) (by omega),bB]
 have h2:loopN m (F.qdl m M (iL n (lab hs),(cls n (adjP n μ):Int))) (0,iL (cls n (adjP n μ)) (fun p=>-(cnt n (fun c=>lab hs c=(p:Int)):Int)),replicate (M.length:Int).toNat false)=
   some (((4*n:Nat):Int),iL (cls n (adjP n μ)) (fun p=>-(cnt n (fun c=>lab hs c=(p:Int)):Int)+(cnt (4*n) (fun h=>lab hs (h/ 4)=(p:Int)∧Rep (adjF n μ) h):Int)),bset (4*n) (before (adjF n μ) (4*n))):=by
  have h0:((0:Int),iL (cls n (adjP n μ)) (fun p=>-(cnt n (fun c=>lab hs c=(p:Int)):Int)),replicate (M.length:Int).toNat false)=
    (fun k:Nat=>((k:Int),iL (cls n (adjP n μ)) (fun p=>-(cnt n (fun c=>lab hs c=(p:Int)):Int)+(cnt k (fun h=>lab hs (h/ 4)=(p:Int)∧Rep (adjF n μ) h):Int)),bset (4*n) (before (adjF n μ) k))) 0:=by
   rw [Qb,bset_rep,hM.1]
   dsimp only
   rw [before_zero]
   congr 2
   refine qcv fun p _=>?_
   show _=_+((0:Nat):Int)
   omega
  rw [h0]
  refine qba (fun k:Nat=>((k:Int),iL (cls n (adjP n μ)) (fun p=>-(cnt n (fun c=>lab hs c=(p:Int)):Int)+(cnt k (fun h=>lab hs (h/ 4)=(p:Int)∧Rep (adjF n μ) h):Int)),bset (4*n) (before (adjF n μ) k))) (4*n) (fun k hk=>?_) ?_ m (by omega)
  ·
   obtain ⟨q,hq1,hq2⟩:=lb (show k/ 4<n by omega)
   have hb1:=cnt_le n (fun c=>lab hs c=(q:Int))
   have hb2:=cnt_le k (fun h=>lab hs (h/ 4)=(q:Int)∧Rep (adjF n μ) h)
   have ht:Int.tdiv ((k:Nat):Int) 4=((k/ 4:Nat):Int):=Zh _ 4
   unfold F.qdl
   dsimp only
   rw [dT (by omega),kT,qas,bset_get hk,bB]
   cases hbf:before (adjF n μ) k k with
   | true=>
    have hr: ¬Rep (adjF n μ) k:=fun h=>by rw [before_rep.2 h] at hbf; cases hbf
    rw [kT,qal (by omega) (by omega),bB,before_same adjF_symm hbf]
    rw [show ((k:Int)+1)=((k+1:Nat):Int) from by omega]
    congr 4
    refine qcv fun p _=>?_
    rw [cnt_succ_no (p:=fun h=>lab hs (h/ 4)=(p:Int)∧Rep (adjF n μ) h) (fun h=>hr h.2)]
   | false=>
    have hr:Rep (adjF n μ) k:=before_rep.1 hbf
    obtain ⟨v,hv⟩:=face_loop hM (by omega) (before (adjF n μ) k) (fun a b=>before_closed) hk hbf m (by omega) m
    rw [kF,nz_ok (by decide),bB,ht,qal (by omega) (by omega),bB,qas,qcc (show k/ 4<n by omega),bB,hq1,qas,qcc hq2,bB,qal (by omega) (by omega),bB,bB,hv,bB]
    dsimp only
    rw [qal (by omega) (by omega),bB,←before_next,Qb,iL_set]
    rw [show ((k:Int)+1)=((k+1:Nat):Int) from by omega]
    congr 4
    refine qcv fun p hp=>?_
    by_cases e:p=q
    ·
     subst e
     rw [if_pos rfl,cnt_succ_yes (p:=fun h=>lab hs (h/ 4)=(p:Int)∧Rep (adjF n μ) h) ⟨hq1,hr⟩]
     omega
    · rw [if_neg e,cnt_succ_no (p:=fun h=>lab hs (h/ 4)=(p:Int)∧Rep (adjF n μ) h) (fun h=>e (by have:=h.1; rw [hq1] at this; omega))]
  ·
   unfold F.qdl
   dsimp only
   rw [dF (by omega),kF]
 rw [h2,bB]
 dsimp only
 by_cases hall: ∀p,p<cls n (adjP n μ)→sphN hM p=2
 ·
  have two: ∀p,p<cls n (adjP n μ)→-(cnt n (fun c=>lab hs c=(p:Int)):Int)+(cnt (4*n) (fun h=>lab hs (h/ 4)=(p:Int)∧Rep (adjF n μ) h):Int)=2:=hall
  rw [dT hall]
  have h3:=scan_loop (body:=F.qbz m (iL n (lab hs),(cls n (adjP n μ):Int)) (iL (cls n (adjP n μ)) (fun p=>-(cnt n (fun c=>lab hs c=(p:Int)):Int)+(cnt (4*n) (fun h=>lab hs (h/ 4)=(p:Int)∧Rep (adjF n μ) h):Int)))) (fun k=>(k:Int)) (cls n (adjP n μ)) (fun k=>(none:Option Bool)) (e:=(cls n (adjP n μ):Int)) (fun k hk=>by
   unfold F.qbz
   dsimp only
   rw [Qv,Qb,dT (by omega),kT,qas,qcc hk,bB,two k hk,dT rfl,Qi,kF,qal (by omega) (by omega),bB]
   rfl) (by
   unfold F.qbz
   dsimp only
   rw [Qv,Qb,dF (by omega),kF]) m (by omega)
  rw [show (0:Int)=(fun k:Nat=>(k:Int)) 0 from rfl,h3,findSome_none (fun _ _=>rfl)]
  rfl
 ·
  rw [dF hall]
  have h3:=scan_loop (body:=F.qbz m (iL n (lab hs),(cls n (adjP n μ):Int)) (iL (cls n (adjP n μ)) (fun p=>-(cnt n (fun c=>lab hs c=(p:Int)):Int)+(cnt (4*n) (fun h=>lab hs (h/ 4)=(p:Int)∧Rep (adjF n μ) h):Int)))) (fun k=>(k:Int)) (cls n (adjP n μ)) (fun k=>if sphN hM k=2 then none else some false) (e:=(cls n (adjP n μ):Int)) (fun k hk=>by
   unfold F.qbz
   dsimp only
   rw [Qv,Qb,dT (by omega),kT,qas,qcc hk,bB]
   by_cases e:sphN hM k=2
   ·
    rw [if_pos e,dT (show -(cnt n (fun c=>lab hs c=(k:Int)):Int)+(cnt (4*n) (fun h=>lab hs (h/ 4)=(k:Int)∧Rep (adjF n μ) h):Int)=2 from e),Qi,kF,qal (by omega) (by omega),bB]
    rfl
   · rw [if_neg e,dF (show¬-(cnt n (fun c=>lab hs c=(k:Int)):Int)+(cnt (4*n) (fun h=>lab hs (h/ 4)=(k:Int)∧Rep (adjF n μ) h):Int)=2 from e),Qz,kT]; done) (by
   unfold F.qbz
   dsimp only
   rw [Qv,Qb,dF (by omega),kF]) m (by omega)
  rw [show (0:Int)=(fun k:Nat=>(k:Int)) 0 from rfl,h3]
  cases hf:(List.range (cls n (adjP n μ))).findSome? fun k=>if sphN hM k=2 then none else some false with
  | none=>
   refine absurd (fun p hp=>?_) hall
   have:=Ya.1 hf p (Qg.2 hp)
   by_cases e:sphN hM p=2
   · exact e
   · rw [if_neg e] at this; cases this
  | some q=>
   obtain ⟨k,_,hk⟩:=Yb hf
   split at hk
   · cases hk
   · injection hk with hk; subst hk; rfl
def Outg (sg:List Int) (h:Nat):Prop:=h%4=2∨(h%4=1∧sg.getD (h/ 4) 0=1)∨(h%4=3∧sg.getD (h/ 4) 0=-1)
instance (sg:List Int) (h:Nat):Decidable (Outg sg h):=by unfold Outg; infer_instance
theorem outg_eq {sg:List Int} {h:Nat} (hh:h<4*sg.length) (hs:sg.length≤64) (M:List Int) (lo:Int) (m:Nat):F.qeb m sg M lo (h:Int)=some (decide (Outg sg h)):=by
 have e1:Int.tmod (h:Int) 4=((h%4:Nat):Int):=Y4 h 4
 have e2:Int.tdiv (h:Int) 4=((h/ 4:Nat):Int):=Zh h 4
 have hl:h/ 4<sg.length:=by omega
 have hO:Outg sg h↔h%4=2∨(h%4=1∧sg[h/ 4]=1)∨(h%4=3∧sg[h/ 4]=-1):=by unfold Outg; rw [getD_of' hl]
 unfold F.qeb
 rw [nz_ok (by decide),bB,e1,e2]
 by_cases c1:h%4=1
 ·
  rw [dT (by omega),kT,bB,qal (by omega) (by omega),bB,qas,gE hl,bB]
  refine congrArg some (decide_eq_decide.mpr ?_)
  rw [hO]
  omega
 rw [dF (by omega),kF]
 by_cases c2:h%4=2
 ·
  rw [dT (by omega),kT]
  exact congrArg some (dT (hO.2 (.inl c2))).symm
 rw [dF (by omega),kF]
 by_cases c3:h%4=3
 ·
  rw [dT (by omega),kT,bB,qal (by omega) (by omega),bB,qas,gE hl,bB]
  refine congrArg some (decide_eq_decide.mpr ?_)
  rw [hO]
  omega
 ·
  rw [dF (by omega),kF]
  exact congrArg some (dF (fun h=>by have:=hO.1 h; omega)).symm
structure DV (sg M:List Int) (lo:Int) (μ:Nat→Nat):Prop where
 n:sg.length≤64
 lo0:0≤lo
 lo1:lo≤64
 sgn: ∀s∈sg,s=1∨s=-1
 mt:MT (4*sg.length) M μ
 out: ∀h,h<4*sg.length→(Outg sg (μ h)↔¬Outg sg h)
 sp: ∀p,p<cls sg.length (adjP sg.length μ)→sphN mt p=2
theorem dvalid_true {sg M:List Int} {lo:Int} {μ:Nat→Nat} (D:DV sg M lo μ) (m:Nat) (hm:300<m):F.qca m sg M lo=some true:=by
 have h64:=D.n
 have hl:=D.mt.1
 have h1:=D.lo0
 have h2:=D.lo1
 have hsg:loopN m (F.qdi m sg) 0=some (.inl (sg.length:Int)):=by
  have:=gv_signs sg m (by omega) h64
  rw [if_pos D.sgn] at this
  exact this
 have hb1:=scan_loop (body:=F.qbt m sg M lo) (fun k=>(k:Int)) (4*sg.length) (fun k=>(none:Option Bool)) (e:=((4*sg.length:Nat):Int)) (fun k hk=>by
  obtain ⟨q1,q2,q3,q4⟩:=D.mt.2 k hk
  obtain ⟨r1,_⟩:=D.mt.2 _ q2
  have ho:=D.out k hk
  unfold F.qbt
  dsimp only
  rw [dT (by omega),kT,qas,q1,bB,dF (by omega),kF,qal (by omega) (by omega),bB,dF (by omega),kF,dF (by omega),kF,qas,r1,bB,q3,dT rfl,Qi,kF,outg_eq hk h64,bB,outg_eq q2 h64,bB]
  have:(decide (Outg sg k) == decide (Outg sg (μ k)))=false:=by
   by_cases c:Outg sg k
   ·
    have: ¬Outg sg (μ k):=fun h=>ho.1 h c
    simp [c,this]
   ·
    have:Outg sg (μ k):=ho.2 c
    simp [c,this]
  rw [this,kF,qal (by omega) (by omega),bB]
  rfl) (by
  unfold F.qbt
  dsimp only
  rw [dF (by omega),kF]) m (by omega)
 unfold F.qca
 rw [dF (by omega),kF,qal (by omega) (by omega),bB,dT (by omega),Qi,kF,dF (by omega),kF,dF (by omega),kF,hsg,bB]
 dsimp only
 rw [show (0:Int)=(fun k:Nat=>(k:Int)) 0 from rfl,hb1,findSome_none (fun _ _=>rfl),bB]
 dsimp only
 rw [spherical_eq D.mt h64 rfl lo m hm,bB,dT D.sp]
theorem turn2 (h:Nat) (hh:h≤1000000) (n:Nat):F.qep n (h:Int) 2=some ((turnN h 2:Nat):Int):=by
 have e1:Int.tmod (h:Int) 4=((h%4:Nat):Int):=Y4 h 4
 have e2:Int.tmod 2 4=2:=by decide
 have e3:Int.tmod (((h%4:Nat):Int)+2+4) 4=(((h%4+2)%4:Nat):Int):=by
  rw [show ((h%4:Nat):Int)+2+4=((h%4+6:Nat):Int) from by omega]
  rw [show (4:Int)=((4:Nat):Int) from rfl,←Y4]
  omega
 unfold F.qep turnN
 rw [dF (by omega),kF,nz_ok (by decide),bB,e1,qal (by omega) (by omega),bB,bB,bB,e2,qal (by omega) (by omega),bB,qal (by omega) (by omega),bB,bB,e3,qal (by omega) (by omega),bB]
 congr 1
 omega
def nx (μ:Nat→Nat) (h:Nat):Nat:=turnN (μ h) 2
theorem IV.pn {n:Nat} {μ:Nat→Nat} (h:IV n μ):PI (4*n) (nx μ):=
 ⟨fun a ha=>turnN_lt (h.lt a ha),fun a b ha hb e=>by rw [←h.inv a ha,turnN_inj e,h.inv b hb]⟩
noncomputable def per {N:Nat} {f:Nat→Nat} (P:PI N f) (a:Nat) (ha:a<N):Nat:=Classical.choose (least_of (p:=fun L=>0<L∧it f L a=a) (Yy (P.period ha)))
theorem per_spec {N:Nat} {f:Nat→Nat} (P:PI N f) {a:Nat} (ha:a<N):(0<per P a ha∧it f (per P a ha) a=a)∧∀j,j<per P a ha→¬(0<j∧it f j a=a):=by
 have h:=Yy (least_of (p:=fun L=>0<L∧it f L a=a) (Yy (P.period ha)))
 exact ⟨h.1,h.2.2⟩
theorem per_le {N:Nat} {f:Nat→Nat} (P:PI N f) {a:Nat} (ha:a<N):per P a ha≤N:=by
 have hn:((List.range (per P a ha)).map fun k=>it f k a).Nodup:=nodup_map Yc fun x hx y hy e=>by
  have hx:=Qg.1 hx
  have hy:=Qg.1 hy
  have key: ∀x y,x<y→y<per P a ha→it f x a=it f y a→False:=fun x y h h2 e=>(per_spec P ha).2 (y-x) (by omega) ⟨by omega,(P.back ha x (y-x) (by rw [show x+(y-x)=y from by omega]; exact e)).symm⟩
  rcases Yk x y with h | h | h
  · exact (key x y h hy e).elim
  · exact h
  · exact (key y x h hx e.symm).elim
 have:=nodup_lt (N:=N) hn fun x hx=>by
  obtain ⟨k,_,rfl⟩:=Qo.1 hx
  exact P.it ha k
 rwa [Qu,Qn] at this
theorem per_all {N:Nat} {f:Nat→Nat} (P:PI N f) {a:Nat} (ha:a<N) (g:Nat):(∃i,i<per P a ha∧it f i a=g)↔Cn (adjI N f) a g:=by
 constructor
 · rintro ⟨i,_,rfl⟩; exact P.cn ha i
 ·
  intro h
  obtain ⟨k,rfl⟩:=P.fwd ha h
  obtain ⟨⟨h1,h2⟩,_⟩:=per_spec P ha
  refine ⟨k%per P a ha,Nat.mod_lt _ h1,?_⟩
  have e: ∀q r,it f (per P a ha*q+r) a=it f r a:=by
   intro q
   induction q with
   | zero=>intro r; simp
   | succ q ih=>
    intro r
    rw [Nat.mul_succ,Z0,ih]
    have: ∀r,it f (per P a ha+r) a=it f r a:=by
     intro r
     induction r with
     | zero=>exact h2
     | succ r ih=>show f _=f _; rw [←ih]; rfl
    exact this r
  conv=>rhs; rw [←Nat.div_add_mod k (per P a ha),e]
def cyc {N:Nat} {f:Nat→Nat} (m:Nat) (a:Nat):List Int:=(List.range m).map fun k=>((it f k a:Nat):Int)
theorem cycle_eq {n:Nat} {M sg:List Int} {μ:Nat→Nat} (hM:MT (4*n) M μ) (hn:n≤64) {h:Nat} (hh:h<4*n) (lo:Int) (m:Nat) (hm:300<m):
  F.qcb m (h:Int) sg M lo=some (cyc (N:=4*n) (f:=nx μ) (per hM.iv.pn h hh) h):=by
 have P:=hM.iv.pn
 have hc2: ∀x,x<4*n→F.qee m (x:Int) sg M lo=some ((nx μ x:Nat):Int):=by
  intro x hx
  obtain ⟨q1,q2,_,_⟩:=hM.2 x hx
  unfold F.qee F.qho
  rw [qas,q1,bB,turn2 _ (by omega),bB,bB]
  rfl
 obtain ⟨⟨h1,h2⟩,h3⟩:=per_spec P hh
 have hpl:=per_le P hh
 unfold F.qcb
 rw [hc2 h hh,bB]
 have h0:(([(h:Int)]:List Int),((nx μ h:Nat):Int))=(fun k:Nat=>(cyc (N:=4*n) (f:=nx μ) (k+1) h,((it (nx μ) (k+1) h:Nat):Int))) 0:=by
  simp [cyc,it]
 have hl:loopN m (F.qbl m (h:Int) sg M lo) ([(h:Int)],((nx μ h:Nat):Int))=some (cyc (N:=4*n) (f:=nx μ) (per P h hh) h,(h:Int)):=by
  rw [h0]
  refine qba (fun k:Nat=>(cyc (N:=4*n) (f:=nx μ) (k+1) h,((it (nx μ) (k+1) h:Nat):Int))) (per P h hh-1) (fun k hk=>?_) ?_ m (by omega)
  ·
   have hne:it (nx μ) (k+1) h≠h:=fun e=>h3 (k+1) (by omega) ⟨by omega,e⟩
   unfold F.qbl
   dsimp only
   rw [dF (by omega),Qz,kT,lim_ok (by simp [cyc]; omega),bB,hc2 _ (P.it hh _),bB]
   congr 3
   unfold cyc
   rw [Xt (n:=k+1),Xn]
   rfl
  ·
   have e:per P h hh-1+1=per P h hh:=by omega
   unfold F.qbl
   dsimp only
   rw [e,h2,dT rfl,Qi,kF]
 rw [hl,bB]
open Classical in
noncomputable def strs {n:Nat} {M:List Int} {μ:Nat→Nat} (hM:MT (4*n) M μ) (sg:List Int) (k:Nat):List (List Int):=
 ((List.range k).filter fun h=>decide (Outg sg h∧Rep (adjI (4*n) (nx μ)) h)).map fun h=>if hh:h<4*n then cyc (N:=4*n) (f:=nx μ) (per hM.iv.pn h hh) h else []
theorem strs_len {n:Nat} {M:List Int} {μ:Nat→Nat} (hM:MT (4*n) M μ) (sg:List Int) (k:Nat):(strs hM sg k).length=cnt k (fun h=>Outg sg h∧Rep (adjI (4*n) (nx μ)) h):=by
 unfold strs cnt
 rw [Qu]
 exact congrArg List.length (Yl fun x _=>decide_eq_decide.mpr Iff.rfl)
theorem outg_nx {sg M:List Int} {lo:Int} {μ:Nat→Nat} (D:DV sg M lo μ) {h:Nat} (hh:h<4*sg.length):Outg sg (nx μ h)↔Outg sg h:=by
 have ho:=D.out h hh
 have hl:=(D.mt.2 h hh).2.1
 have opp: ∀x,x<4*sg.length→(Outg sg (turnN x 2)↔¬Outg sg x):=by
  intro x hx
  have hs:=D.sgn _ (Qj (show x/ 4<sg.length by omega))
  unfold Outg
  rw [show turnN x 2/ 4=x/ 4 from by unfold turnN; omega,getD_of' (show x/ 4<sg.length by omega)]
  have:turnN x 2%4=(x%4+2)%4:=by unfold turnN; omega
  rw [this]
  omega
 unfold nx
 rw [opp _ hl,ho]
 exact Classical.not_not
theorem outg_cn {sg M:List Int} {lo:Int} {μ:Nat→Nat} (D:DV sg M lo μ) {a b:Nat} (h:Cn (adjI (4*sg.length) (nx μ)) a b):Outg sg a↔Outg sg b:=by
 have: ∀a b,Cn (adjI (4*sg.length) (nx μ)) a b→Outg sg a→Outg sg b:=fun a b h ha=>Cn.closed (S:=fun x=>Outg sg x) (fun x y hx hxy=>by
  obtain ⟨h1,h2,h3 | h3⟩:=hxy
  · rw [h3]; exact (outg_nx D h1).2 hx
  · rw [h3] at hx; exact (outg_nx D h2).1 hx) h ha
 exact ⟨this a b h,this b a (h.symm adjI_symm)⟩
open Classical in
theorem strands_eq {sg M:List Int} {lo:Int} {μ:Nat→Nat} (D:DV sg M lo μ) (m:Nat) (hm:500<m):F.qfo m sg M lo=some (strs D.mt sg (4*sg.length)):=by
 have h64:=D.n
 have hl:=D.mt.1
 have P:=D.mt.iv.pn
 let adj:=adjI (4*sg.length) (nx μ)
 unfold F.qfo
 rw [dvalid_true D m (by omega),bB,Qi,kF]
 unfold F.qbi
 rw [qdw (by omega) (by omega),bB]
 let seen:Nat→Nat→Bool:=fun k g=>decide (∃h,h<k∧Outg sg h∧Cn adj h g)
 have hlp:loopN m (F.qaw m (M.length:Int) sg M lo) (([]:List (List Int)),0,replicate (M.length:Int).toNat false)=some (strs D.mt sg (4*sg.length),((4*sg.length:Nat):Int),bset (4*sg.length) (seen (4*sg.length))):=by
  have h0:(([]:List (List Int)),(0:Int),replicate (M.length:Int).toNat false)=(fun k:Nat=>(strs D.mt sg k,(k:Int),bset (4*sg.length) (seen k))) 0:=by
   rw [Qb,bset_rep,hl]
   dsimp only
   have:seen 0=fun _=>false:=by
    funext g
    exact dF (by rintro ⟨h,hh,_⟩; omega)
   rw [this]
   rfl
  rw [h0]
  refine qba (fun k:Nat=>(strs D.mt sg k,(k:Int),bset (4*sg.length) (seen k))) (4*sg.length) (fun k hk=>?_) ?_ m (by omega)
  ·
   have skip: ¬(Outg sg k∧Rep adj k)→strs D.mt sg (k+1)=strs D.mt sg k:=fun h=>by
    unfold strs
    rw [Xt,Xj]
    simp [show¬(Outg sg k∧Rep (adjI (4*sg.length) (nx μ)) k) from h]
   have hsl:=strs_len D.mt sg k
   have hcl:=cnt_le k (fun h=>Outg sg h∧Rep (adjI (4*sg.length) (nx μ)) h)
   unfold F.qaw
   dsimp only
   rw [dT (by omega),kT,qas,bset_get hk,bB]
   cases hs:seen k k with
   | true=>
    obtain ⟨q,hq1,hq2,hq3⟩:=of_decide_eq_true hs
    rw [kT,qal (by omega) (by omega),bB,skip (fun h=>h.2 q hq1 hq3)]
    have e:seen (k+1)=seen k:=by
     funext g
     refine decide_eq_decide.mpr ⟨fun ⟨h,h1,h2,h3⟩=>?_,fun ⟨h,h1,h2,h3⟩=>⟨h,by omega,h2,h3⟩⟩
     rcases Xf h k with z | z
     · exact ⟨h,z,h2,h3⟩
     ·
      obtain rfl:h=k:=by omega
      exact ⟨q,hq1,hq2,hq3.trans h3⟩
    rw [e]
    rfl
   | false=>
    have hns: ¬∃h,h<k∧Outg sg h∧Cn adj h k:=of_decide_eq_false hs
    rw [kF]
    have hc1:F.qfm m (k:Int) sg M lo=some (decide (Outg sg k)):=by
     unfold F.qfm
     rw [outg_eq hk h64,bB]
    rw [hc1,bB]
    by_cases ho:Outg sg k
    ·
     have hr:Rep adj k:=fun g hg hgk=>hns ⟨g,hg,(outg_cn D hgk).2 ho,hgk⟩
     rw [dT ho,Qi,kF,cycle_eq D.mt h64 hk lo m (by omega),bB]
     have hpl:=per_le P hk
     have hcl2:(cyc (N:=4*sg.length) (f:=nx μ) (per D.mt.iv.pn k hk) k).length=per D.mt.iv.pn k hk:=by simp [cyc]
     have hb1:loopN m (F.qax m (cyc (N:=4*sg.length) (f:=nx μ) (per D.mt.iv.pn k hk) k)) (0,bset (4*sg.length) (seen k))=some (((per D.mt.iv.pn k hk:Nat):Int),bset (4*sg.length) (seen (k+1))):=by
      have h0:((0:Int),bset (4*sg.length) (seen k))=(fun j:Nat=>((j:Int),bset (4*sg.length) (fun g=>decide (∃i,i<j∧it (nx μ) i k=g) || seen k g))) 0:=by
       dsimp only
       refine Prod.ext rfl ?_
       refine qhm fun g hg=>?_
       rw [dF (by rintro ⟨i,hi,_⟩; omega)]; rfl
      have h9:(((per D.mt.iv.pn k hk:Nat):Int),bset (4*sg.length) (seen (k+1)))=(fun j:Nat=>((j:Int),bset (4*sg.length) (fun g=>decide (∃i,i<j∧it (nx μ) i k=g) || seen k g))) (per D.mt.iv.pn k hk):=by
       dsimp only
       congr 1
       refine qhm fun g hg=>?_
       rw [←Zs (seen k g),←Zy]
       refine decide_eq_decide.mpr ⟨fun ⟨h,h1,h2,h3⟩=>?_,?_⟩
       ·
        rcases Xf h k with z | z
        · exact .inr (dT ⟨h,z,h2,h3⟩)
        ·
         obtain rfl:h=k:=by omega
         exact .inl ((per_all D.mt.iv.pn hk g).2 h3)
       ·
        rintro (h | h)
        · exact ⟨k,by omega,ho,(per_all D.mt.iv.pn hk g).1 h⟩
        ·
         obtain ⟨q,q1,q2,q3⟩:=of_decide_eq_true h
         exact ⟨q,by omega,q2,q3⟩
      rw [h0,h9]
      refine qba (fun j:Nat=>((j:Int),bset (4*sg.length) (fun g=>decide (∃i,i<j∧it (nx μ) i k=g) || seen k g))) (per D.mt.iv.pn k hk) (fun j hj=>?_) ?_ m (by omega)
      ·
       have hx:=P.it hk j
       have hgj:(cyc (N:=4*sg.length) (f:=nx μ) (per D.mt.iv.pn k hk) k)[j]? =some ((it (nx μ) j k:Nat):Int):=by
        unfold cyc
        rw [Qm,Qy hj]; rfl
       unfold F.qax
       dsimp only
       rw [hcl2,dT (by omega),kT,qas,hgj,bB,qas,bset_get hx,bB,qal (by omega) (by omega),bB,Qb,bset_set hx]
       rw [show ((j:Int)+1)=((j+1:Nat):Int) from by omega]
       congr 3
       refine qhm fun g hg=>?_
       rw [←Bool.or_assoc]
       congr 1
       rw [←Zy]
       refine decide_eq_decide.mpr ⟨?_,fun ⟨i,h1,h2⟩=>?_⟩
       ·
        rintro (h | ⟨i,h1,h2⟩)
        · exact ⟨j,by omega,h.symm⟩
        · exact ⟨i,by omega,h2⟩
       ·
        rcases Xf i j with z | z
        · exact .inr ⟨i,z,h2⟩
        ·
         obtain rfl:i=j:=by omega
         exact .inl h2.symm
      ·
       unfold F.qax
       dsimp only
       rw [hcl2,dF (by omega),kF]
     rw [hb1,bB]
     dsimp only
     rw [lim_ok (by rw [hsl]; simp; omega),bB,qal (by omega) (by omega),bB]
     have e:strs D.mt sg (k+1)=strs D.mt sg k++[cyc (N:=4*sg.length) (f:=nx μ) (per D.mt.iv.pn k hk) k]:=by
      unfold strs
      rw [Xt,Xj,Xn]
      simp [show (Outg sg k∧Rep (adjI (4*sg.length) (nx μ)) k) from ⟨ho,hr⟩,hk]
     rw [e]
     rfl
    ·
     rw [dF ho,Qz,kT,qal (by omega) (by omega),bB,skip (fun h=>ho h.1)]
     have e:seen (k+1)=seen k:=by
      funext g
      refine decide_eq_decide.mpr ⟨fun ⟨h,h1,h2,h3⟩=>?_,fun ⟨h,h1,h2,h3⟩=>⟨h,by omega,h2,h3⟩⟩
      rcases Xf h k with z | z
      · exact ⟨h,z,h2,h3⟩
      ·
       obtain rfl:h=k:=by omega
       exact absurd h2 ho
     rw [e]
     rfl
  ·
   unfold F.qaw
   dsimp only
   rw [dF (by omega),kF]
 rw [hlp,bB,bB]
def MGood (sg M:List Int) (k:Nat):Prop:= ∃x:Nat,M[k]? =some (x:Int)∧x<4*sg.length∧x≠k∧M[x]? =some (k:Int)∧(Outg sg x↔¬Outg sg k)
open Classical in
theorem mate_scan {sg M:List Int} (lo:Int) (h64:sg.length≤64) (hl:M.length=4*sg.length) (m:Nat) (hm:300<m):
  loopN m (F.qbt m sg M lo) 0=some (match (List.range (4*sg.length)).findSome? fun k=>if MGood sg M k then none else some false with | none=>.inl ((4*sg.length:Nat):Int) | some q=>.inr q):=by
 have:=scan_loop (body:=F.qbt m sg M lo) (fun k=>(k:Int)) (4*sg.length) (fun k=>if MGood sg M k then none else some false) (e:=((4*sg.length:Nat):Int)) (fun k hk=>by
  have e0:M[k]? =some M[k]:=gE (by omega)
  unfold F.qbt
  dsimp only
  rw [dT (by omega),kT,qas,e0,bB]
  by_cases c1:M[k]<0
  · rw [dT c1,kT,if_neg (fun ⟨x,h,_⟩=>by rw [e0] at h; injection h with h; omega)]
  rw [dF c1,kF,qal (by omega) (by omega),bB]
  by_cases c2:4*(sg.length:Int)≤M[k]
  · rw [dT c2,kT,if_neg (fun ⟨x,h,h2,_⟩=>by rw [e0] at h; injection h with h; omega)]
  rw [dF c2,kF]
  by_cases c3:M[k]=(k:Int)
  · rw [dT c3,kT,if_neg (fun ⟨x,h,h2,h3,_⟩=>by rw [e0] at h; injection h with h; omega)]
  rw [dF c3,kF]
  obtain ⟨x,hx⟩:=Xy (show 0≤M[k] by omega)
  have hx4:x<4*sg.length:=by omega
  have e1:M[x]? =some M[x]:=gE (by omega)
  rw [hx,qas,e1,bB]
  by_cases c4:M[x]=(k:Int)
  ·
   rw [dT c4,Qi,kF,outg_eq hk h64,bB,outg_eq hx4 h64,bB]
   by_cases c5:(Outg sg x↔¬Outg sg k)
   ·
    have:(decide (Outg sg k) == decide (Outg sg x))=false:=by
     by_cases c:Outg sg k
     ·
      have: ¬Outg sg x:=fun h=>c5.1 h c
      simp [c,this]
     ·
      have:Outg sg x:=c5.2 c
      simp [c,this]
    rw [this,kF,qal (by omega) (by omega),bB,if_pos ⟨x,by rw [e0,hx],hx4,by omega,by rw [e1,c4],c5⟩]
    rfl
   ·
    have:(decide (Outg sg k) == decide (Outg sg x))=true:=by
     by_cases c:Outg sg k
     ·
      have:Outg sg x:=Classical.byContradiction fun h=>c5 ⟨fun q=>absurd q h,fun q=>absurd c q⟩
      simp [c,this]
     ·
      have: ¬Outg sg x:=fun h=>c5 ⟨fun _=>c,fun _=>h⟩
      simp [c,this]
    rw [this,kT,if_neg (fun ⟨y,h,_,_,_,h5⟩=>by
     rw [e0,hx] at h
     injection h with h
     have:y=x:=by omega
     subst this
     exact c5 h5)]
  ·
   rw [dF c4,Qz,kT,if_neg (fun ⟨y,h,_,_,h4,_⟩=>by
    rw [e0,hx] at h; injection h with h
    have:y=x:=by omega
    subst this
    rw [e1] at h4; injection h4 with h4; exact c4 h4)]) (by
  unfold F.qbt
  dsimp only
  rw [dF (by omega),kF]) m (by omega)
 refine Eq.trans (show _=loopN m (F.qbt m sg M lo) ((0:Nat):Int) from rfl) (this.trans ?_)
 cases (List.range (4*sg.length)).findSome? fun k=>if MGood sg M k then (none:Option Bool) else some false<;>rfl
open Classical in
theorem dvalid_some (sg M:List Int) (lo:Int) (m:Nat) (hm:300<m): ∃b,F.qca m sg M lo=some b∧(b=true→∃μ,DV sg M lo μ):=by
 unfold F.qca
 by_cases c1:64<(sg.length:Int)
 · exact ⟨false,by rw [dT c1,kT],fun h=>by cases h⟩
 rw [dF c1,kF,qal (by omega) (by omega),bB]
 by_cases c2:(M.length:Int)=4*(sg.length:Int)
 rotate_left
 · exact ⟨false,by rw [dF c2,Qz,kT],fun h=>by cases h⟩
 rw [dT c2,Qi,kF]
 by_cases c3:lo<0
 · exact ⟨false,by rw [dT c3,kT],fun h=>by cases h⟩
 rw [dF c3,kF]
 by_cases c4:64<lo
 · exact ⟨false,by rw [dT c4,kT],fun h=>by cases h⟩
 rw [dF c4,kF,gv_signs sg m (by omega) (by omega)]
 by_cases c5: ∀s∈sg,s=1∨s=-1
 rotate_left
 · exact ⟨false,by rw [if_neg c5]; rfl,fun h=>by cases h⟩
 rw [if_pos c5,bB]
 dsimp only
 rw [mate_scan lo (by omega) (by omega) m hm,bB]
 cases hf:(List.range (4*sg.length)).findSome? fun k=>if MGood sg M k then none else some false with
 | some q=>
  obtain ⟨k,_,hk⟩:=Yb hf
  dsimp only
  refine ⟨false,?_,fun h=>by cases h⟩
  split at hk
  · cases hk
  · injection hk with hk; subst hk; rfl
 | none=>
  have hg: ∀k,k<4*sg.length→MGood sg M k:=fun k hk=>by
   have:=Ya.1 hf k (Qg.2 hk)
   by_cases e:MGood sg M k
   · exact e
   · rw [if_neg e] at this; cases this
  have hMT:MT (4*sg.length) M (fun h=>(M.getD h 0).toNat):=by
   refine ⟨by omega,fun h hh=>?_⟩
   obtain ⟨x,q1,q2,q3,q4,_⟩:=hg h hh
   have e1:(M.getD h 0).toNat=x:=by rw [Qc,q1]; rfl
   have e2:(M.getD x 0).toNat=h:=by rw [Qc,q4]; rfl
   dsimp only
   rw [e1,e2]
   exact ⟨q1,q2,rfl,q3⟩
  rw [spherical_eq hMT (by omega) rfl lo m hm,bB]
  refine ⟨_,rfl,fun h=>⟨_,⟨by omega,by omega,by omega,c5,hMT,fun h hh=>?_,of_decide_eq_true h⟩⟩⟩
  obtain ⟨x,q1,q2,q3,q4,q5⟩:=hg h hh
  have e1:(M.getD h 0).toNat=x:=by rw [Qc,q1]; rfl
  rw [e1]
  exact q5
