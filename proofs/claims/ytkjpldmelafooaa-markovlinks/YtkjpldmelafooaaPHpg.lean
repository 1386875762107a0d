import Derived.Test.YtkjpldmelafooaaPHbraid
set_option linter.all false
namespace Go.Proofs.Ytkjpldmelafooaa
open Ev
namespace Pg
theorem qbr {α:Type} {xs:List α} {k:Nat} (h:k<xs.length) (d:α):xs.getD k d=xs[k]:=by simp [List.getD,gE h]
abbrev Vis:=Int×Bool
def v0:Vis:=(0,false)
def setP (M:List Int) (p:Nat×Nat):List Int:=(M.set p.1 (p.2:Int)).set p.2 (p.1:Int)
theorem setP_len (M:List Int) (p:Nat×Nat):(setP M p).length=M.length:=by simp [setP]
theorem fold_len (ps:List (Nat×Nat)) (M:List Int):(ps.foldl setP M).length=M.length:=by
 induction ps generalizing M with
 | nil=>rfl
 | cons p r ih=>rw [List.foldl_cons,ih,setP_len]
theorem nodup_map {α β:Type} {l:List α} {f:α→β} (hn:l.Nodup) (h: ∀x∈l,∀y∈l,f x=f y→x=y):(l.map f).Nodup:=by
 unfold List.Nodup
 rw [List.pairwise_map]
 exact List.Pairwise.imp_of_mem (fun ha hb hne e=>hne (h _ ha _ hb e)) hn
theorem sub_len {α:Type} [DecidableEq α]: ∀{l1 l2:List α},l1.Nodup→(∀x∈l1,x∈l2)→l1.length≤l2.length
 | [],l2,_,_=>Nat.zero_le _
 | a::r,l2,hn,hs=>by
  rw [List.nodup_cons] at hn
  have ha:=hs a List.mem_cons_self
  have:=sub_len (l1:=r) (l2:=l2.erase a) hn.2 fun x hx=>(List.mem_erase_of_ne (by intro h; subst h; exact hn.1 hx)).2 (hs x (List.mem_cons_of_mem _ hx))
  rw [List.length_erase_of_mem ha] at this
  have hp:=List.length_pos_of_mem ha
  rw [List.length_cons]
  omega
@[reducible] def stepR {S E Q:Type} (o:Option Q) (s:S):S⊕(E⊕Q):=match o with | none=>.inl s | some q=>.inr (.inr q)
theorem scan_loop {S E Q:Type} {body:S→Option (S⊕(E⊕Q))} (st:Nat→S) (m:Nat) (bad:Nat→Option Q) {e:E}
  (h: ∀k,k<m→body (st k)=some (stepR (bad k) (st (k+1))))
  (he:body (st m)=some (.inr (.inl e))) (n:Nat) (hn:m<n):
  loopN n body (st 0)=some (match (List.range m).findSome? bad with | none=>.inl e | some q=>.inr q):=by
 have key: ∀(j k n:Nat),k+j=m→j<n→loopN n body (st k)=some (match (List.range' k j).findSome? bad with | none=>.inl e | some q=>.inr q):=by
  intro j
  induction j with
  | zero=>
   intro k n hk hn
   obtain ⟨n,rfl⟩: ∃n',n=n'+1:=⟨n-1,by omega⟩
   obtain rfl:k=m:=by omega
   simp only [loopN,he,bB]
   rfl
  | succ j ih=>
   intro k n hk hn
   obtain ⟨n,rfl⟩: ∃n',n=n'+1:=⟨n-1,by omega⟩
   rw [List.range'_succ,List.findSome?_cons]
   have hb:=h k (by omega)
   simp only [loopN,hb,bB]
   cases hq:bad k with
   | none=>
    rw [show (stepR (none:Option Q) (st (k+1)):S⊕(E⊕Q))=.inl (st (k+1)) from rfl]
    exact ih (k+1) n (by omega) (by omega)
   | some q=>rfl
 rw [List.range_eq_range']
 exact key m 0 n (by omega) hn
theorem findSome_none {Q:Type} {m:Nat} {bad:Nat→Option Q} (h: ∀k,k<m→bad k=none):(List.range m).findSome? bad=none:=by
 rw [List.findSome?_eq_none_iff]
 intro k hk
 exact h k (List.mem_range.1 hk)
theorem findSome_one {Q:Type} {m:Nat} {bad:Nat→Option Q} {q:Q} (h: ∀k q',bad k=some q'→q'=q) {k:Nat} (hk:k<m) (hb:bad k≠none):(List.range m).findSome? bad=some q:=by
 cases hf:(List.range m).findSome? bad with
 | none=>
  rw [List.findSome?_eq_none_iff] at hf
  exact absurd (hf k (List.mem_range.2 hk)) hb
 | some q'=>
  obtain ⟨k',_,h2⟩:=List.exists_of_findSome?_eq_some hf
  rw [h k' q' h2]
def bset (N:Nat) (R:Nat→Bool):List Bool:=(List.range N).map R
theorem bset_len (N:Nat) (R:Nat→Bool):(bset N R).length=N:=by simp [bset]
theorem bset_get {N:Nat} {R:Nat→Bool} {k:Nat} (h:k<N):(bset N R)[k]? =some (R k):=by
 unfold bset
 rw [List.getElem?_map,List.getElem?_range h]; rfl
theorem bset_set {N:Nat} {R:Nat→Bool} {k:Nat} (h:k<N):(bset N R).set k true=bset N (fun j=>decide (j=k) || R j):=by
 apply List.ext_getElem?
 intro j
 rw [List.getElem?_set]
 by_cases hj:j<N
 ·
  rw [bset_get hj,bset_get hj,bset_len]
  by_cases hk:k=j
  · subst hk; simp [h]
  · rw [if_neg hk,dF (fun h=>hk h.symm)]; rfl
 · rw [List.getElem?_eq_none (by rw [bset_len]; omega),List.getElem?_eq_none (by rw [bset_len]; omega),if_neg (by omega)]
theorem qgl {N:Nat} {R S:Nat→Bool} (h: ∀k,k<N→R k=S k):bset N R=bset N S:=List.map_congr_left fun k hk=>h k (List.mem_range.1 hk)
theorem bset_rep (N:Nat):List.replicate N false=bset N (fun _=>false):=by
 apply List.ext_getElem?
 intro j
 rw [List.getElem?_replicate]
 by_cases hj:j<N
 · rw [bset_get hj,if_pos hj]
 · rw [List.getElem?_eq_none (by rw [bset_len]; omega),if_neg hj]
def okv (n:Nat) (pre:List Vis) (v:Vis):Prop:=0≤v.1∧v.1<(n:Int)∧v∉pre
instance (n:Nat) (pre:List Vis) (v:Vis):Decidable (okv n pre v):=by unfold okv; infer_instance
def okW (n:Nat):List Vis→List Vis→Prop
 | _,[]=>True
 | pre,v::r=>okv n pre v∧okW n (pre++[v]) r
open Classical in
theorem gv_signs (sg:List Int) (n:Nat) (hn:sg.length<n) (hb:sg.length≤64):loopN n (F.qdr n sg) 0=some (if∀s∈sg,s=1∨s=-1 then .inl (sg.length:Int) else .inr false):=by
 have hs:=scan_loop (body:=F.qdr n sg) (fun k=>(k:Int)) sg.length (fun k=>if sg.getD k 0=1∨sg.getD k 0=-1 then none else some false) (e:=(sg.length:Int)) (fun k hk=>by
  unfold F.qdr
  dsimp only
  rw [dT (by omega),kT,qbl,gE hk,bB,qbr hk]
  by_cases h1:sg[k]=1
  · rw [dT h1,Bool.not_true,kF,qal (by omega) (by omega),bB,if_pos (.inl h1)]; rfl
  rw [dF h1,Bool.not_false,kT]
  by_cases h2:sg[k]=-1
  · rw [dT h2,Bool.not_true,kF,qal (by omega) (by omega),bB,if_pos (.inr h2)]; rfl
  · rw [dF h2,Bool.not_false,kT,if_neg (by rintro (h | h); exact h1 h; exact h2 h)]) (by
  unfold F.qdr
  dsimp only
  rw [dF (by omega),kF]) n hn
 refine hs.trans ?_
 by_cases hf: ∀s∈sg,s=1∨s=-1
 ·
  rw [if_pos hf,findSome_none]
  intro k hk
  rw [qbr hk,if_pos (hf _ (List.getElem_mem hk))]
 ·
  rw [if_neg hf]
  have: ∃k,∃h:k<sg.length,¬(sg[k]=1∨sg[k]=-1):=by
   apply Classical.byContradiction
   intro hc
   apply hf
   intro x hx
   obtain ⟨k,hk,rfl⟩:=List.mem_iff_getElem.1 hx
   exact Classical.byContradiction fun hx=>hc ⟨k,hk,hx⟩
  obtain ⟨k,hk,hx⟩:=this
  rw [findSome_one (q:=false) (k:=k) (fun k q' h=>by
   split at h
   · cases h
   · injection h with h; exact h.symm) hk (by rw [qbr hk,if_neg hx]; simp)]
inductive Cn (adj:Nat→Nat→Prop):Nat→Nat→Prop
 | refl (a:Nat):Cn adj a a
 | step {a b c:Nat}:Cn adj a b→adj b c→Cn adj a c
theorem Cn.one {adj:Nat→Nat→Prop} {a b:Nat} (h:adj a b):Cn adj a b:=.step (.refl a) h
theorem Cn.trans {adj:Nat→Nat→Prop} {a b c:Nat} (h1:Cn adj a b) (h2:Cn adj b c):Cn adj a c:=by
 induction h2 with
 | refl=>exact h1
 | step _ h ih=>exact .step ih h
theorem Cn.symm {adj:Nat→Nat→Prop} (hs: ∀a b,adj a b→adj b a) {a b:Nat} (h:Cn adj a b):Cn adj b a:=by
 induction h with
 | refl=>exact .refl _
 | step _ h ih=>exact (Cn.one (hs _ _ h)).trans ih
theorem Cn.map {adj adj':Nat→Nat→Prop} {f:Nat→Nat} (hf: ∀a b,adj a b→Cn adj' (f a) (f b)) {a b:Nat} (h:Cn adj a b):Cn adj' (f a) (f b):=by
 induction h with
 | refl=>exact .refl _
 | step _ h ih=>exact ih.trans (hf _ _ h)
theorem Cn.closed {adj:Nat→Nat→Prop} {S:Nat→Prop} (hS: ∀a b,S a→adj a b→S b) {a b:Nat} (h:Cn adj a b) (ha:S a):S b:=by
 induction h with
 | refl=>exact ha
 | step _ h ih=>exact hS _ _ ih h
def Rep (adj:Nat→Nat→Prop) (h:Nat):Prop:= ∀g,g<h→¬Cn adj g h
open Classical in
noncomputable def reps (N:Nat) (adj:Nat→Nat→Prop):List Nat:=(List.range N).filter (fun h=>decide (Rep adj h))
noncomputable def cls (N:Nat) (adj:Nat→Nat→Prop):Nat:=(reps N adj).length
open Classical in
theorem mem_reps {N:Nat} {adj:Nat→Nat→Prop} {h:Nat}:h∈reps N adj↔h<N∧Rep adj h:=by
 unfold reps
 rw [List.mem_filter,List.mem_range,decide_eq_true_iff]
theorem reps_nodup (N:Nat) (adj:Nat→Nat→Prop):(reps N adj).Nodup:=List.Nodup.sublist List.filter_sublist List.nodup_range
theorem cls_succ_rep {N:Nat} {adj:Nat→Nat→Prop} (h:Rep adj N):cls (N+1) adj=cls N adj+1:=by
 unfold cls reps
 rw [List.range_succ,List.filter_append,List.length_append]
 simp [h]
theorem cls_succ_not {N:Nat} {adj:Nat→Nat→Prop} (h: ¬Rep adj N):cls (N+1) adj=cls N adj:=by
 unfold cls reps
 rw [List.range_succ,List.filter_append,List.length_append]
 simp [h]
theorem cls_le (N:Nat) (adj:Nat→Nat→Prop):cls N adj≤N:=by
 unfold cls reps
 have:=List.length_filter_le (fun h=>@decide (Rep adj h) (Classical.propDecidable _)) (List.range N)
 rwa [List.length_range] at this
theorem nodup_lt {l:List Nat} {N:Nat} (hn:l.Nodup) (hl: ∀x∈l,x<N):l.length≤N:=by
 have:=sub_len hn (l2:=List.range N) fun x hx=>List.mem_range.2 (hl x hx)
 rwa [List.length_range] at this
theorem least_of {p:Nat→Prop} {n:Nat} (h:p n): ∃k,p k∧k≤n∧∀j,j<k→¬p j:=by
 induction n using Nat.strongRecOn with
 | _ n ih=>
  by_cases hc: ∃j,j<n∧p j
  ·
   obtain ⟨j,hj,hp⟩:=hc
   obtain ⟨k,a,b,c⟩:=ih j hj hp
   exact ⟨k,a,by omega,c⟩
  · exact ⟨n,h,Nat.le_refl _,fun j hj hp=>hc ⟨j,hj,hp⟩⟩
theorem rep_of {adj:Nat→Nat→Prop} (hs: ∀a b,adj a b→adj b a) (h:Nat): ∃k,k≤h∧Cn adj k h∧Rep adj k:=by
 obtain ⟨k,a,b,c⟩:=least_of (p:=fun k=>Cn adj k h) (.refl h)
 exact ⟨k,b,a,fun j hj hjk=>c j hj (hjk.trans a)⟩
theorem fold_other {ps:List (Nat×Nat)} {M:List Int} {k:Nat} (h1:k∉ps.map (·.1)) (h2:k∉ps.map (·.2)):(ps.foldl setP M)[k]? =M[k]? :=by
 induction ps generalizing M with
 | nil=>rfl
 | cons p r ih=>
  rw [List.map_cons,List.mem_cons,not_or] at h1 h2
  rw [List.foldl_cons,ih h1.2 h2.2]
  unfold setP
  rw [List.getElem?_set_ne (fun h=>h2.1 h.symm),List.getElem?_set_ne (fun h=>h1.1 h.symm)]
theorem fold_pair {ps:List (Nat×Nat)} {M:List Int} (n1:(ps.map (·.1)).Nodup) (n2:(ps.map (·.2)).Nodup) (hd: ∀x∈ps.map (·.1),x∉ps.map (·.2)) {a b:Nat} (h:(a,b)∈ps) (ha:a<M.length) (hb:b<M.length):
  (ps.foldl setP M)[a]? =some (b:Int)∧(ps.foldl setP M)[b]? =some (a:Int):=by
 induction ps generalizing M with
 | nil=>cases h
 | cons p r ih=>
  rw [List.map_cons,List.nodup_cons] at n1 n2
  rw [List.foldl_cons]
  have hd': ∀x∈r.map (·.1),x∉r.map (·.2):=fun x hx hx2=>hd x (by rw [List.map_cons]; exact List.mem_cons_of_mem _ hx) (by rw [List.map_cons]; exact List.mem_cons_of_mem _ hx2)
  rcases List.mem_cons.1 h with rfl | h
  ·
   have hab:a≠b:=fun e=>hd a (by simp) (by simp [e])
   have d1:a∉r.map (·.2):=fun hx=>hd a (by simp) (by rw [List.map_cons]; exact List.mem_cons_of_mem _ hx)
   have d2:b∉r.map (·.1):=fun hx=>hd b (by rw [List.map_cons]; exact List.mem_cons_of_mem _ hx) (by simp)
   rw [fold_other n1.1 d1,fold_other d2 n2.1]
   unfold setP
   dsimp only
   refine ⟨?_,?_⟩
   · rw [List.getElem?_set_ne (fun h=>hab h.symm),List.getElem?_set_self ha]
   · rw [List.getElem?_set_self (by rw [List.length_set]; exact hb)]
  · exact ih n1.2 n2.2 hd' h (by rw [setP_len]; exact ha) (by rw [setP_len]; exact hb)
def MT (N:Nat) (M:List Int) (μ:Nat→Nat):Prop:=M.length=N∧∀h,h<N→M[h]? =some (μ h:Int)∧μ h<N∧μ (μ h)=h∧μ h≠h
def turnN (h k:Nat):Nat:=4*(h/ 4)+(h%4+k)%4
theorem turn3 (h:Nat) (hh:h≤1000000) (n:Nat):F.qdt n (h:Int) (-1)=some ((turnN h 3:Nat):Int):=by
 have e1:Int.tmod (h:Int) 4=((h%4:Nat):Int):=Int.ofNat_tmod h 4
 have e2:Int.tmod (-1) 4=-1:=by decide
 have e3:Int.tmod (((h%4:Nat):Int)+ -1+4) 4=(((h%4+3)%4:Nat):Int):=by
  rw [show ((h%4:Nat):Int)+ -1+4=((h%4+3:Nat):Int) from by omega]
  exact Int.ofNat_tmod _ 4
 unfold F.qdt turnN
 rw [dF (by omega),kF,nz_ok (by decide),bB,e1,qal (by omega) (by omega),bB,bB,bB,e2,qal (by omega) (by omega),bB,qal (by omega) (by omega),bB,bB,e3,qal (by omega) (by omega),bB]
 congr 1
 omega
theorem turnN_lt {h k n:Nat} (hh:h<4*n):turnN h k<4*n:=by unfold turnN; omega
theorem turnN_inj {a b k:Nat} (h:turnN a k=turnN b k):a=b:=by unfold turnN at h; omega
def fc (μ:Nat→Nat) (h:Nat):Nat:=turnN (μ h) 3
def adjF (n:Nat) (μ:Nat→Nat) (a b:Nat):Prop:=a<4*n∧b<4*n∧(b=fc μ a∨a=fc μ b)
theorem adjF_symm {n:Nat} {μ:Nat→Nat} (a b:Nat) (h:adjF n μ a b):adjF n μ b a:=⟨h.2.1,h.1,h.2.2.symm⟩
theorem fc_lt {n:Nat} {M:List Int} {μ:Nat→Nat} (hM:MT (4*n) M μ) {a:Nat} (ha:a<4*n):fc μ a<4*n:=turnN_lt (hM.2 a ha).2.1
theorem fc_inj {n:Nat} {M:List Int} {μ:Nat→Nat} (hM:MT (4*n) M μ) {a b:Nat} (ha:a<4*n) (hb:b<4*n) (h:fc μ a=fc μ b):a=b:=by
 have:=turnN_inj h
 rw [←(hM.2 a ha).2.2.1,this,(hM.2 b hb).2.2.1]
def it (f:Nat→Nat):Nat→Nat→Nat
 | 0,s=>s
 | k+1,s=>f (it f k s)
theorem it_lt {n:Nat} {M:List Int} {μ:Nat→Nat} (hM:MT (4*n) M μ) {h:Nat} (hh:h<4*n) (k:Nat):it (fc μ) k h<4*n:=by
 induction k with
 | zero=>exact hh
 | succ k ih=>exact fc_lt hM ih
theorem it_cn {n:Nat} {M:List Int} {μ:Nat→Nat} (hM:MT (4*n) M μ) {h:Nat} (hh:h<4*n) (k:Nat):Cn (adjF n μ) h (it (fc μ) k h):=by
 induction k with
 | zero=>exact .refl _
 | succ k ih=>exact .step ih ⟨it_lt hM hh k,fc_lt hM (it_lt hM hh k),.inl rfl⟩
theorem it_back {n:Nat} {M:List Int} {μ:Nat→Nat} (hM:MT (4*n) M μ) {h:Nat} (hh:h<4*n): ∀(j k:Nat),it (fc μ) j h=it (fc μ) (j+k) h→h=it (fc μ) k h
 | 0,k,e=>by rw [Nat.zero_add] at e; exact e
 | j+1,k,e=>by
  refine it_back hM hh j k (fc_inj hM (it_lt hM hh _) (it_lt hM hh _) ?_)
  rw [show j+1+k=(j+k)+1 from by omega] at e
  exact e
theorem it_all {n:Nat} {M:List Int} {μ:Nat→Nat} (hM:MT (4*n) M μ) {h:Nat} (hh:h<4*n) {j k:Nat} (hj:j<k) (he:it (fc μ) j h=it (fc μ) k h) {g:Nat} (hg:Cn (adjF n μ) h g): ∃i,i<k∧it (fc μ) i h=g:=by
 have hp:h=it (fc μ) (k-j) h:=it_back hM hh j (k-j) (by rw [show j+(k-j)=k from by omega]; exact he)
 refine Cn.closed (S:=fun g=> ∃i,i<k∧it (fc μ) i h=g) (fun a b=>?_) hg ⟨0,by omega,rfl⟩
 rintro ⟨i,hi,rfl⟩ ⟨h1,h2,h3 | h3⟩
 ·
  by_cases hik:i+1<k
  · exact ⟨i+1,hik,h3.symm⟩
  ·
   have:k=i+1:=by omega
   exact ⟨j,hj,by rw [he,this]; exact h3.symm⟩
 ·
  cases i with
  | zero=>
   refine ⟨k-j-1,by omega,fc_inj hM (it_lt hM hh _) h2 ?_⟩
   rw [←h3]
   have e:k-j=(k-j-1)+1:=by omega
   rw [e] at hp
   exact hp.symm
  | succ i=>exact ⟨i,by omega,fc_inj hM (it_lt hM hh _) h2 h3⟩
theorem bset_succ (N:Nat) (R:Nat→Bool):bset (N+1) R=bset N R++[R N]:=by
 unfold bset
 rw [List.range_succ,List.map_append]; rfl
theorem bset_count {N:Nat} {R:Nat→Bool} {k:Nat} (hk:k<N) (h:R k=false):(bset N (fun j=>decide (j=k) || R j)).countP (fun b=>!b)+1=(bset N R).countP (fun b=>!b):=by
 induction N with
 | zero=>omega
 | succ N ih=>
  rw [bset_succ,bset_succ,List.countP_append,List.countP_append]
  by_cases hkN:k=N
  ·
   subst hkN
   rw [qgl (S:=R) (fun j hj=>by rw [dF (by omega)]; rfl),h]
   simp
  ·
   have:=ih (by omega)
   rw [dF (fun h=>hkN h.symm),Bool.false_or]
   omega
open Classical in
theorem face_loop {n:Nat} {M:List Int} {μ:Nat→Nat} (hM:MT (4*n) M μ) (hn:n≤100) (S:Nat→Bool) (hS: ∀a b,S a=true→adjF n μ a b→S b=true) {h:Nat} (hh:h<4*n) (hx:S h=false) (m:Nat) (hm:4*n<m) (m':Nat):
  ∃v,loopN m (F.qeb m' M) ((h:Int),bset (4*n) S)=some (v,bset (4*n) (fun g=>S g || decide (Cn (adjF n μ) h g))):=by
 have hout: ∀k,S (it (fc μ) k h)=false:=by
  intro k
  cases hc:S (it (fc μ) k h) with
  | false=>rfl
  | true=>
   have:=Cn.closed (S:=fun g=>S g=true) (fun a b ha hab=>hS a b ha hab) ((it_cn hM hh k).symm adjF_symm) hc
   rw [hx] at this; cases this
 obtain ⟨r,h1,v,hv⟩:=qez (body:=F.qeb m' M)
  (fun s=> ∃k,s=(((it (fc μ) k h:Nat):Int),bset (4*n) (fun g=>S g || decide (∃j,j<k∧it (fc μ) j h=g)))∧∀i j,i<j→j<k→it (fc μ) i h≠it (fc μ) j h)
  (fun s=>s.2.countP (fun b=>!b))
  (fun r=> ∃v,r=(v,bset (4*n) (fun g=>S g || decide (Cn (adjF n μ) h g))))
  (fun s hs=>by
   obtain ⟨k,rfl,hd⟩:=hs
   have hlt:=it_lt hM hh k
   have hmt:=hM.2 _ hlt
   unfold F.qeb
   dsimp only
   rw [qbl,bset_get hlt,bB,hout k,Bool.false_or]
   by_cases hc: ∃j,j<k∧it (fc μ) j h=it (fc μ) k h
   ·
    rw [dT hc]
    right
    refine ⟨_,rfl,((it (fc μ) k h:Nat):Int),?_⟩
    congr 1
    obtain ⟨j,hj,he⟩:=hc
    refine qgl fun g hg=>?_
    congr 1
    refine decide_eq_decide.mpr ⟨?_,it_all hM hh hj he⟩
    rintro ⟨i,hi,rfl⟩
    exact it_cn hM hh i
   ·
    rw [dF hc]
    left
    have hl:=hM.1
    refine ⟨(((it (fc μ) (k+1) h:Nat):Int),bset (4*n) (fun g=>S g || decide (∃j,j<k+1∧it (fc μ) j h=g))),?_,⟨k+1,rfl,fun i j hi hj=>?_⟩,?_⟩
    ·
     rw [Bool.not_false,kT,bB,qbl,hmt.1,bB,turn3 _ (by omega),bB,Int.toNat_natCast,bset_set hlt]
     congr 3
     refine qgl fun g hg=>?_
     by_cases e1:g=it (fc μ) k h
     · rw [dT e1,Bool.true_or,dT ⟨k,by omega,e1.symm⟩,Bool.or_true]
     ·
      rw [dF e1,Bool.false_or]
      congr 1
      refine decide_eq_decide.mpr ⟨fun ⟨j,hj,e⟩=>⟨j,by omega,e⟩,fun ⟨j,hj,e⟩=>⟨j,?_,e⟩⟩
      rcases Nat.lt_or_ge j k with h | h
      · exact h
      ·
       obtain rfl:j=k:=by omega
       exact absurd e.symm e1
    ·
     rcases Nat.lt_or_ge j k with h | h
     · exact hd i j hi h
     ·
      obtain rfl:j=k:=by omega
      exact fun e=>hc ⟨i,hi,e⟩
    ·
     dsimp only
     have:=bset_count hlt (R:=fun g=>S g || decide (∃j,j<k∧it (fc μ) j h=g)) (by rw [hout k,dF hc]; rfl)
     have e:bset (4*n) (fun g=>S g || decide (∃j,j<k+1∧it (fc μ) j h=g))=bset (4*n) (fun g=>decide (g=it (fc μ) k h) || (S g || decide (∃j,j<k∧it (fc μ) j h=g))):=by
      refine qgl fun g hg=>?_
      by_cases e1:g=it (fc μ) k h
      · rw [dT e1,Bool.true_or,dT ⟨k,by omega,e1.symm⟩,Bool.or_true]
      ·
       rw [dF e1,Bool.false_or]
       congr 1
       refine decide_eq_decide.mpr ⟨fun ⟨j,hj,e⟩=>⟨j,?_,e⟩,fun ⟨j,hj,e⟩=>⟨j,by omega,e⟩⟩
       rcases Nat.lt_or_ge j k with h | h
       · exact h
       ·
        obtain rfl:j=k:=by omega
        exact absurd e.symm e1
     rw [e]
     omega)
  m ((h:Int),bset (4*n) S) ⟨0,by simp [it],fun i j _ hj=>by omega⟩ (by
   dsimp only
   have:=List.countP_le_length (p:=fun b=>!b) (l:=bset (4*n) S)
   rw [bset_len] at this
   omega)
 exact ⟨v,by rw [h1,hv]⟩
open Classical in
noncomputable def before (adj:Nat→Nat→Prop) (k:Nat) (g:Nat):Bool:=decide (∃h,h<k∧Cn adj h g)
open Classical in
theorem before_zero (adj:Nat→Nat→Prop):before adj 0=fun _=>false:=by
 funext g
 unfold before
 exact dF (by rintro ⟨h,hh,_⟩; omega)
open Classical in
theorem before_closed {adj:Nat→Nat→Prop} {k a b:Nat} (h:before adj k a=true) (hab:adj a b):before adj k b=true:=by
 unfold before at*
 obtain ⟨h,hh,hc⟩:=of_decide_eq_true h
 exact dT ⟨h,hh,.step hc hab⟩
theorem before_rep {adj:Nat→Nat→Prop} {k:Nat}:before adj k k=false↔Rep adj k:=by
 unfold before Rep
 rw [decide_eq_false_iff_not]
 exact ⟨fun h g hg hc=>h ⟨g,hg,hc⟩,fun h ⟨g,hg,hc⟩=>h g hg hc⟩
open Classical in
theorem before_same {adj:Nat→Nat→Prop} (hs: ∀a b,adj a b→adj b a) {k:Nat} (h:before adj k k=true):before adj (k+1)=before adj k:=by
 unfold before at*
 obtain ⟨q,hq,hc⟩:=of_decide_eq_true h
 funext g
 refine decide_eq_decide.mpr ⟨fun ⟨j,hj,hjg⟩=>?_,fun ⟨j,hj,hjg⟩=>⟨j,by omega,hjg⟩⟩
 rcases Nat.lt_or_ge j k with h | h
 · exact ⟨j,h,hjg⟩
 ·
  obtain rfl:j=k:=by omega
  exact ⟨q,hq,hc.trans hjg⟩
open Classical in
theorem before_next {adj:Nat→Nat→Prop} {k:Nat}:before adj (k+1)=fun g=>before adj k g || decide (Cn adj k g):=by
 unfold before
 funext g
 rw [←Bool.decide_or]
 refine decide_eq_decide.mpr ⟨fun ⟨j,hj,hjg⟩=>?_,?_⟩
 ·
  rcases Nat.lt_or_ge j k with h | h
  · exact .inl ⟨j,h,hjg⟩
  ·
   obtain rfl:j=k:=by omega
   exact .inr hjg
 ·
  rintro (⟨j,hj,h⟩ | h)
  · exact ⟨j,by omega,h⟩
  · exact ⟨k,by omega,h⟩
def adjP (n:Nat) (μ:Nat→Nat) (c d:Nat):Prop:=c<n∧d<n∧∃s,s<4∧μ (4*c+s)/ 4=d
theorem adjP_symm {n:Nat} {M:List Int} {μ:Nat→Nat} (hM:MT (4*n) M μ) (a b:Nat) (h:adjP n μ a b):adjP n μ b a:=by
 obtain ⟨h1,h2,s,hs,h3⟩:=h
 have:=hM.2 (4*a+s) (by omega)
 refine ⟨h2,h1,μ (4*a+s)%4,by omega,?_⟩
 rw [←h3,show 4*(μ (4*a+s)/ 4)+μ (4*a+s)%4=μ (4*a+s) from by omega,this.2.2.1]
 omega
def castL (l:List Nat):List Int:=l.map fun (k:Nat)=>(k:Int)
def nbr (μ:Nat→Nat) (c:Nat) (a:List Nat×(Nat→Bool)) (s:Nat):List Nat×(Nat→Bool):=
 if a.2 (μ (4*c+s)/ 4)=true then a else (a.1++[μ (4*c+s)/ 4],fun j=>decide (j=μ (4*c+s)/ 4) || a.2 j)
def nbrs (μ:Nat→Nat) (c:Nat) (a:List Nat×(Nat→Bool)) (m:Nat):List Nat×(Nat→Bool):=(List.range m).foldl (nbr μ c) a
theorem nbrs_succ (μ:Nat→Nat) (c:Nat) (a:List Nat×(Nat→Bool)) (m:Nat):nbrs μ c a (m+1)=nbr μ c (nbrs μ c a m) m:=by
 unfold nbrs
 rw [List.range_succ,List.foldl_append]
 rfl
theorem nbrs_spec {n:Nat} {M:List Int} {μ:Nat→Nat} (hM:MT (4*n) M μ) {c:Nat} (hc:c<n) (l:List Nat) (R:Nat→Bool): ∀m,m≤4→∃new,
  (nbrs μ c (l,R) m).1=l++new∧(∀x∈new,R x=false∧x<n∧adjP n μ c x)∧(∀j,(nbrs μ c (l,R) m).2 j=true↔R j=true∨j∈new)∧(∀s,s<m→(nbrs μ c (l,R) m).2 (μ (4*c+s)/ 4)=true)∧
  (bset n (nbrs μ c (l,R) m).2).countP (fun b=>!b)+new.length=(bset n R).countP (fun b=>!b)∧new.length≤m:=by
 intro m
 induction m with
 | zero=>intro _; exact ⟨[],by simp [nbrs],by simp,by simp [nbrs],by omega,by simp [nbrs],by simp⟩
 | succ m ih=>
  intro hm
  obtain ⟨new,h1,h2,h3,h4,h5,h6⟩:=ih (by omega)
  rw [nbrs_succ]
  generalize nbrs μ c (l,R) m=a at*
  have hmt:=hM.2 (4*c+m) (by omega)
  have hx:μ (4*c+m)/ 4<n:=by omega
  unfold nbr
  by_cases hr:a.2 (μ (4*c+m)/ 4)=true
  ·
   rw [if_pos hr]
   refine ⟨new,h1,h2,h3,fun s hs=>?_,h5,by omega⟩
   rcases Nat.lt_or_ge s m with h | h
   · exact h4 s h
   ·
    obtain rfl:s=m:=by omega
    exact hr
  ·
   rw [if_neg hr]
   have hrf:a.2 (μ (4*c+m)/ 4)=false:=by simpa using hr
   have hRf:R (μ (4*c+m)/ 4)=false:=by
    cases hR:R (μ (4*c+m)/ 4) with
    | false=>rfl
    | true=>exact absurd ((h3 _).2 (.inl hR)) hr
   refine ⟨new++[μ (4*c+m)/ 4],by dsimp only; rw [h1,List.append_assoc],fun x hx'=>?_,fun j=>?_,fun s hs=>?_,?_,by simp; omega⟩
   ·
    rcases List.mem_append.1 hx' with hx' | hx'
    · exact h2 x hx'
    ·
     rw [List.mem_singleton] at hx'
     subst hx'
     exact ⟨hRf,hx,hc,hx,m,by omega,rfl⟩
   ·
    dsimp only
    rw [Bool.or_eq_true,decide_eq_true_iff,h3 j,List.mem_append,List.mem_singleton]
    constructor
    ·
     rintro (h | h | h)
     · exact .inr (.inr h)
     · exact .inl h
     · exact .inr (.inl h)
    ·
     rintro (h | h | h)
     · exact .inr (.inl h)
     · exact .inr (.inr h)
     · exact .inl h
   ·
    dsimp only
    rcases Nat.lt_or_ge s m with h | h
    · rw [h4 s h,Bool.or_true]
    ·
     obtain rfl:s=m:=by omega
     rw [dT rfl,Bool.true_or]
   ·
    dsimp only
    have:=bset_count hx hrf
    rw [List.length_append,List.length_singleton]
    omega
theorem castL_len (l:List Nat):(castL l).length=l.length:=by simp [castL]
noncomputable def gen2 (n:Nat) (μ:Nat→Nat):Int:=2*(cls n (adjP n μ):Int)+(n:Int)-(cls (4*n) (adjF n μ):Int)
structure PI (N:Nat) (f:Nat→Nat):Prop where
 lt: ∀a,a<N→f a<N
 inj: ∀a b,a<N→b<N→f a=f b→a=b
def adjI (N:Nat) (f:Nat→Nat) (a b:Nat):Prop:=a<N∧b<N∧(b=f a∨a=f b)
theorem qfb {N:Nat} {f:Nat→Nat} (a b:Nat) (h:adjI N f a b):adjI N f b a:=⟨h.2.1,h.1,h.2.2.symm⟩
section
variable {N : Nat} {f : Nat → Nat} (P : PI N f)
include P
theorem PI.it {a:Nat} (ha:a<N) (k:Nat):Pg.it f k a<N:=by
 induction k with
 | zero=>exact ha
 | succ k ih=>exact P.lt _ ih
theorem PI.cn {a:Nat} (ha:a<N) (k:Nat):Cn (adjI N f) a (Pg.it f k a):=by
 induction k with
 | zero=>exact .refl _
 | succ k ih=>exact .step ih ⟨P.it ha k,P.lt _ (P.it ha k),.inl rfl⟩
theorem PI.back {a:Nat} (ha:a<N): ∀(j k:Nat),Pg.it f j a=Pg.it f (j+k) a→a=Pg.it f k a
 | 0,k,e=>by rw [Nat.zero_add] at e; exact e
 | j+1,k,e=>by
  refine PI.back ha j k (P.inj _ _ (P.it ha _) (P.it ha _) ?_)
  rw [show j+1+k=(j+k)+1 from by omega] at e
  exact e
theorem PI.period {a:Nat} (ha:a<N): ∃L,0<L∧Pg.it f L a=a:=by
 have: ∃i j,i<j∧Pg.it f i a=Pg.it f j a:=by
  apply Classical.byContradiction
  intro hc
  have hn:((List.range (N+1)).map fun k=>Pg.it f k a).Nodup:=nodup_map List.nodup_range fun x _ y _ e=>by
   rcases Nat.lt_trichotomy x y with h | h | h
   · exact absurd ⟨x,y,h,e⟩ hc
   · exact h
   · exact absurd ⟨y,x,h,e.symm⟩ hc
  have:=nodup_lt (N:=N) hn fun x hx=>by
   obtain ⟨k,_,rfl⟩:=List.mem_map.1 hx
   exact P.it ha k
  rw [List.length_map,List.length_range] at this
  omega
 obtain ⟨i,j,hij,e⟩:=this
 exact ⟨j-i,by omega,(P.back ha i (j-i) (by rw [show i+(j-i)=j from by omega]; exact e)).symm⟩
theorem PI.fwd {a b:Nat} (ha:a<N) (h:Cn (adjI N f) a b): ∃k,Pg.it f k a=b:=by
 obtain ⟨L,hL,e⟩:=P.period ha
 refine Cn.closed (S:=fun b=> ∃k,Pg.it f k a=b) (fun x y=>?_) h ⟨0,rfl⟩
 rintro ⟨k,rfl⟩ ⟨h1,h2,h3 | h3⟩
 · exact ⟨k+1,h3.symm⟩
 ·
  cases k with
  | zero=>
   refine ⟨L-1,P.inj _ _ (P.it ha _) h2 ?_⟩
   rw [←h3]
   show Pg.it f (L-1+1) a=_
   rw [show L-1+1=L from by omega,e]
   rfl
  | succ k=>exact ⟨k,P.inj _ _ (P.it ha _) h2 h3⟩
end
def sw (f:Nat→Nat) (a b x:Nat):Nat:=if x=a then f b else if x=b then f a else f x
theorem sw_sw {f:Nat→Nat} {a b x:Nat} (hab:a≠b):sw (sw f a b) a b x=f x:=by
 unfold sw
 by_cases h1:x=a
 ·
  subst h1
  rw [if_pos rfl,if_neg (fun h=>hab h.symm),if_pos rfl]
 ·
  by_cases h2:x=b
  · subst h2; rw [if_neg h1,if_pos rfl,if_pos rfl]
  · rw [if_neg h1,if_neg h2,if_neg h1,if_neg h2]
theorem PI.sw {N:Nat} {f:Nat→Nat} (P:PI N f) {a b:Nat} (ha:a<N) (hb:b<N):PI N (sw f a b):=by
 refine ⟨fun x hx=>?_,fun x y hx hy e=>?_⟩
 ·
  unfold Pg.sw
  split
  · exact P.lt _ hb
  split
  · exact P.lt _ ha
  · exact P.lt _ hx
 ·
  have key: ∀z,Pg.sw f a b z=f (if z=a then b else if z=b then a else z):=by
   intro z
   unfold Pg.sw
   split
   · rfl
   split<;>rfl
  have hl: ∀z,z<N→(if z=a then b else if z=b then a else z)<N:=by
   intro z hz
   split
   · exact hb
   split
   · exact ha
   · exact hz
  rw [key,key] at e
  have:=P.inj _ _ (hl x hx) (hl y hy) e
  revert this
  split<;>split<;>(try split)<;>(try split)<;>omega
def orAdj (adj:Nat→Nat→Prop) (a b x y:Nat):Prop:=adj x y∨(x=a∧y=b)∨(x=b∧y=a)
theorem orAdj_symm {adj:Nat→Nat→Prop} (hs: ∀a b,adj a b→adj b a) {a b:Nat} (x y:Nat) (h:orAdj adj a b x y):orAdj adj a b y x:=by
 rcases h with h | ⟨h1,h2⟩ | ⟨h1,h2⟩
 · exact .inl (hs _ _ h)
 · exact .inr (.inr ⟨h2,h1⟩)
 · exact .inr (.inl ⟨h2,h1⟩)
theorem cn_sw {N:Nat} {f:Nat→Nat} (P:PI N f) {a b:Nat} (ha:a<N) (hb:b<N) (hn: ¬Cn (adjI N f) a b) (x y:Nat):Cn (adjI N (sw f a b)) x y↔Cn (orAdj (adjI N f) a b) x y:=by
 have P':=P.sw ha hb
 have hab:a≠b:=fun h=>hn (h▸.refl _)
 have key: ∀a b,a<N→b<N→a≠b→¬Cn (adjI N f) b a→(∀x,sw f a b x=if x=a then f b else if x=b then f a else f x)→Cn (adjI N (sw f a b)) a b:=by
  intro a b ha hb hab hn hsw
  obtain ⟨L0,hL0⟩:=P.period hb
  obtain ⟨L,⟨hL,e⟩,_,hmin⟩:=least_of (p:=fun L=>0<L∧it f L b=b) hL0
  have step: ∀j,1≤j→j≤L→Cn (adjI N (sw f a b)) a (it f j b):=by
   intro j
   induction j with
   | zero=>intro h; omega
   | succ j ih=>
    intro _ hj
    rcases Nat.eq_zero_or_pos j with h0 | h0
    ·
     subst h0
     refine Cn.one ⟨ha,P.it hb 1,.inl ?_⟩
     rw [hsw,if_pos rfl]; rfl
    ·
     refine .step (ih h0 (by omega)) ⟨P.it hb j,P.it hb (j+1),.inl ?_⟩
     have h1:it f j b≠a:=fun h=>hn (h▸P.cn hb j)
     have h2:it f j b≠b:=fun h=>hmin j (by omega) ⟨h0,h⟩
     rw [hsw,if_neg h1,if_neg h2]; rfl
  have:=step L hL (Nat.le_refl _)
  rwa [e] at this
 have hab':Cn (adjI N (sw f a b)) a b:=key a b ha hb hab (fun h=>hn (h.symm qfb)) (fun _=>rfl)
 constructor
 ·
  refine fun h=>Cn.map (f:=id) (fun x y hxy=>?_) h
  show Cn _ x y
  obtain ⟨h1,h2,h3⟩:=hxy
  have fw: ∀x,x<N→Cn (orAdj (adjI N f) a b) x (sw f a b x):=by
   intro x hx
   unfold sw
   by_cases x1:x=a
   ·
    subst x1
    rw [if_pos rfl]
    exact (Cn.one (.inr (.inl ⟨rfl,rfl⟩))).step (.inl ⟨hb,P.lt _ hb,.inl rfl⟩)
   by_cases x2:x=b
   ·
    subst x2
    rw [if_neg x1,if_pos rfl]
    exact (Cn.one (.inr (.inr ⟨rfl,rfl⟩))).step (.inl ⟨ha,P.lt _ ha,.inl rfl⟩)
   ·
    rw [if_neg x1,if_neg x2]
    exact Cn.one (.inl ⟨hx,P.lt _ hx,.inl rfl⟩)
  rcases h3 with h3 | h3
  · rw [h3]; exact fw x h1
  · rw [h3]; exact (fw y h2).symm (orAdj_symm qfb)
 ·
  refine fun h=>Cn.map (f:=id) (fun x y hxy=>?_) h
  show Cn _ x y
  have fw: ∀x,x<N→Cn (adjI N (sw f a b)) x (f x):=by
   intro x hx
   by_cases x1:x=a
   ·
    subst x1
    refine hab'.step ⟨hb,P.lt _ hx,.inl ?_⟩
    unfold sw
    rw [if_neg (fun h=>hab h.symm),if_pos rfl]
   by_cases x2:x=b
   ·
    subst x2
    refine (hab'.symm qfb).step ⟨ha,P.lt _ hx,.inl ?_⟩
    unfold sw
    rw [if_pos rfl]
   ·
    refine Cn.one ⟨hx,P.lt _ hx,.inl ?_⟩
    unfold sw
    rw [if_neg x1,if_neg x2]
  rcases hxy with ⟨h1,h2,h3⟩ | ⟨rfl,rfl⟩ | ⟨rfl,rfl⟩
  ·
   rcases h3 with h3 | h3
   · rw [h3]; exact fw x h1
   · rw [h3]; exact (fw y h2).symm qfb
  · exact hab'
  · exact hab'.symm qfb
theorem cn_cut {N:Nat} {f:Nat→Nat} (P:PI N f) {a b:Nat} (ha:a<N) (hb:b<N) (hab:a≠b) (h:Cn (adjI N f) a b): ¬Cn (adjI N (sw f a b)) a b:=by
 have P':=P.sw ha hb
 obtain ⟨q0,e0⟩:=P.fwd hb (h.symm qfb)
 obtain ⟨q,e,_,hmin⟩:=least_of (p:=fun k=>it f k b=a) e0
 have hq:0<q:=by
  rcases Nat.eq_zero_or_pos q with h0 | h0
  · subst h0; exact absurd e.symm hab
  · exact h0
 have hne: ∀j,1≤j→j≤q→it f j b≠b:=by
  intro j h1 h2 hjb
  have e3: ∀k,it f (k+j) b=it f k b:=by
   intro k
   induction k with
   | zero=>rw [Nat.zero_add,hjb]; rfl
   | succ k ih=>rw [show k+1+j=(k+j)+1 from by omega]; show f _=f _; rw [ih]
  have:=e3 (q-j)
  rw [show q-j+j=q from by omega,e] at this
  exact hmin (q-j) (by omega) this.symm
 intro hc
 have hV:=Cn.closed (S:=fun x=> ∃j,1≤j∧j≤q∧it f j b=x) (fun x y=>?_) hc ⟨q,hq,Nat.le_refl _,e⟩
 ·
  obtain ⟨j,h1,h2,h3⟩:=hV
  exact hne j h1 h2 h3
 ·
  have fw: ∀j,1≤j→j≤q→sw f a b (it f j b)=if j=q then it f 1 b else it f (j+1) b:=by
   intro j h1 h2
   unfold sw
   by_cases hj:j=q
   · subst hj; rw [if_pos e,if_pos rfl]; rfl
   · rw [if_neg (fun h=>hmin j (by omega) h),if_neg (hne j h1 h2),if_neg hj]; rfl
  rintro ⟨j,h1,h2,rfl⟩ ⟨h3,h4,h5 | h5⟩
  ·
   rw [fw j h1 h2] at h5
   by_cases hj:j=q
   · rw [if_pos hj] at h5; exact ⟨1,by omega,by omega,h5.symm⟩
   · rw [if_neg hj] at h5; exact ⟨j+1,by omega,by omega,h5.symm⟩
  ·
   rcases Nat.lt_or_ge 1 j with hj | hj
   ·
    refine ⟨j-1,by omega,by omega,P'.inj _ _ (P.it hb _) h4 ?_⟩
    rw [fw (j-1) (by omega) (by omega),if_neg (by omega),show j-1+1=j from by omega,h5]
   ·
    refine ⟨q,by omega,Nat.le_refl _,P'.inj _ _ (P.it hb _) h4 ?_⟩
    rw [fw q hq (Nat.le_refl _),if_pos rfl,←h5,show j=1 from by omega]
theorem cls_join {N:Nat} {adj:Nat→Nat→Prop} (hs: ∀a b,adj a b→adj b a) {a b:Nat} (ha:a<N) (hb:b<N) (hn: ¬Cn adj a b):cls N adj=cls N (orAdj adj a b)+1:=by
 have main: ∀a b,a<N→b<N→¬Cn adj a b→∀ra rb,ra≤a→Cn adj ra a→Rep adj ra→rb≤b→Cn adj rb b→Rep adj rb→ra<rb→cls N adj=cls N (orAdj adj a b)+1:=by
  intro a b ha hb hn ra rb la ca qa lb cb qb hlt
  have hc: ∀g h,Cn (orAdj adj a b) g h↔Cn adj g h∨(Cn adj g a∧Cn adj b h)∨(Cn adj g b∧Cn adj a h):=by
   intro g h
   constructor
   ·
    intro hgh
    induction hgh with
    | refl=>exact .inl (.refl _)
    | step _ hst ih=>
     rcases hst with hst | ⟨rfl,rfl⟩ | ⟨rfl,rfl⟩
     ·
      rcases ih with ih | ⟨i1,i2⟩ | ⟨i1,i2⟩
      · exact .inl (.step ih hst)
      · exact .inr (.inl ⟨i1,.step i2 hst⟩)
      · exact .inr (.inr ⟨i1,.step i2 hst⟩)
     ·
      rcases ih with ih | ⟨i1,i2⟩ | ⟨i1,i2⟩
      · exact .inr (.inl ⟨ih,.refl _⟩)
      · exact absurd (i2.symm hs) hn
      · exact .inl i1
     ·
      rcases ih with ih | ⟨i1,i2⟩ | ⟨i1,i2⟩
      · exact .inr (.inr ⟨ih,.refl _⟩)
      · exact .inl i1
      · exact absurd i2 hn
   ·
    have up: ∀g h,Cn adj g h→Cn (orAdj adj a b) g h:=fun g h hgh=>Cn.map (f:=id) (fun x y hxy=>Cn.one (.inl hxy)) hgh
    rintro (h1 | ⟨h1,h2⟩ | ⟨h1,h2⟩)
    · exact up _ _ h1
    · exact ((up _ _ h1).step (.inr (.inl ⟨rfl,rfl⟩))).trans (up _ _ h2)
    · exact ((up _ _ h1).step (.inr (.inr ⟨rfl,rfl⟩))).trans (up _ _ h2)
  have hrb:rb∈reps N adj:=mem_reps.2 ⟨by omega,qb⟩
  have e1:(reps N (orAdj adj a b)).length=((reps N adj).erase rb).length:=by
   apply Nat.le_antisymm
   ·
    refine sub_len (reps_nodup _ _) fun x hx=>?_
    obtain ⟨x1,x2⟩:=mem_reps.1 hx
    refine (List.mem_erase_of_ne ?_).2 (mem_reps.2 ⟨x1,fun g hg hgx=>x2 g hg ((hc g x).2 (.inl hgx))⟩)
    rintro rfl
    exact x2 ra hlt ((hc ra x).2 (.inr (.inl ⟨ca,cb.symm hs⟩)))
   ·
    refine sub_len ((reps_nodup _ _).sublist List.erase_sublist) fun x hx=>?_
    have hne:x≠rb:=fun h=>by
     rw [h] at hx
     exact (List.Nodup.not_mem_erase (reps_nodup _ _)) hx
    obtain ⟨x1,x2⟩:=mem_reps.1 (List.mem_of_mem_erase hx)
    refine mem_reps.2 ⟨x1,fun g hg hgx=>?_⟩
    rcases (hc g x).1 hgx with h | ⟨h1,h2⟩ | ⟨h1,h2⟩
    · exact x2 g hg h
    ·
     -- x is in the class of b,so it is rb
     have:Cn adj rb x:=cb.trans h2
     rcases Nat.lt_trichotomy rb x with h | h | h
     · exact x2 rb h this
     · exact hne h.symm
     · exact qb x h (this.symm hs)
    ·
     have:Cn adj ra x:=ca.trans h2
     rcases Nat.lt_trichotomy ra x with h | h | h
     · exact x2 ra h this
     ·
      subst h
      have hgb:Cn adj g rb:=h1.trans (cb.symm hs)
      exact qb g (by omega) hgb
     · exact qa x h (this.symm hs)
  unfold cls
  rw [e1,List.length_erase_of_mem hrb]
  have:=List.length_pos_of_mem hrb
  omega
 obtain ⟨ra,la,ca,qa⟩:=rep_of hs a
 obtain ⟨rb,lb,cb,qb⟩:=rep_of hs b
 rcases Nat.lt_trichotomy ra rb with h | h | h
 · exact main a b ha hb hn ra rb la ca qa lb cb qb h
 · subst h; exact absurd ((ca.symm hs).trans cb) hn
 ·
  rw [main b a hb ha (fun h=>hn (h.symm hs)) rb ra lb cb qb la ca qa h]
  congr 2
  funext x y
  exact propext ⟨fun h=>by rcases h with h | h | h; exact .inl h; exact .inr (.inr h); exact .inr (.inl h),fun h=>by rcases h with h | h | h; exact .inl h; exact .inr (.inr h); exact .inr (.inl h)⟩
theorem qef {N:Nat} {adj adj':Nat→Nat→Prop} (h: ∀x y,x<N→y<N→(Cn adj x y↔Cn adj' x y)):cls N adj=cls N adj':=by
 apply Nat.le_antisymm
 ·
  refine sub_len (reps_nodup _ _) fun x hx=>?_
  obtain ⟨x1,x2⟩:=mem_reps.1 hx
  exact mem_reps.2 ⟨x1,fun g hg hgx=>x2 g hg ((h g x (by omega) x1).2 hgx)⟩
 ·
  refine sub_len (reps_nodup _ _) fun x hx=>?_
  obtain ⟨x1,x2⟩:=mem_reps.1 hx
  exact mem_reps.2 ⟨x1,fun g hg hgx=>x2 g hg ((h g x (by omega) x1).1 hgx)⟩
theorem cls_sw {N:Nat} {f:Nat→Nat} (P:PI N f) {a b:Nat} (ha:a<N) (hb:b<N) (hab:a≠b):
  (¬Cn (adjI N f) a b→cls N (adjI N f)=cls N (adjI N (sw f a b))+1)∧(Cn (adjI N f) a b→cls N (adjI N (sw f a b))=cls N (adjI N f)+1):=by
 have one: ∀f,PI N f→¬Cn (adjI N f) a b→cls N (adjI N f)=cls N (adjI N (sw f a b))+1:=by
  intro f P hn
  rw [cls_join qfb ha hb hn,qef fun x y _ _=>(cn_sw P ha hb hn x y).symm]
 refine ⟨one f P,fun h=>?_⟩
 have h2:=one (sw f a b) (P.sw ha hb) (cn_cut P ha hb hab h)
 rw [h2]
 congr 1
 refine qef fun x y _ _=>?_
 have:sw (sw f a b) a b=f:=funext fun x=>sw_sw hab
 rw [this]
open Classical in
noncomputable def cnt (N:Nat) (p:Nat→Prop):Nat:=((List.range N).filter (fun h=>decide (p h))).length
theorem qbn {N:Nat} {p:Nat→Prop} (h:p N):cnt (N+1) p=cnt N p+1:=by
 unfold cnt
 rw [List.range_succ,List.filter_append,List.length_append]
 simp [h]
theorem qbh {N:Nat} {p:Nat→Prop} (h: ¬p N):cnt (N+1) p=cnt N p:=by
 unfold cnt
 rw [List.range_succ,List.filter_append,List.length_append]
 simp [h]
theorem cnt_le (N:Nat) (p:Nat→Prop):cnt N p≤N:=by
 induction N with
 | zero=>simp [cnt]
 | succ N ih=>
  by_cases h:p N
  · rw [qbn h]; omega
  · rw [qbh h]; omega
theorem qby {N:Nat} {p q:Nat→Prop} (h: ∀k,k<N→(p k↔q k)):cnt N p=cnt N q:=by
 induction N with
 | zero=>rfl
 | succ N ih=>
  have hi:=ih fun k hk=>h k (by omega)
  have hN:=h N (by omega)
  by_cases hp:p N
  · rw [qbn hp,qbn (hN.1 hp),hi]
  · rw [qbh hp,qbh (fun hq=>hp (hN.2 hq)),hi]
theorem cnt_split (N:Nat) (p q:Nat→Prop):cnt N p=cnt N (fun h=>q h∧p h)+cnt N (fun h=> ¬q h∧p h):=by
 induction N with
 | zero=>rfl
 | succ N ih=>
  by_cases hp:p N<;>by_cases hq:q N
  · rw [qbn hp,qbn (p:=fun h=>q h∧p h) ⟨hq,hp⟩,qbh (p:=fun h=> ¬q h∧p h) (fun h=>h.1 hq),ih]; omega
  · rw [qbn hp,qbh (p:=fun h=>q h∧p h) (fun h=>hq h.1),qbn (p:=fun h=> ¬q h∧p h) ⟨hq,hp⟩,ih]; omega
  · rw [qbh hp,qbh (p:=fun h=>q h∧p h) (fun h=>hp h.2),qbh (p:=fun h=> ¬q h∧p h) (fun h=>hp h.2),ih]
  · rw [qbh hp,qbh (p:=fun h=>q h∧p h) (fun h=>hp h.2),qbh (p:=fun h=> ¬q h∧p h) (fun h=>hp h.2),ih]
theorem cnt_all {N:Nat} {p:Nat→Prop} (h: ∀k,k<N→p k):cnt N p=N:=by
 induction N with
 | zero=>rfl
 | succ N ih=>rw [qbn (h N (by omega)),ih fun k hk=>h k (by omega)]
theorem cnt_none {N:Nat} {p:Nat→Prop} (h: ∀k,k<N→¬p k):cnt N p=0:=by
 induction N with
 | zero=>rfl
 | succ N ih=>rw [qbh (h N (by omega)),ih fun k hk=>h k (by omega)]
theorem qeg {N:Nat} {p:Nat→Prop} {a:Nat} (ha:a<N) (hp: ¬p a):cnt N (fun h=>h=a∨p h)=cnt N p+1:=by
 induction N with
 | zero=>omega
 | succ N ih=>
  by_cases e:N=a
  ·
   subst e
   rw [qbn (p:=fun h=>h=N∨p h) (.inl rfl),qbh hp]
   congr 1
   refine qby fun k hk=>⟨fun h=>?_,fun h=>.inr h⟩
   rcases h with h | h
   · omega
   · exact h
  ·
   have hi:=ih (by omega)
   by_cases hN:p N
   · rw [qbn (p:=fun h=>h=a∨p h) (.inr hN),qbn hN,hi]
   · rw [qbh (p:=fun h=>h=a∨p h) (fun h=>by rcases h with h | h; exact e h; exact hN h),qbh hN,hi]
theorem cnt_four (n:Nat) (q:Nat→Prop):cnt (4*n) (fun h=>q (h/ 4)∧h%4=0)=cnt n q:=by
 induction n with
 | zero=>rfl
 | succ n ih=>
  rw [show 4*(n+1)=4*n+1+1+1+1 from by omega]
  rw [qbh (p:=fun h=>q (h/ 4)∧h%4=0) (fun h=>by have:=h.2; omega),qbh (p:=fun h=>q (h/ 4)∧h%4=0) (fun h=>by have:=h.2; omega),qbh (p:=fun h=>q (h/ 4)∧h%4=0) (fun h=>by have:=h.2; omega)]
  by_cases hq:q n
  · rw [qbn (p:=fun h=>q (h/ 4)∧h%4=0) ⟨by rw [show 4*n/ 4=n from by omega]; exact hq,by omega⟩,qbn hq,ih]
  · rw [qbh (p:=fun h=>q (h/ 4)∧h%4=0) (fun h=>hq (by have:=h.1; rwa [show 4*n/ 4=n from by omega] at this)),qbh hq,ih]
theorem cnt_all4 (n:Nat) (q:Nat→Prop):cnt (4*n) (fun h=>q (h/ 4))=4*cnt n q:=by
 induction n with
 | zero=>rfl
 | succ n ih=>
  rw [show 4*(n+1)=4*n+1+1+1+1 from by omega]
  have e:(4*n)/ 4=n∧(4*n+1)/ 4=n∧(4*n+1+1)/ 4=n∧(4*n+1+1+1)/ 4=n:=by omega
  by_cases hq:q n
  ·
   rw [qbn (p:=fun h=>q (h/ 4)) (by rw [e.2.2.2]; exact hq),qbn (p:=fun h=>q (h/ 4)) (by rw [e.2.2.1]; exact hq),qbn (p:=fun h=>q (h/ 4)) (by rw [e.2.1]; exact hq),qbn (p:=fun h=>q (h/ 4)) (by rw [e.1]; exact hq),qbn hq,ih]
   omega
  · rw [qbh (p:=fun h=>q (h/ 4)) (by rw [e.2.2.2]; exact hq),qbh (p:=fun h=>q (h/ 4)) (by rw [e.2.2.1]; exact hq),qbh (p:=fun h=>q (h/ 4)) (by rw [e.2.1]; exact hq),qbh (p:=fun h=>q (h/ 4)) (by rw [e.1]; exact hq),qbh hq,ih]
structure IV (n:Nat) (μ:Nat→Nat):Prop where
 lt: ∀h,h<4*n→μ h<4*n
 inv: ∀h,h<4*n→μ (μ h)=h
theorem MT.iv {n:Nat} {M:List Int} {μ:Nat→Nat} (h:MT (4*n) M μ):IV n μ:=⟨fun k hk=>(h.2 k hk).2.1,fun k hk=>(h.2 k hk).2.2.1⟩
theorem IV.pi {n:Nat} {μ:Nat→Nat} (h:IV n μ):PI (4*n) (fc μ):=
 ⟨fun a ha=>turnN_lt (h.lt a ha),fun a b ha hb e=>by rw [←h.inv a ha,turnN_inj e,h.inv b hb]⟩
theorem IV.symm {n:Nat} {μ:Nat→Nat} (h:IV n μ) (a b:Nat) (k:adjP n μ a b):adjP n μ b a:=by
 obtain ⟨h1,h2,s,hs,h3⟩:=k
 have h4:=h.lt (4*a+s) (by omega)
 have h5:=h.inv (4*a+s) (by omega)
 refine ⟨h2,h1,μ (4*a+s)%4,by omega,?_⟩
 rw [←h3,show 4*(μ (4*a+s)/ 4)+μ (4*a+s)%4=μ (4*a+s) from by omega,h5]
 omega
noncomputable def mvd (n:Nat) (μ:Nat→Nat):Nat:=cnt (4*n) (fun h=>μ h≠h)
noncomputable def dd (n:Nat) (μ:Nat→Nat):Int:=4*(cls n (adjP n μ):Int)-2*(n:Int)+(mvd n μ:Int)-2*(cls (4*n) (adjF n μ):Int)
theorem face_part {n:Nat} {μ:Nat→Nat} (h:IV n μ) {a b:Nat} (hc:Cn (adjF n μ) a b):Cn (adjP n μ) (a/ 4) (b/ 4):=by
 refine Cn.map (f:=fun h=>h/ 4) (fun x y hxy=>?_) hc
 have fw: ∀x,x<4*n→adjP n μ (x/ 4) (fc μ x/ 4):=by
  intro x hx
  have:=h.lt x hx
  refine ⟨by omega,?_,x%4,by omega,?_⟩
  · unfold fc turnN; omega
  ·
   rw [show 4*(x/ 4)+x%4=x from by omega]
   unfold fc turnN; omega
 obtain ⟨h1,h2,h3 | h3⟩:=hxy
 ·
  show Cn _ (x/ 4) (y/ 4)
  rw [h3]; exact Cn.one (fw x h1)
 ·
  show Cn _ (x/ 4) (y/ 4)
  rw [h3]; exact Cn.one (h.symm _ _ (fw y h2))
def addP (μ:Nat→Nat) (a b h:Nat):Nat:=if h=a then b else if h=b then a else μ h
theorem IV.add {n:Nat} {μ:Nat→Nat} (h:IV n μ) {a b:Nat} (ha:a<4*n) (hb:b<4*n) (hab:a≠b) (fa:μ a=a) (fb:μ b=b):IV n (addP μ a b):=by
 refine ⟨fun x hx=>?_,fun x hx=>?_⟩
 ·
  unfold addP
  split
  · exact hb
  split
  · exact ha
  · exact h.lt x hx
 ·
  unfold addP
  by_cases x1:x=a
  ·
   subst x1
   rw [if_pos rfl,if_neg (fun e=>hab e.symm),if_pos rfl]
  by_cases x2:x=b
  ·
   subst x2
   rw [if_neg x1,if_pos rfl,if_pos rfl]
  ·
   rw [if_neg x1,if_neg x2]
   have m1:μ x≠a:=fun e=>x1 (by rw [←h.inv x hx,e,fa])
   have m2:μ x≠b:=fun e=>x2 (by rw [←h.inv x hx,e,fb])
   rw [if_neg m1,if_neg m2,h.inv x hx]
theorem dd_add {n:Nat} {μ:Nat→Nat} (h:IV n μ) {a b:Nat} (ha:a<4*n) (hb:b<4*n) (hab:a≠b) (fa:μ a=a) (fb:μ b=b):dd n (addP μ a b)=dd n μ∨dd n (addP μ a b)=dd n μ+4:=by
 have hm:mvd n (addP μ a b)=mvd n μ+2:=by
  unfold mvd
  have c1:=qeg (N:=4*n) (p:=fun x=>μ x≠x) ha (fun q=>q fa)
  have c2:=qeg (N:=4*n) (p:=fun h=>h=a∨μ h≠h) hb (by rintro (e | e); exact hab e.symm; exact e fb)
  have c3:cnt (4*n) (fun x=>addP μ a b x≠x)=cnt (4*n) (fun h=>h=b∨h=a∨μ h≠h):=by
   refine qby fun k hk=>?_
   unfold addP
   by_cases k1:k=a
   · subst k1; rw [if_pos rfl]; exact ⟨fun _=>.inr (.inl rfl),fun _ e=>hab e.symm⟩
   by_cases k2:k=b
   · subst k2; rw [if_neg k1,if_pos rfl]; exact ⟨fun _=>.inl rfl,fun _ e=>hab e⟩
   ·
    rw [if_neg k1,if_neg k2]
    exact ⟨fun e=>.inr (.inr e),fun e=>by rcases e with e | e | e; exact absurd e k2; exact absurd e k1; exact e⟩
  omega
 have hf:fc (addP μ a b)=sw (fc μ) a b:=by
  funext x
  unfold fc addP sw
  by_cases x1:x=a
  ·
   rw [if_pos x1,if_pos x1]
   show turnN b 3=turnN (μ b) 3
   rw [fb]
  by_cases x2:x=b
  ·
   rw [if_neg x1,if_pos x2,if_neg x1,if_pos x2]
   show turnN a 3=turnN (μ a) 3
   rw [fa]
  · rw [if_neg x1,if_neg x2,if_neg x1,if_neg x2]
 have hF:cls (4*n) (adjF n (addP μ a b))=cls (4*n) (adjI (4*n) (sw (fc μ) a b)):=by
  rw [←hf]; rfl
 have hF0:cls (4*n) (adjF n μ)=cls (4*n) (adjI (4*n) (fc μ)):=rfl
 obtain ⟨f1,f2⟩:=cls_sw h.pi ha hb hab
 have hP: ∀x y,Cn (adjP n (addP μ a b)) x y↔Cn (orAdj (adjP n μ) (a/ 4) (b/ 4)) x y:=by
  intro x y
  constructor
  ·
   refine fun hc=>Cn.map (f:=id) (fun x y hxy=>?_) hc
   show Cn _ x y
   obtain ⟨h1,h2,s,hs,h3⟩:=hxy
   unfold addP at h3
   by_cases s1:4*x+s=a
   ·
    rw [if_pos s1] at h3
    exact Cn.one (.inr (.inl ⟨by omega,h3.symm⟩))
   by_cases s2:4*x+s=b
   ·
    rw [if_neg s1,if_pos s2] at h3
    exact Cn.one (.inr (.inr ⟨by omega,h3.symm⟩))
   ·
    rw [if_neg s1,if_neg s2] at h3
    exact Cn.one (.inl ⟨h1,h2,s,hs,h3⟩)
  ·
   have hp:adjP n (addP μ a b) (a/ 4) (b/ 4):=⟨by omega,by omega,a%4,by omega,by
    rw [show 4*(a/ 4)+a%4=a from by omega]
    unfold addP
    rw [if_pos rfl]⟩
   refine fun hc=>Cn.map (f:=id) (fun x y hxy=>?_) hc
   show Cn _ x y
   rcases hxy with ⟨h1,h2,s,hs,h3⟩ | ⟨rfl,rfl⟩ | ⟨rfl,rfl⟩
   ·
    by_cases s1:4*x+s=a
    ·
     rw [s1,fa] at h3
     have:x=y:=by omega
     rw [this]; exact .refl _
    by_cases s2:4*x+s=b
    ·
     rw [s2,fb] at h3
     have:x=y:=by omega
     rw [this]; exact .refl _
    ·
     refine Cn.one ⟨h1,h2,s,hs,?_⟩
     unfold addP
     rw [if_neg s1,if_neg s2]; exact h3
   · exact Cn.one hp
   · exact Cn.one ((h.add ha hb hab fa fb).symm _ _ hp)
 have hK:cls n (adjP n (addP μ a b))=cls n (orAdj (adjP n μ) (a/ 4) (b/ 4)):=qef fun x y _ _=>hP x y
 unfold dd
 by_cases hc:Cn (adjP n μ) (a/ 4) (b/ 4)
 ·
  have hK2:cls n (orAdj (adjP n μ) (a/ 4) (b/ 4))=cls n (adjP n μ):=qef fun x y _ _=>⟨fun q=>Cn.map (f:=id) (fun x y hxy=>by
   show Cn _ x y
   rcases hxy with hxy | ⟨rfl,rfl⟩ | ⟨rfl,rfl⟩
   · exact Cn.one hxy
   · exact hc
   · exact hc.symm h.symm) q,fun q=>Cn.map (f:=id) (fun x y hxy=>Cn.one (.inl hxy)) q⟩
  by_cases hfc:Cn (adjI (4*n) (fc μ)) a b
  ·
   have:=f2 hfc
   left; omega
  ·
   have:=f1 hfc
   right; omega
 ·
  have hj:=cls_join h.symm (show a/ 4<n by omega) (show b/ 4<n by omega) hc
  have:=f1 (fun hfc=>hc (face_part h hfc))
  left; omega
theorem dd_mono {n:Nat} {μ:Nat→Nat} (h:IV n μ): ∀(k:Nat) (ν:Nat→Nat),IV n ν→4*n-mvd n ν≤k→(∀x,x<4*n→ν x=x∨ν x=μ x)→∃j:Nat,dd n μ=dd n ν+4*(j:Int):=by
 intro k
 induction k with
 | zero=>
  intro ν hν hk hle
  have hc:=cnt_le (4*n) (fun x=>ν x≠x)
  have hall: ∀x,x<4*n→ν x≠x:=by
   intro x hx e
   have:=qeg (N:=4*n) (p:=fun x=>ν x≠x) hx (fun q=>q e)
   have h2:=cnt_le (4*n) (fun h=>h=x∨ν h≠h)
   unfold mvd at hk
   omega
  refine ⟨0,?_⟩
  have e: ∀x,x<4*n→ν x=μ x:=fun x hx=>by
   rcases hle x hx with q | q
   · exact absurd q (hall x hx)
   · exact q
  have e1:cls n (adjP n μ)=cls n (adjP n ν):=qef fun x y _ _=>by
   have:adjP n μ=adjP n ν:=by
    funext c d
    refine propext ⟨fun ⟨h1,h2,s,hs,h3⟩=>⟨h1,h2,s,hs,by rw [e _ (by omega)]; exact h3⟩,fun ⟨h1,h2,s,hs,h3⟩=>⟨h1,h2,s,hs,by rw [←e _ (by omega)]; exact h3⟩⟩
   rw [this]
  have e2:cls (4*n) (adjF n μ)=cls (4*n) (adjF n ν):=qef fun x y _ _=>by
   have:adjF n μ=adjF n ν:=by
    funext c d
    unfold adjF fc
    refine propext ⟨fun ⟨h1,h2,h3⟩=>⟨h1,h2,by rw [e c h1,e d h2]; exact h3⟩,fun ⟨h1,h2,h3⟩=>⟨h1,h2,by rw [←e c h1,←e d h2]; exact h3⟩⟩
   rw [this]
  have e3:mvd n μ=mvd n ν:=qby fun x hx=>by rw [e x hx]
  unfold dd
  rw [e1,e2,e3]
  simp
 | succ k ih=>
  intro ν hν hk hle
  by_cases hex: ∃x,x<4*n∧ν x≠μ x
  ·
   obtain ⟨a,ha,hne⟩:=hex
   have fa:ν a=a:=by
    rcases hle a ha with q | q
    · exact q
    · exact absurd q hne
   have hb:=h.lt a ha
   have hab:a≠μ a:=fun e=>hne (by rw [fa]; exact e)
   have fb:ν (μ a)=μ a:=by
    rcases hle _ hb with q | q
    · exact q
    ·
     rw [h.inv a ha] at q
     exact absurd (by rw [←hν.inv _ hb,q,fa]) hab
   have hI:=hν.add ha hb hab fa fb
   have hm:mvd n ν+2≤mvd n (addP ν a (μ a)):=by
    have:=dd_add hν ha hb hab fa fb
    unfold mvd
    have c1:=qeg (N:=4*n) (p:=fun x=>ν x≠x) ha (fun q=>q fa)
    have c2:=qeg (N:=4*n) (p:=fun h=>h=a∨ν h≠h) hb (by rintro (e | e); exact hab e.symm; exact e fb)
    have:cnt (4*n) (fun h=>h=μ a∨h=a∨ν h≠h)=cnt (4*n) (fun x=>addP ν a (μ a) x≠x):=by
     refine qby fun k hk=>?_
     unfold addP
     by_cases k1:k=a
     · subst k1; rw [if_pos rfl]; exact ⟨fun _ e=>hab e.symm,fun _=>.inr (.inl rfl)⟩
     by_cases k2:k=μ a
     · subst k2; rw [if_neg k1,if_pos rfl]; exact ⟨fun _ e=>hab e,fun _=>.inl rfl⟩
     ·
      rw [if_neg k1,if_neg k2]
      exact ⟨fun e=>by rcases e with e | e | e; exact absurd e k2; exact absurd e k1; exact e,fun e=>.inr (.inr e)⟩
    omega
   obtain ⟨j,hj⟩:=ih (addP ν a (μ a)) hI (by omega) (fun x hx=>by
    unfold addP
    by_cases x1:x=a
    · right; rw [if_pos x1,x1]
    by_cases x2:x=μ a
    · right; rw [if_neg x1,if_pos x2,x2,h.inv a ha]
    · rw [if_neg x1,if_neg x2]; exact hle x hx)
   rcases dd_add hν ha hb hab fa fb with q | q
   · exact ⟨j,by rw [hj,q]⟩
   · exact ⟨j+1,by rw [hj,q]; omega⟩
  ·
   refine ⟨0,?_⟩
   have e: ∀x,x<4*n→ν x=μ x:=fun x hx=>Classical.byContradiction fun q=>hex ⟨x,hx,q⟩
   have e1:cls n (adjP n μ)=cls n (adjP n ν):=qef fun x y _ _=>by
    have:adjP n μ=adjP n ν:=by
     funext c d
     refine propext ⟨fun ⟨h1,h2,s,hs,h3⟩=>⟨h1,h2,s,hs,by rw [e _ (by omega)]; exact h3⟩,fun ⟨h1,h2,s,hs,h3⟩=>⟨h1,h2,s,hs,by rw [←e _ (by omega)]; exact h3⟩⟩
    rw [this]
   have e2:cls (4*n) (adjF n μ)=cls (4*n) (adjF n ν):=qef fun x y _ _=>by
    have:adjF n μ=adjF n ν:=by
     funext c d
     unfold adjF fc
     refine propext ⟨fun ⟨h1,h2,h3⟩=>⟨h1,h2,by rw [e c h1,e d h2]; exact h3⟩,fun ⟨h1,h2,h3⟩=>⟨h1,h2,by rw [←e c h1,←e d h2]; exact h3⟩⟩
    rw [this]
   have e3:mvd n μ=mvd n ν:=qby fun x hx=>by rw [e x hx]
   unfold dd
   rw [e1,e2,e3]
   simp
noncomputable def muR (μ:Nat→Nat) (S:Nat→Prop) (h:Nat):Nat:=by
 classical exact if S (h/ 4) then μ h else h
theorem muR_in {μ:Nat→Nat} {S:Nat→Prop} {h:Nat} (hs:S (h/ 4)):muR μ S h=μ h:=by unfold muR; rw [if_pos hs]
theorem muR_out {μ:Nat→Nat} {S:Nat→Prop} {h:Nat} (hs: ¬S (h/ 4)):muR μ S h=h:=by unfold muR; rw [if_neg hs]
section
variable {n : Nat} {μ : Nat → Nat} (h : IV n μ) {S : Nat → Prop} (hS : ∀ c d, S c → adjP n μ c d → S d)
include h hS
theorem mem_S {x:Nat} (hx:x<4*n):S (x/ 4)↔S (μ x/ 4):=by
 have hl:=h.lt x hx
 have a1:adjP n μ (x/ 4) (μ x/ 4):=⟨by omega,by omega,x%4,by omega,by rw [show 4*(x/ 4)+x%4=x from by omega]⟩
 exact ⟨fun q=>hS _ _ q a1,fun q=>hS _ _ q (h.symm _ _ a1)⟩
theorem IV.restr:IV n (muR μ S):=by
 refine ⟨fun x hx=>?_,fun x hx=>?_⟩
 ·
  by_cases hs:S (x/ 4)
  · rw [muR_in hs]; exact h.lt x hx
  · rw [muR_out hs]; exact hx
 ·
  by_cases hs:S (x/ 4)
  · rw [muR_in hs,muR_in ((mem_S h hS hx).1 hs),h.inv x hx]
  · rw [muR_out hs,muR_out hs]
theorem restr_faces:cls (4*n) (adjF n (muR μ S))=cnt (4*n) (fun k=>S (k/ 4)∧Rep (adjF n μ) k)+cnt n (fun c=> ¬S c):=by
 have hI:=IV.restr h hS
 have hin: ∀x y,x<4*n→S (x/ 4)→(Cn (adjF n (muR μ S)) x y↔Cn (adjF n μ) x y):=by
  intro x y hx hs
  constructor
  ·
   intro hc
   have:=Cn.closed (S:=fun y=>S (y/ 4)∧Cn (adjF n μ) x y) (fun a b ha hab=>?_) hc ⟨hs,.refl _⟩
   · exact this.2
   ·
    obtain ⟨ha1,ha2⟩:=ha
    obtain ⟨h1,h2,h3⟩:=hab
    rcases h3 with h3 | h3
    ·
     have e:b=fc μ a:=by rw [h3]; unfold fc; rw [muR_in ha1]
     refine ⟨?_,ha2.step ⟨h1,h2,.inl e⟩⟩
     rw [e]
     unfold fc
     have:=(mem_S h hS h1).1 ha1
     rwa [show turnN (μ a) 3/ 4=μ a/ 4 from by unfold turnN; omega]
    ·
     have hb:S (b/ 4):=by
      apply Classical.byContradiction
      intro hb
      unfold fc at h3
      rw [muR_out hb] at h3
      exact hb (by rw [show b/ 4=a/ 4 from by rw [h3]; unfold turnN; omega]; exact ha1)
     have e:a=fc μ b:=by rw [h3]; unfold fc; rw [muR_in hb]
     exact ⟨hb,ha2.step ⟨h1,h2,.inr e⟩⟩
  ·
   intro hc
   have:=Cn.closed (S:=fun y=>S (y/ 4)∧Cn (adjF n (muR μ S)) x y) (fun a b ha hab=>?_) hc ⟨hs,.refl _⟩
   · exact this.2
   ·
    obtain ⟨ha1,ha2⟩:=ha
    obtain ⟨h1,h2,h3⟩:=hab
    rcases h3 with h3 | h3
    ·
     have e:b=fc (muR μ S) a:=by rw [h3]; unfold fc; rw [muR_in ha1]
     refine ⟨?_,ha2.step ⟨h1,h2,.inl e⟩⟩
     rw [h3]
     unfold fc
     have:=(mem_S h hS h1).1 ha1
     rwa [show turnN (μ a) 3/ 4=μ a/ 4 from by unfold turnN; omega]
    ·
     have hb:S (b/ 4):=by
      rw [mem_S h hS h2,show μ b/ 4=a/ 4 from by rw [h3]; unfold fc turnN; omega]
      exact ha1
     have e:a=fc (muR μ S) b:=by rw [h3]; unfold fc; rw [muR_in hb]
     exact ⟨hb,ha2.step ⟨h1,h2,.inr e⟩⟩
 have hout: ∀x y,x<4*n→y<4*n→¬S (y/ 4)→(Cn (adjF n (muR μ S)) x y↔x/ 4=y/ 4):=by
  intro x y hx hy hs
  constructor
  ·
   intro hc
   have:=Cn.closed (S:=fun x=> ¬S (x/ 4)∧x/ 4=y/ 4) (fun a b ha hab=>?_) (hc.symm adjF_symm) ⟨hs,rfl⟩
   · exact this.2
   ·
    obtain ⟨ha1,ha2⟩:=ha
    obtain ⟨h1,h2,h3⟩:=hab
    have:b/ 4=a/ 4:=by
     rcases h3 with h3 | h3
     · rw [h3]; unfold fc; rw [muR_out ha1]; unfold turnN; omega
     ·
      have hb: ¬S (b/ 4):=fun hb=>by
       have h4:=(mem_S h hS h2).1 hb
       unfold fc at h3
       rw [muR_in hb] at h3
       exact ha1 (by rw [show a/ 4=μ b/ 4 from by rw [h3]; unfold turnN; omega]; exact h4)
      rw [h3]; unfold fc; rw [muR_out hb]; unfold turnN; omega
    exact ⟨by rw [this]; exact ha1,by rw [this]; exact ha2⟩
  ·
   intro e
   have hsx: ¬S (x/ 4):=by rw [e]; exact hs
   have stp: ∀x,x<4*n→¬S (x/ 4)→Cn (adjF n (muR μ S)) x (turnN x 3):=by
    intro x hx hsx
    refine Cn.one ⟨hx,turnN_lt hx,.inl ?_⟩
    unfold fc; rw [muR_out hsx]
   have e4: ∀x,turnN x 3/ 4=x/ 4:=fun x=>by unfold turnN; omega
   have s1:=stp x hx hsx
   have s2:=s1.trans (stp _ (turnN_lt hx) (by rw [e4]; exact hsx))
   have s3:=s2.trans (stp _ (turnN_lt (turnN_lt hx)) (by rw [e4,e4]; exact hsx))
   have:y=x∨y=turnN x 3∨y=turnN (turnN x 3) 3∨y=turnN (turnN (turnN x 3) 3) 3:=by unfold turnN; omega
   rcases this with q | q | q | q
   · rw [q]; exact .refl _
   · rw [q]; exact s1
   · rw [q]; exact s2
   · rw [q]; exact s3
 show cnt (4*n) (Rep (adjF n (muR μ S)))=_
 rw [cnt_split (4*n) _ (fun k=>S (k/ 4))]
 congr 1
 ·
  refine qby fun k hk=>⟨fun ⟨q1,q2⟩=>⟨q1,fun g hg hgk=>q2 g hg ?_⟩,fun ⟨q1,q2⟩=>⟨q1,fun g hg hgk=>q2 g hg ?_⟩⟩
  · exact ((hin k g hk q1).2 (hgk.symm adjF_symm)).symm adjF_symm
  · exact ((hin k g hk q1).1 (hgk.symm adjF_symm)).symm adjF_symm
 ·
  rw [←cnt_four n (fun c=> ¬S c)]
  refine qby fun k hk=>⟨fun ⟨q1,q2⟩=>⟨q1,?_⟩,fun ⟨q1,q2⟩=>⟨q1,fun g hg hgk=>?_⟩⟩
  ·
   apply Classical.byContradiction
   intro hne
   exact q2 (k-1) (by omega) ((hout (k-1) k (by omega) hk q1).2 (by omega))
  ·
   have:=(hout g k (by omega) hk q1).1 hgk
   omega
theorem restr_parts {c0:Nat} (h0:c0<n) (hc: ∀c,c<n→(S c↔Cn (adjP n μ) c0 c)):cls n (adjP n (muR μ S))=cnt n (fun c=> ¬S c)+1:=by
 have hI:=IV.restr h hS
 have hin: ∀x y,x<n→S x→(Cn (adjP n (muR μ S)) x y↔Cn (adjP n μ) x y):=by
  intro x y hx hs
  constructor
  ·
   intro q
   refine (Cn.closed (S:=fun y=>S y∧Cn (adjP n μ) x y) (fun a b ha hab=>?_) q ⟨hs,.refl _⟩).2
   obtain ⟨h1,h2,s,hs',h3⟩:=hab
   rw [muR_in (by rw [show (4*a+s)/ 4=a from by omega]; exact ha.1)] at h3
   have:adjP n μ a b:=⟨h1,h2,s,hs',h3⟩
   exact ⟨hS _ _ ha.1 this,ha.2.step this⟩
  ·
   intro q
   refine (Cn.closed (S:=fun y=>S y∧Cn (adjP n (muR μ S)) x y) (fun a b ha hab=>?_) q ⟨hs,.refl _⟩).2
   refine ⟨hS _ _ ha.1 hab,ha.2.step ?_⟩
   obtain ⟨h1,h2,s,hs',h3⟩:=hab
   exact ⟨h1,h2,s,hs',by rw [muR_in (by rw [show (4*a+s)/ 4=a from by omega]; exact ha.1)]; exact h3⟩
 have hout: ∀x y,¬S y→Cn (adjP n (muR μ S)) x y→x=y:=by
  intro x y hs q
  refine Cn.closed (S:=fun x=>x=y) (fun a b ha hab=>?_) (q.symm hI.symm) rfl
  obtain ⟨h1,h2,s,hs',h3⟩:=hab
  subst ha
  rw [muR_out (by rw [show (4*a+s)/ 4=a from by omega]; exact hs)] at h3
  omega
 show cnt n (Rep (adjP n (muR μ S)))=_
 rw [cnt_split n _ S]
 obtain ⟨m,m1,m2,m3⟩:=least_of (p:=fun c=>Cn (adjP n μ) c0 c) (Cn.refl c0)
 have hm:m<n:=by omega
 have hSm:S m:=(hc m hm).2 m1
 have e1:cnt n (fun k=>S k∧Rep (adjP n (muR μ S)) k)=1:=by
  have:cnt n (fun k=>S k∧Rep (adjP n (muR μ S)) k)=cnt n (fun k=>k=m∨False):=by
   refine qby fun k hk=>⟨fun ⟨q1,q2⟩=>.inl ?_,fun q=>?_⟩
   ·
    have hk0:=(hc k hk).1 q1
    rcases Nat.lt_trichotomy m k with q | q | q
    · exact absurd ((hin m k hm hSm).2 ((m1.symm h.symm).trans hk0)) (q2 m q)
    · exact q.symm
    · exact absurd hk0 (m3 k q)
   ·
    rcases q with q | q
    ·
     subst q
     refine ⟨hSm,fun g hg hgk=>m3 g hg ?_⟩
     exact m1.trans ((hin k g hm hSm).1 (hgk.symm hI.symm))
    · exact q.elim
  rw [this,qeg hm (fun q=>q),cnt_none (fun _ _ q=>q)]
 have e2:cnt n (fun k=> ¬S k∧Rep (adjP n (muR μ S)) k)=cnt n (fun c=> ¬S c):=qby fun k hk=>⟨fun q=>q.1,fun q=>⟨q,fun g hg hgk=>by have:=hout g k q hgk; omega⟩⟩
 rw [e1,e2]
 omega
omit h hS in
theorem restr_mvd (hfix: ∀x,x<4*n→μ x≠x):mvd n (muR μ S)=4*cnt n S:=by
 unfold mvd
 rw [←cnt_all4]
 refine qby fun k hk=>⟨fun q=>?_,fun q=>by rw [muR_in q]; exact hfix k hk⟩
 apply Classical.byContradiction
 intro hs
 exact q (muR_out hs)
end
theorem dd_id (n:Nat):dd n (fun h=>h)=0:=by
 have h:IV n (fun h=>h):=⟨fun x hx=>hx,fun x hx=>rfl⟩
 have e:muR (fun h=>h) (fun _=>False)=fun h=>h:=by funext x; exact muR_out (fun q=>q)
 have hf:=restr_faces h (S:=fun _=>False) (fun _ _ q _=>q)
 rw [e,cnt_none (p:=fun k=>False∧Rep (adjF n fun h=>h) k) (fun _ _ q=>q.1),cnt_all (p:=fun c=> ¬False) (fun _ _ q=>q)] at hf
 have hp:cls n (adjP n fun h=>h)=n:=cnt_all fun k hk=>fun g hg hgk=>by
  have:=Cn.closed (S:=fun x=>x=g) (fun a b ha hab=>by
   obtain ⟨h1,h2,s,hs',h3⟩:=hab
   have h3:(4*a+s)/ 4=b:=h3
   omega) hgk rfl
  omega
 have hm:mvd n (fun h=>h)=0:=cnt_none fun _ _ q=>q rfl
 unfold dd
 rw [hf,hp,hm]
 omega
theorem dd_full {n:Nat} {M:List Int} {μ:Nat→Nat} (hM:MT (4*n) M μ):dd n μ=2*gen2 n μ:=by
 have hm:mvd n μ=4*n:=cnt_all fun k hk=>(hM.2 k hk).2.2.2
 unfold dd gen2
 omega
theorem sphere {n:Nat} {M:List Int} {μ:Nat→Nat} (hM:MT (4*n) M μ) (hg:gen2 n μ=0) {S:Nat→Prop} {c0:Nat} (h0:c0<n) (hc: ∀c,c<n→(S c↔Cn (adjP n μ) c0 c)):
  cnt (4*n) (fun h=>S (h/ 4)∧Rep (adjF n μ) h)=cnt n S+2:=by
 have h:=hM.iv
 have hS: ∀c d,S c→adjP n μ c d→S d:=fun c d q a=>(hc d a.2.1).2 (((hc c a.1).1 q).step a)
 have hI:=IV.restr h hS
 obtain ⟨i,hi⟩:=dd_mono h (4*n) (muR μ S) hI (by omega) (fun x hx=>by
  by_cases hs:S (x/ 4)
  · right; exact muR_in hs
  · left; exact muR_out hs)
 obtain ⟨j,hj⟩:=dd_mono hI (4*n) (fun h=>h) ⟨fun x hx=>hx,fun x hx=>rfl⟩ (by omega) (fun x _=>.inl rfl)
 rw [dd_full hM,hg] at hi
 rw [dd_id] at hj
 have hd:dd n (muR μ S)=0:=by omega
 unfold dd at hd
 rw [restr_parts h hS h0 hc,restr_faces h hS,restr_mvd (fun x hx=>(hM.2 x hx).2.2.2)] at hd
 have hs:=cnt_split n (fun _=>True) S
 rw [cnt_all (p:=fun _=>True) (fun _ _=>trivial)] at hs
 have e1:cnt n (fun c=>S c∧True)=cnt n S:=qby fun k _=>⟨fun q=>q.1,fun q=>⟨q,trivial⟩⟩
 have e2:cnt n (fun c=> ¬S c∧True)=cnt n (fun c=> ¬S c):=qby fun k _=>⟨fun q=>q.1,fun q=>⟨q,trivial⟩⟩
 omega
def iL (N:Nat) (f:Nat→Int):List Int:=(List.range N).map f
theorem iL_len (N:Nat) (f:Nat→Int):(iL N f).length=N:=by simp [iL]
theorem qdw {N:Nat} {f:Nat→Int} {k:Nat} (h:k<N):(iL N f)[k]? =some (f k):=by
 unfold iL
 rw [List.getElem?_map,List.getElem?_range h]; rfl
theorem iL_set {N:Nat} {f:Nat→Int} {k:Nat} {v:Int}:(iL N f).set k v=iL N (fun j=>if j=k then v else f j):=by
 apply List.ext_getElem?
 intro j
 rw [List.getElem?_set]
 by_cases hj:j<N
 ·
  rw [qdw hj,qdw hj,iL_len]
  by_cases hk:k=j
  · subst hk; simp [hj]
  · rw [if_neg hk,if_neg (fun h=>hk h.symm)]
 ·
  rw [List.getElem?_eq_none (by rw [iL_len]; omega),List.getElem?_eq_none (by rw [iL_len]; omega),iL_len]
  split
  · rw [if_neg (by omega)]
  · rfl
theorem qdb {N:Nat} {f g:Nat→Int} (h: ∀k,k<N→f k=g k):iL N f=iL N g:=List.map_congr_left fun k hk=>h k (List.mem_range.1 hk)
theorem iL_rep (N:Nat) (v:Int):List.replicate N v=iL N (fun _=>v):=by
 apply List.ext_getElem?
 intro j
 rw [List.getElem?_replicate]
 by_cases hj:j<N
 · rw [qdw hj,if_pos hj]
 · rw [List.getElem?_eq_none (by rw [iL_len]; omega),if_neg hj]
noncomputable def rp {adj:Nat→Nat→Prop} (hs: ∀a b,adj a b→adj b a) (c:Nat):Nat:=Classical.choose (rep_of hs c)
theorem rp_spec {adj:Nat→Nat→Prop} (hs: ∀a b,adj a b→adj b a) (c:Nat):rp hs c≤c∧Cn adj (rp hs c) c∧Rep adj (rp hs c):=Classical.choose_spec (rep_of hs c)
theorem rep_eq {adj:Nat→Nat→Prop} (hs: ∀a b,adj a b→adj b a) {r r':Nat} (h:Rep adj r) (h':Rep adj r') (hc:Cn adj r r'):r=r':=by
 rcases Nat.lt_trichotomy r r' with q | q | q
 · exact absurd hc (h' r q)
 · exact q
 · exact absurd (hc.symm hs) (h r' q)
noncomputable def lab {adj:Nat→Nat→Prop} (hs: ∀a b,adj a b→adj b a) (c:Nat):Int:=(cls (rp hs c) adj:Int)
theorem cls_mono {adj:Nat→Nat→Prop} {a b:Nat} (h:a≤b):cls a adj≤cls b adj:=by
 induction b with
 | zero=>
      obtain rfl:a=0:=by omega
      exact Nat.le_refl _
 | succ b ih=>
  rcases Nat.lt_or_ge a (b+1) with q | q
  ·
   have:=ih (by omega)
   by_cases hr:Rep adj b
   · rw [cls_succ_rep hr]; omega
   · rw [cls_succ_not hr]; exact this
  ·
   obtain rfl:a=b+1:=by omega
   exact Nat.le_refl _
theorem cls_rep_lt {adj:Nat→Nat→Prop} {r b:Nat} (h:Rep adj r) (hb:r<b):cls r adj<cls b adj:=by
 have:=cls_mono (adj:=adj) (show r+1≤b from hb)
 rw [cls_succ_rep h] at this
 omega
theorem lab_rep {adj:Nat→Nat→Prop} (hs: ∀a b,adj a b→adj b a) {r c:Nat} (h:Rep adj r):lab hs c=(cls r adj:Int)↔Cn adj r c:=by
 obtain ⟨_,h2,h3⟩:=rp_spec hs c
 unfold lab
 constructor
 ·
  intro e
  have e:cls (rp hs c) adj=cls r adj:=by omega
  have:rp hs c=r:=by
   rcases Nat.lt_trichotomy (rp hs c) r with q | q | q
   · have:=cls_rep_lt h3 q; omega
   · exact q
   · have:=cls_rep_lt h q; omega
  rw [←this]; exact h2
 ·
  intro q
  rw [rep_eq hs h h3 (q.trans (h2.symm hs))]
theorem lab_lt {adj:Nat→Nat→Prop} (hs: ∀a b,adj a b→adj b a) {c n:Nat} (hc:c<n):0≤lab hs c∧lab hs c<(cls n adj:Int):=by
 obtain ⟨h1,h2,h3⟩:=rp_spec hs c
 have:=cls_rep_lt (b:=n) h3 (by omega)
 unfold lab
 omega
theorem rep_at {adj:Nat→Nat→Prop} {p:Nat}: ∀{n:Nat},p<cls n adj→∃r,r<n∧Rep adj r∧cls r adj=p
 | 0,h=>by simp [cls,reps] at h
 | n+1,h=>by
  by_cases hr:Rep adj n
  ·
   rw [cls_succ_rep hr] at h
   rcases Nat.lt_or_ge p (cls n adj) with q | q
   ·
    obtain ⟨r,h1,h2⟩:=rep_at q
    exact ⟨r,by omega,h2⟩
   · exact ⟨n,by omega,hr,by omega⟩
  ·
   rw [cls_succ_not hr] at h
   obtain ⟨r,h1,h2⟩:=rep_at h
   exact ⟨r,by omega,h2⟩
def lbl (n:Nat) (o:Nat→Int) (v:Int) (S R:Nat→Bool):List Int:=iL n fun c=>if S c=true then o c else if R c=true then v else -1
theorem lbl_count {n:Nat} {o:Nat→Int} {v:Int} {S R:Nat→Bool} (ho: ∀c,0≤o c) (hv:0≤v) (hSR: ∀g,S g=true→R g=true):(lbl n o v S R).countP (fun x=>decide (x<0))=(bset n R).countP (fun b=>!b):=by
 unfold lbl iL bset
 rw [List.countP_map,List.countP_map]
 refine List.countP_congr fun c _=>?_
 show decide ((if S c=true then o c else if R c=true then v else -1)<0)=true↔(!R c)=true
 rw [decide_eq_true_iff]
 have:=ho c
 by_cases h1:S c=true
 · rw [if_pos h1,hSR c h1]; simp; omega
 ·
  rw [if_neg h1]
  by_cases h2:R c=true
  · rw [if_pos h2,h2]; simp; omega
  ·
   rw [if_neg h2]
   have:R c=false:=by simpa using h2
   rw [this]; simp
theorem lbl_add {n:Nat} {o:Nat→Int} {v:Int} {S R:Nat→Bool} {c:Nat} (hS: ¬S c=true):(lbl n o v S R).set c v=lbl n o v S (fun j=>decide (j=c) || R j):=by
 unfold lbl
 rw [iL_set]
 refine qdb fun j hj=>?_
 show (if j=c then v else (if S j=true then o j else if R j=true then v else -1))=(if S j=true then o j else if (decide (j=c) || R j)=true then v else -1)
 by_cases e:j=c
 · subst e; simp [hS]
 · simp [e]
theorem lbl_len (n:Nat) (o:Nat→Int) (v:Int) (S R:Nat→Bool):(lbl n o v S R).length=n:=iL_len _ _
theorem nbr_loop2 {n:Nat} {M:List Int} {μ:Nat→Nat} (hM:MT (4*n) M μ) (hn:n≤100) {c:Nat} (hc:c<n) (l:List Nat) (hl:l.length≤100000) (o:Nat→Int) (ho: ∀c,0≤o c) (v:Int) (hv:0≤v) (S R:Nat→Bool) (hSR: ∀g,S g=true→R g=true) (m:Nat) (hm:4<m) (m':Nat):
  loopN m (F.qfp m' M v (c:Int)) (castL l,0,lbl n o v S R)=some (castL (nbrs μ c (l,R) 4).1,((4:Nat):Int),lbl n o v S (nbrs μ c (l,R) 4).2):=by
 refine qce (fun k:Nat=>(castL (nbrs μ c (l,R) k).1,(k:Int),lbl n o v S (nbrs μ c (l,R) k).2)) 4 (fun k hk=>?_) ?_ m hm
 ·
  obtain ⟨new,h1,_,h3,_,_,h6⟩:=nbrs_spec hM hc l R k (by omega)
  have hlen:(nbrs μ c (l,R) k).1.length≤100004:=by rw [h1,List.length_append]; omega
  have hSR': ∀g,S g=true→(nbrs μ c (l,R) k).2 g=true:=fun g hg=>(h3 g).2 (.inl (hSR g hg))
  clear h1 h6 h3
  rw [nbrs_succ]
  generalize nbrs μ c (l,R) k=a at*
  have hmt:=hM.2 (4*c+k) (by omega)
  have hx:μ (4*c+k)/ 4<n:=by omega
  have ht:Int.tdiv ((μ (4*c+k):Nat):Int) 4=((μ (4*c+k)/ 4:Nat):Int):=Int.ofNat_tdiv _ 4
  unfold F.qfp
  dsimp only
  have hget: ∀R',Ev.get (lbl n o v S R') ((μ (4*c+k)/ 4:Nat):Int)=some (if S (μ (4*c+k)/ 4)=true then o (μ (4*c+k)/ 4) else if R' (μ (4*c+k)/ 4)=true then v else -1):=fun R'=>by
   rw [qbl]; exact qdw hx
  rw [dT (by omega),kT,qal (by omega) (by omega),bB,qal (by omega) (by omega),bB,show 4*(c:Int)+(k:Int)=((4*c+k:Nat):Int) from by omega,qbl,hmt.1,bB,nz_ok (by decide),bB,ht,qal (by omega) (by omega),bB,hget,bB]
  unfold nbr
  cases hr:a.2 (μ (4*c+k)/ 4) with
  | true=>
   have hneg: ¬((if S (μ (4*c+k)/ 4)=true then o (μ (4*c+k)/ 4) else if true=true then v else -1)<0):=by
    have:=ho (μ (4*c+k)/ 4)
    split
    · omega
    · rw [if_pos rfl]; omega
   rw [dF hneg,kF,qal (by omega) (by omega),bB,if_pos rfl]
   rfl
  | false=>
   have hSf: ¬S (μ (4*c+k)/ 4)=true:=fun h=>by rw [hSR' _ h] at hr; cases hr
   rw [if_neg hSf,if_neg (by simp),dT (by decide),kT,bB,lim_ok (by rw [castL_len]; simp; omega),bB,qal (by omega) (by omega),bB,Int.toNat_natCast,if_neg (by simp)]
   dsimp only
   have e:(lbl n o v S a.2).set (μ (4*c+k)/ 4) v=lbl n o v S (fun j=>decide (j=μ (4*c+k)/ 4) || a.2 j):=lbl_add hSf
   rw [e]
   unfold castL
   rw [List.map_append]
   rfl
 ·
  unfold F.qfp
  dsimp only
  rw [dF (by omega),kF]
open Classical in
theorem part_loop2 {n:Nat} {M:List Int} {μ:Nat→Nat} (hM:MT (4*n) M μ) (hn:n≤100) (o:Nat→Int) (ho: ∀c,0≤o c) (v:Int) (hv:0≤v) (S:Nat→Bool) (hS: ∀a b,S a=true→adjP n μ a b→S b=true) {c:Nat} (hc:c<n) (hx:S c=false) (m:Nat) (hm:300<m):
  loopN m (F.qen m M v) ([(c:Int)],(lbl n o v S S).set c v)=some ([],lbl n o v S (fun g=>S g || decide (Cn (adjP n μ) c g))):=by
 have e0:(lbl n o v S S).set c v=lbl n o v S (fun g=>decide (g=c) || S g):=lbl_add (by rw [hx]; simp)
 rw [e0]
 obtain ⟨r,h1,h2⟩:=qez (body:=F.qen m M v)
  (fun s=> ∃(l:List Nat) (R:Nat→Bool),s=(castL l,lbl n o v S R)∧l.length+(bset n R).countP (fun b=>!b)≤1000∧(∀g,S g=true→R g=true)∧R c=true∧(∀g,R g=true→S g=true∨Cn (adjP n μ) c g)∧(∀x∈l,x<n∧R x=true∧Cn (adjP n μ) c x)∧(∀g,g<n→R g=true→S g=false→g∉l→∀d,adjP n μ g d→R d=true))
  (fun s=>s.1.length+2*s.2.countP (fun x=>decide (x<0)))
  (fun r=>r=([],lbl n o v S (fun g=>S g || decide (Cn (adjP n μ) c g))))
  (fun s hs=>by
   obtain ⟨l,R,rfl,hl,i1,i2,i3,i4,i5⟩:=hs
   cases l with
   | nil=>
    right
    unfold F.qen
    dsimp only
    rw [show castL []=[] from rfl,dF (by simp),kF]
    refine ⟨_,rfl,?_⟩
    congr 1
    unfold lbl
    refine qdb fun g hg=>?_
    have:R g=(S g || decide (Cn (adjP n μ) c g)):=by
     rw [←Bool.decide_coe (R g),←Bool.decide_coe (S g || decide (Cn (adjP n μ) c g))]
     refine decide_eq_decide.mpr ⟨fun h=>?_,fun h=>?_⟩
     ·
      rcases i3 g h with h | h
      · rw [h,Bool.true_or]
      · rw [dT h,Bool.or_true]
     ·
      rw [Bool.or_eq_true,decide_eq_true_iff] at h
      rcases h with h | h
      · exact i1 g h
      ·
       refine (Cn.closed (S:=fun g=>g<n∧R g=true∧S g=false) (fun a b ha hab=>?_) h ⟨hc,i2,hx⟩).2.1
       refine ⟨hab.2.1,i5 a ha.1 ha.2.1 ha.2.2 (by simp) b hab,?_⟩
       cases hb:S b with
       | false=>rfl
       | true=>
        have:=hS b a hb (adjP_symm hM a b hab)
        rw [ha.2.2] at this; cases this
    rw [this]
   | cons x q=>
    left
    have hxm:=i4 x List.mem_cons_self
    have hlq:q.length≤999:=by rw [List.length_cons] at hl; omega
    obtain ⟨new,n1,n2,n3,n4,n5,n6⟩:=nbrs_spec hM hxm.1 q R 4 (by omega)
    refine ⟨(castL (nbrs μ x (q,R) 4).1,lbl n o v S (nbrs μ x (q,R) 4).2),?_,⟨(nbrs μ x (q,R) 4).1,(nbrs μ x (q,R) 4).2,rfl,?_,?_,?_,?_,?_,?_⟩,?_⟩
    ·
     have e1:((castL (x::q)).length:Int)=(q.length:Int)+1:=by rw [castL_len]; simp
     have e2:Ev.get (castL (x::q)) 0=some (x:Int):=rfl
     have e3:(castL (x::q)).drop (1:Int).toNat=castL q:=rfl
     unfold F.qen
     dsimp only
     rw [e1,dT (by omega),kT,e2,bB,cut_ok (by omega) (by omega) (by rw [e1]; omega),bB,e3,nbr_loop2 hM hn hxm.1 q (by omega) o ho v hv S R i1 m (by omega),bB]
    ·
     rw [n1,List.length_append]
     rw [List.length_cons] at hl
     omega
    · exact fun g hg=>(n3 g).2 (.inl (i1 g hg))
    · exact (n3 c).2 (.inl i2)
    ·
     intro g hg
     rcases (n3 g).1 hg with h | h
     · exact i3 g h
     · exact .inr (.step hxm.2.2 (n2 g h).2.2)
    ·
     intro y hy
     rw [n1] at hy
     rcases List.mem_append.1 hy with hy | hy
     ·
      have:=i4 y (List.mem_cons_of_mem _ hy)
      exact ⟨this.1,(n3 y).2 (.inl this.2.1),this.2.2⟩
     · exact ⟨(n2 y hy).2.1,(n3 y).2 (.inr hy),.step hxm.2.2 (n2 y hy).2.2⟩
    ·
     intro g hg hR hSg hgl d hd
     rw [n1,List.mem_append,not_or] at hgl
     rcases (n3 g).1 hR with h | h
     ·
      by_cases hgx:g=x
      ·
       subst hgx
       obtain ⟨_,_,s,hs,rfl⟩:=hd
       exact n4 s hs
      ·
       refine (n3 d).2 (.inl (i5 g hg h hSg ?_ d hd))
       rw [List.mem_cons,not_or]
       exact ⟨hgx,hgl.1⟩
     · exact absurd h hgl.2
    ·
     dsimp only
     rw [lbl_count ho hv i1,lbl_count ho hv (fun g hg=>(n3 g).2 (.inl (i1 g hg))),castL_len,castL_len,n1,List.length_append,List.length_cons]
     omega)
  m ([(c:Int)],lbl n o v S (fun g=>decide (g=c) || S g)) ⟨[c],fun g=>decide (g=c) || S g,rfl,by have:=(bset n (fun g=>decide (g=c) || S g)).countP_le_length (p:=fun b=>!b); rw [bset_len] at this; simp only [List.length_singleton]; omega,fun g hg=>by show (decide (g=c) || S g)=true; rw [hg,Bool.or_true],by simp,fun g hg=>by
    rw [Bool.or_eq_true,decide_eq_true_iff] at hg
    rcases hg with rfl | hg
    · exact .inr (.refl _)
    · exact .inl hg,fun x hx=>by
    rw [List.mem_singleton] at hx
    subst hx
    exact ⟨hc,by simp,.refl _⟩,fun g hg hR hSg hgl=>by
    rw [Bool.or_eq_true,decide_eq_true_iff] at hR
    rcases hR with rfl | hR
    · exact absurd (List.mem_singleton_self _) hgl
    · rw [hSg] at hR; cases hR⟩ (by
   dsimp only
   have:=(lbl n o v S (fun g=>decide (g=c) || S g)).countP_le_length (p:=fun x=>decide (x<0))
   rw [lbl_len] at this
   simp only [List.length_singleton]
   omega)
 rw [h1,h2]
open Classical in
theorem label_eq {n:Nat} {M sg:List Int} {μ:Nat→Nat} (hM:MT (4*n) M μ) (hn:n≤64) (hsg:sg.length=n) (lo:Int) (m:Nat) (hm:300<m):
  F.qhr m sg M lo=some (iL n (lab (adjP_symm hM)),(cls n (adjP n μ):Int)):=by
 have hsl:((List.replicate (sg.length:Int).toNat (0:Int)).length:Int)=(n:Int):=by rw [List.length_replicate,hsg]; simp
 have hl0:loopN m (F.qfw m sg) (0,List.replicate (sg.length:Int).toNat (0:Int))=some ((n:Int),iL n (fun _=>-1)):=by
  have h0:((0:Int),List.replicate (sg.length:Int).toNat (0:Int))=(fun k:Nat=>((k:Int),iL n (fun c=>if c<k then -1 else 0))) 0:=by
   rw [hsg,Int.toNat_natCast,iL_rep]
   dsimp only
   congr 1
  rw [h0]
  refine qce (fun k:Nat=>((k:Int),iL n (fun c=>if c<k then -1 else 0))) n (fun k hk=>?_) ?_ m (by omega)
  ·
   unfold F.qfw
   dsimp only
   rw [hsl,dT (by omega),kT,qbl,qdw hk,bB,qal (by omega) (by omega),bB,Int.toNat_natCast,iL_set]
   rw [show ((k:Int)+1)=((k+1:Nat):Int) from by omega]
   congr 3
   refine qdb fun j hj=>?_
   by_cases e:j=k
   · subst e; rw [if_pos rfl,if_pos (by omega)]
   ·
    rw [if_neg e]
    by_cases h:j<k
    · rw [if_pos h,if_pos (by omega)]
    · rw [if_neg h,if_neg (by omega)]
  ·
   unfold F.qfw
   dsimp only
   rw [hsl,dF (by omega),kF]
   congr 3
   refine qdb fun j hj=>by rw [if_pos hj]
 have hs:=adjP_symm hM
 have hl1:loopN m (F.qel m sg M) (0,0,iL n (fun _=>-1))=some ((cls n (adjP n μ):Int),(n:Int),iL n (lab hs)):=by
  have h0:((0:Int),(0:Int),iL n (fun _=>-1))=(fun k:Nat=>((cls k (adjP n μ):Int),(k:Int),iL n (fun c=>if before (adjP n μ) k c=true then lab hs c else -1))) 0:=by
   dsimp only
   rw [before_zero]
   rfl
  have he:((cls n (adjP n μ):Int),(n:Int),iL n (lab hs))=(fun k:Nat=>((cls k (adjP n μ):Int),(k:Int),iL n (fun c=>if before (adjP n μ) k c=true then lab hs c else -1))) n:=by
   dsimp only
   congr 2
   refine qdb fun c hc=>?_
   obtain ⟨q1,q2,_⟩:=rp_spec hs c
   rw [if_pos]
   unfold before
   exact dT ⟨_,by omega,q2⟩
  rw [h0,he]
  refine qce (fun k:Nat=>((cls k (adjP n μ):Int),(k:Int),iL n (fun c=>if before (adjP n μ) k c=true then lab hs c else -1))) n (fun k hk=>?_) ?_ m (by omega)
  ·
   have hc:=cls_le k (adjP n μ)
   have hlo: ∀c,0≤lab hs c:=fun c=>by unfold lab; omega
   unfold F.qel
   dsimp only
   rw [hsl,dT (by omega),kT,qbl,qdw hk,bB]
   cases hb:before (adjP n μ) k k with
   | true=>
    have hr: ¬Rep (adjP n μ) k:=fun h=>by rw [before_rep.2 h] at hb; cases hb
    have:=hlo k
    rw [if_pos rfl,dT this,kT,qal (by omega) (by omega),bB,before_same hs hb,cls_succ_not hr]
    rfl
   | false=>
    have hr:Rep (adjP n μ) k:=before_rep.1 hb
    have hpl:=part_loop2 hM (by omega) (lab hs) hlo (cls k (adjP n μ):Int) (by omega) (before (adjP n μ) k) (fun a b=>before_closed) hk hb m hm
    have e1:iL n (fun c=>if before (adjP n μ) k c=true then lab hs c else -1)=lbl n (lab hs) (cls k (adjP n μ):Int) (before (adjP n μ) k) (before (adjP n μ) k):=by
     unfold lbl
     refine qdb fun c _=>?_
     split
     · rfl
     · rfl
    rw [if_neg (by simp),dF (by decide),kF,bB,Int.toNat_natCast,e1,hpl,bB]
    dsimp only
    rw [qal (by omega) (by omega),bB,qal (by omega) (by omega),bB,cls_succ_rep hr,←before_next]
    have e2:lbl n (lab hs) (cls k (adjP n μ):Int) (before (adjP n μ) k) (before (adjP n μ) (k+1))=iL n (fun c=>if before (adjP n μ) (k+1) c=true then lab hs c else -1):=by
     unfold lbl
     refine qdb fun c _=>?_
     by_cases q:before (adjP n μ) k c=true
     · rw [if_pos q,if_pos (by rw [before_next]; dsimp only; rw [q,Bool.true_or])]
     ·
      rw [if_neg q]
      by_cases q2:before (adjP n μ) (k+1) c=true
      ·
       rw [if_pos q2,if_pos q2]
       have:Cn (adjP n μ) k c:=by
        rw [before_next] at q2
        have q3:(before (adjP n μ) k c || decide _)=true:=q2
        rw [Bool.or_eq_true,decide_eq_true_iff] at q3
        rcases q3 with q3 | q3
        · exact absurd q3 q
        · exact q3
       exact ((lab_rep hs hr).2 this).symm
      · rw [if_neg q2,if_neg q2]
    rw [e2]
    rfl
  ·
   unfold F.qel
   dsimp only
   rw [hsl,dF (by omega),kF]
 unfold F.qhr
 rw [pos_ok (by omega) (by omega),bB,hl0,bB]
 dsimp only
 rw [hl1,bB]
theorem spherical_true {n:Nat} {M sg:List Int} {μ:Nat→Nat} (hM:MT (4*n) M μ) (hg:gen2 n μ=0) (hn:n≤64) (hsg:sg.length=n) (lo:Int) (m:Nat) (hm:300<m):
  F.qee m sg M lo=some true:=by
 have hs:=adjP_symm hM
 have hP:=cls_le n (adjP n μ)
 have hl:=hM.1
 unfold F.qee
 rw [label_eq hM hn hsg lo m hm,bB]
 dsimp only
 rw [pos_ok (by omega) (by omega),bB,Int.toNat_natCast]
 have lb: ∀{c:Nat},c<n→∃p:Nat,lab hs c=(p:Int)∧p<cls n (adjP n μ):=fun {c} hc=>by
  have:=lab_lt hs hc
  exact ⟨(lab hs c).toNat,by omega,by omega⟩
 have h1:loopN m (F.qdz m (iL n (lab hs),(cls n (adjP n μ):Int))) (0,List.replicate (cls n (adjP n μ)) (0:Int))=some ((n:Int),iL (cls n (adjP n μ)) (fun p=>-(cnt n (fun c=>lab hs c=(p:Int)):Int))):=by
  have h0:((0:Int),List.replicate (cls n (adjP n μ)) (0:Int))=(fun k:Nat=>((k:Int),iL (cls n (adjP n μ)) (fun p=>-(cnt k (fun c=>lab hs c=(p:Int)):Int)))) 0:=by
   rw [iL_rep]; rfl
  rw [h0]
  refine qce (fun k:Nat=>((k:Int),iL (cls n (adjP n μ)) (fun p=>-(cnt k (fun c=>lab hs c=(p:Int)):Int)))) n (fun k hk=>?_) ?_ m (by omega)
  ·
   obtain ⟨q,hq1,hq2⟩:=lb hk
   have hb:=cnt_le k (fun c=>lab hs c=(q:Int))
   unfold F.qdz
   dsimp only
   rw [iL_len,dT (by omega),kT,qbl,qdw hk,bB,hq1,qbl,qdw hq2,bB,qal (by omega) (by omega),bB,bB,qal (by omega) (by omega),bB,Int.toNat_natCast,iL_set]
   rw [show ((k:Int)+1)=((k+1:Nat):Int) from by omega]
   congr 3
   refine qdb fun p hp=>?_
   by_cases e:p=q
   ·
    subst e
    rw [if_pos rfl,qbn (p:=fun c=>lab hs c=(p:Int)) hq1]
    omega
   · rw [if_neg e,qbh (p:=fun c=>lab hs c=(p:Int)) (fun h=>e (by rw [hq1] at h; omega))]
  ·
   unfold F.qdz
   dsimp only
   rw [iL_len,dF (by omega),kF]
 rw [h1,bB]
 dsimp only
 rw [pos_ok (by omega) (by omega),bB]
 have h2:loopN m (F.qec m M (iL n (lab hs),(cls n (adjP n μ):Int))) (0,iL (cls n (adjP n μ)) (fun p=>-(cnt n (fun c=>lab hs c=(p:Int)):Int)),List.replicate (M.length:Int).toNat false)=
   some (((4*n:Nat):Int),iL (cls n (adjP n μ)) (fun p=>-(cnt n (fun c=>lab hs c=(p:Int)):Int)+(cnt (4*n) (fun h=>lab hs (h/ 4)=(p:Int)∧Rep (adjF n μ) h):Int)),bset (4*n) (before (adjF n μ) (4*n))):=by
  have h0:((0:Int),iL (cls n (adjP n μ)) (fun p=>-(cnt n (fun c=>lab hs c=(p:Int)):Int)),List.replicate (M.length:Int).toNat false)=
    (fun k:Nat=>((k:Int),iL (cls n (adjP n μ)) (fun p=>-(cnt n (fun c=>lab hs c=(p:Int)):Int)+(cnt k (fun h=>lab hs (h/ 4)=(p:Int)∧Rep (adjF n μ) h):Int)),bset (4*n) (before (adjF n μ) k))) 0:=by
   rw [Int.toNat_natCast,bset_rep,hM.1]
   dsimp only
   rw [before_zero]
   congr 2
   refine qdb fun p _=>?_
   show _=_+((0:Nat):Int)
   omega
  rw [h0]
  refine qce (fun k:Nat=>((k:Int),iL (cls n (adjP n μ)) (fun p=>-(cnt n (fun c=>lab hs c=(p:Int)):Int)+(cnt k (fun h=>lab hs (h/ 4)=(p:Int)∧Rep (adjF n μ) h):Int)),bset (4*n) (before (adjF n μ) k))) (4*n) (fun k hk=>?_) ?_ m (by omega)
  ·
   obtain ⟨q,hq1,hq2⟩:=lb (show k/ 4<n by omega)
   have hb1:=cnt_le n (fun c=>lab hs c=(q:Int))
   have hb2:=cnt_le k (fun h=>lab hs (h/ 4)=(q:Int)∧Rep (adjF n μ) h)
   have ht:Int.tdiv ((k:Nat):Int) 4=((k/ 4:Nat):Int):=Int.ofNat_tdiv _ 4
   unfold F.qec
   dsimp only
   rw [dT (by omega),kT,qbl,bset_get hk,bB]
   cases hbf:before (adjF n μ) k k with
   | true=>
    have hr: ¬Rep (adjF n μ) k:=fun h=>by rw [before_rep.2 h] at hbf; cases hbf
    rw [kT,qal (by omega) (by omega),bB,before_same adjF_symm hbf]
    rw [show ((k:Int)+1)=((k+1:Nat):Int) from by omega]
    congr 4
    refine qdb fun p _=>?_
    rw [qbh (p:=fun h=>lab hs (h/ 4)=(p:Int)∧Rep (adjF n μ) h) (fun h=>hr h.2)]
   | false=>
    have hr:Rep (adjF n μ) k:=before_rep.1 hbf
    obtain ⟨v,hv⟩:=face_loop hM (by omega) (before (adjF n μ) k) (fun a b=>before_closed) hk hbf m (by omega) m
    rw [kF,nz_ok (by decide),bB,ht,qal (by omega) (by omega),bB,qbl,qdw (show k/ 4<n by omega),bB,hq1,qbl,qdw hq2,bB,qal (by omega) (by omega),bB,bB,hv,bB]
    dsimp only
    rw [qal (by omega) (by omega),bB,←before_next,Int.toNat_natCast,iL_set]
    rw [show ((k:Int)+1)=((k+1:Nat):Int) from by omega]
    congr 4
    refine qdb fun p hp=>?_
    by_cases e:p=q
    ·
     subst e
     rw [if_pos rfl,qbn (p:=fun h=>lab hs (h/ 4)=(p:Int)∧Rep (adjF n μ) h) ⟨hq1,hr⟩]
     omega
    · rw [if_neg e,qbh (p:=fun h=>lab hs (h/ 4)=(p:Int)∧Rep (adjF n μ) h) (fun h=>e (by have:=h.1; rw [hq1] at this; omega))]
  ·
   unfold F.qec
   dsimp only
   rw [dF (by omega),kF]
 rw [h2,bB]
 dsimp only
 have two: ∀p,p<cls n (adjP n μ)→-(cnt n (fun c=>lab hs c=(p:Int)):Int)+(cnt (4*n) (fun h=>lab hs (h/ 4)=(p:Int)∧Rep (adjF n μ) h):Int)=2:=by
  intro p hp
  obtain ⟨r,hr1,hr2,hr3⟩:=rep_at hp
  have:=sphere hM hg (S:=fun c=>lab hs c=(p:Int)) hr1 (fun c hc=>by rw [←hr3]; exact lab_rep hs hr2)
  omega
 have h3:=scan_loop (body:=F.qdy m (iL n (lab hs),(cls n (adjP n μ):Int)) (iL (cls n (adjP n μ)) (fun p=>-(cnt n (fun c=>lab hs c=(p:Int)):Int)+(cnt (4*n) (fun h=>lab hs (h/ 4)=(p:Int)∧Rep (adjF n μ) h):Int)))) (fun k=>(k:Int)) (cls n (adjP n μ)) (fun k=>(none:Option Bool)) (e:=(cls n (adjP n μ):Int)) (fun k hk=>by
  unfold F.qdy
  dsimp only
  rw [List.length_replicate,Int.toNat_natCast,dT (by omega),kT,qbl,qdw hk,bB,two k hk,dT rfl,Bool.not_true,kF,qal (by omega) (by omega),bB]
  rfl) (by
  unfold F.qdy
  dsimp only
  rw [List.length_replicate,Int.toNat_natCast,dF (by omega),kF]) m (by omega)
 rw [show (0:Int)=(fun k:Nat=>(k:Int)) 0 from rfl,h3,findSome_none (fun _ _=>rfl)]
 rfl
def Outg (sg:List Int) (h:Nat):Prop:=h%4=2∨(h%4=1∧sg.getD (h/ 4) 0=1)∨(h%4=3∧sg.getD (h/ 4) 0=-1)
instance (sg:List Int) (h:Nat):Decidable (Outg sg h):=by unfold Outg; infer_instance
theorem outg_eq {sg:List Int} {h:Nat} (hh:h<4*sg.length) (hs:sg.length≤64) (M:List Int) (lo:Int) (m:Nat):F.qep m sg M lo (h:Int)=some (decide (Outg sg h)):=by
 have e1:Int.tmod (h:Int) 4=((h%4:Nat):Int):=Int.ofNat_tmod h 4
 have e2:Int.tdiv (h:Int) 4=((h/ 4:Nat):Int):=Int.ofNat_tdiv h 4
 have hl:h/ 4<sg.length:=by omega
 have hO:Outg sg h↔h%4=2∨(h%4=1∧sg[h/ 4]=1)∨(h%4=3∧sg[h/ 4]=-1):=by unfold Outg; rw [qbr hl]
 unfold F.qep
 rw [nz_ok (by decide),bB,e1,e2]
 by_cases c1:h%4=1
 ·
  rw [dT (by omega),kT,bB,qal (by omega) (by omega),bB,qbl,gE hl,bB]
  refine congrArg some (decide_eq_decide.mpr ?_)
  rw [hO]
  omega
 rw [dF (by omega),kF]
 by_cases c2:h%4=2
 ·
  rw [dT (by omega),kT]
  exact congrArg some (dT (hO.2 (.inl c2))).symm
 rw [dF (by omega),kF]
 by_cases c3:h%4=3
 ·
  rw [dT (by omega),kT,bB,qal (by omega) (by omega),bB,qbl,gE hl,bB]
  refine congrArg some (decide_eq_decide.mpr ?_)
  rw [hO]
  omega
 ·
  rw [dF (by omega),kF]
  exact congrArg some (dF (fun h=>by have:=hO.1 h; omega)).symm
structure DV (sg M:List Int) (lo:Int) (μ:Nat→Nat):Prop where
 n:sg.length≤64
 lo0:0≤lo
 lo1:lo≤64
 sgn: ∀s∈sg,s=1∨s=-1
 mt:MT (4*sg.length) M μ
 out: ∀h,h<4*sg.length→(Outg sg (μ h)↔¬Outg sg h)
 g0:gen2 sg.length μ=0
theorem qht {sg M:List Int} {lo:Int} {μ:Nat→Nat} (D:DV sg M lo μ) (m:Nat) (hm:300<m):F.qdx m sg M lo=some true:=by
 have h64:=D.n
 have hl:=D.mt.1
 have h1:=D.lo0
 have h2:=D.lo1
 have hsg:loopN m (F.qdr m sg) 0=some (.inl (sg.length:Int)):=by
  have:=gv_signs sg m (by omega) h64
  rw [if_pos D.sgn] at this
  exact this
 have hb1:=scan_loop (body:=F.qeo m sg M lo) (fun k=>(k:Int)) (4*sg.length) (fun k=>(none:Option Bool)) (e:=((4*sg.length:Nat):Int)) (fun k hk=>by
  obtain ⟨q1,q2,q3,q4⟩:=D.mt.2 k hk
  obtain ⟨r1,_⟩:=D.mt.2 _ q2
  have ho:=D.out k hk
  unfold F.qeo
  dsimp only
  rw [dT (by omega),kT,qbl,q1,bB,dF (by omega),kF,qal (by omega) (by omega),bB,dF (by omega),kF,dF (by omega),kF,qbl,r1,bB,q3,dT rfl,Bool.not_true,kF,outg_eq hk h64,bB,outg_eq q2 h64,bB]
  have:(decide (Outg sg k) == decide (Outg sg (μ k)))=false:=by
   by_cases c:Outg sg k
   ·
    have: ¬Outg sg (μ k):=fun h=>ho.1 h c
    simp [c,this]
   ·
    have:Outg sg (μ k):=ho.2 c
    simp [c,this]
  rw [this,kF,qal (by omega) (by omega),bB]
  rfl) (by
  unfold F.qeo
  dsimp only
  rw [dF (by omega),kF]) m (by omega)
 unfold F.qdx
 rw [dF (by omega),kF,qal (by omega) (by omega),bB,dT (by omega),Bool.not_true,kF,dF (by omega),kF,dF (by omega),kF,hsg,bB]
 dsimp only
 rw [show (0:Int)=(fun k:Nat=>(k:Int)) 0 from rfl,hb1,findSome_none (fun _ _=>rfl),bB]
 dsimp only
 rw [spherical_true D.mt D.g0 h64 rfl lo m hm,bB]
theorem turn2 (h:Nat) (hh:h≤1000000) (n:Nat):F.qdt n (h:Int) 2=some ((turnN h 2:Nat):Int):=by
 have e1:Int.tmod (h:Int) 4=((h%4:Nat):Int):=Int.ofNat_tmod h 4
 have e2:Int.tmod 2 4=2:=by decide
 have e3:Int.tmod (((h%4:Nat):Int)+2+4) 4=(((h%4+2)%4:Nat):Int):=by
  rw [show ((h%4:Nat):Int)+2+4=((h%4+6:Nat):Int) from by omega]
  rw [show (4:Int)=((4:Nat):Int) from rfl,←Int.ofNat_tmod]
  omega
 unfold F.qdt turnN
 rw [dF (by omega),kF,nz_ok (by decide),bB,e1,qal (by omega) (by omega),bB,bB,bB,e2,qal (by omega) (by omega),bB,qal (by omega) (by omega),bB,bB,e3,qal (by omega) (by omega),bB]
 congr 1
 omega
def nx (μ:Nat→Nat) (h:Nat):Nat:=turnN (μ h) 2
theorem IV.pn {n:Nat} {μ:Nat→Nat} (h:IV n μ):PI (4*n) (nx μ):=
 ⟨fun a ha=>turnN_lt (h.lt a ha),fun a b ha hb e=>by rw [←h.inv a ha,turnN_inj e,h.inv b hb]⟩
noncomputable def per {N:Nat} {f:Nat→Nat} (P:PI N f) (a:Nat) (ha:a<N):Nat:=Classical.choose (least_of (p:=fun L=>0<L∧it f L a=a) (Classical.choose_spec (P.period ha)))
theorem per_spec {N:Nat} {f:Nat→Nat} (P:PI N f) {a:Nat} (ha:a<N):(0<per P a ha∧it f (per P a ha) a=a)∧∀j,j<per P a ha→¬(0<j∧it f j a=a):=by
 have h:=Classical.choose_spec (least_of (p:=fun L=>0<L∧it f L a=a) (Classical.choose_spec (P.period ha)))
 exact ⟨h.1,h.2.2⟩
theorem per_le {N:Nat} {f:Nat→Nat} (P:PI N f) {a:Nat} (ha:a<N):per P a ha≤N:=by
 have hn:((List.range (per P a ha)).map fun k=>it f k a).Nodup:=nodup_map List.nodup_range fun x hx y hy e=>by
  have hx:=List.mem_range.1 hx
  have hy:=List.mem_range.1 hy
  have key: ∀x y,x<y→y<per P a ha→it f x a=it f y a→False:=fun x y h h2 e=>(per_spec P ha).2 (y-x) (by omega) ⟨by omega,(P.back ha x (y-x) (by rw [show x+(y-x)=y from by omega]; exact e)).symm⟩
  rcases Nat.lt_trichotomy x y with h | h | h
  · exact (key x y h hy e).elim
  · exact h
  · exact (key y x h hx e.symm).elim
 have:=nodup_lt (N:=N) hn fun x hx=>by
  obtain ⟨k,_,rfl⟩:=List.mem_map.1 hx
  exact P.it ha k
 rwa [List.length_map,List.length_range] at this
theorem per_all {N:Nat} {f:Nat→Nat} (P:PI N f) {a:Nat} (ha:a<N) (g:Nat):(∃i,i<per P a ha∧it f i a=g)↔Cn (adjI N f) a g:=by
 constructor
 · rintro ⟨i,_,rfl⟩; exact P.cn ha i
 ·
  intro h
  obtain ⟨k,rfl⟩:=P.fwd ha h
  obtain ⟨⟨h1,h2⟩,_⟩:=per_spec P ha
  refine ⟨k%per P a ha,Nat.mod_lt _ h1,?_⟩
  have e: ∀q r,it f (per P a ha*q+r) a=it f r a:=by
   intro q
   induction q with
   | zero=>intro r; simp
   | succ q ih=>
    intro r
    rw [Nat.mul_succ,Nat.add_assoc,ih]
    have: ∀r,it f (per P a ha+r) a=it f r a:=by
     intro r
     induction r with
     | zero=>exact h2
     | succ r ih=>show f _=f _; rw [←ih]; rfl
    exact this r
  conv=>rhs; rw [←Nat.div_add_mod k (per P a ha),e]
def cyc {N:Nat} {f:Nat→Nat} (m:Nat) (a:Nat):List Int:=(List.range m).map fun k=>((it f k a:Nat):Int)
theorem cycle_eq {n:Nat} {M sg:List Int} {μ:Nat→Nat} (hM:MT (4*n) M μ) (hn:n≤64) {h:Nat} (hh:h<4*n) (lo:Int) (m:Nat) (hm:300<m):
  F.qct m (h:Int) sg M lo=some (cyc (N:=4*n) (f:=nx μ) (per hM.iv.pn h hh) h):=by
 have P:=hM.iv.pn
 have hc2: ∀x,x<4*n→F.qfa m (x:Int) sg M lo=some ((nx μ x:Nat):Int):=by
  intro x hx
  obtain ⟨q1,q2,_,_⟩:=hM.2 x hx
  unfold F.qfa F.qho
  rw [qbl,q1,bB,turn2 _ (by omega),bB,bB]
  rfl
 obtain ⟨⟨h1,h2⟩,h3⟩:=per_spec P hh
 have hpl:=per_le P hh
 unfold F.qct
 rw [hc2 h hh,bB]
 have h0:(([(h:Int)]:List Int),((nx μ h:Nat):Int))=(fun k:Nat=>(cyc (N:=4*n) (f:=nx μ) (k+1) h,((it (nx μ) (k+1) h:Nat):Int))) 0:=by
  simp [cyc,it]
 have hl:loopN m (F.qcc m (h:Int) sg M lo) ([(h:Int)],((nx μ h:Nat):Int))=some (cyc (N:=4*n) (f:=nx μ) (per P h hh) h,(h:Int)):=by
  rw [h0]
  refine qce (fun k:Nat=>(cyc (N:=4*n) (f:=nx μ) (k+1) h,((it (nx μ) (k+1) h:Nat):Int))) (per P h hh-1) (fun k hk=>?_) ?_ m (by omega)
  ·
   have hne:it (nx μ) (k+1) h≠h:=fun e=>h3 (k+1) (by omega) ⟨by omega,e⟩
   unfold F.qcc
   dsimp only
   rw [dF (by omega),Bool.not_false,kT,lim_ok (by simp [cyc]; omega),bB,hc2 _ (P.it hh _),bB]
   congr 3
   unfold cyc
   rw [List.range_succ (n:=k+1),List.map_append]
   rfl
  ·
   have e:per P h hh-1+1=per P h hh:=by omega
   unfold F.qcc
   dsimp only
   rw [e,h2,dT rfl,Bool.not_true,kF]
 rw [hl,bB]
open Classical in
noncomputable def strs {n:Nat} {M:List Int} {μ:Nat→Nat} (hM:MT (4*n) M μ) (sg:List Int) (k:Nat):List (List Int):=
 ((List.range k).filter fun h=>decide (Outg sg h∧Rep (adjI (4*n) (nx μ)) h)).map fun h=>if hh:h<4*n then cyc (N:=4*n) (f:=nx μ) (per hM.iv.pn h hh) h else []
theorem strs_len {n:Nat} {M:List Int} {μ:Nat→Nat} (hM:MT (4*n) M μ) (sg:List Int) (k:Nat):(strs hM sg k).length=cnt k (fun h=>Outg sg h∧Rep (adjI (4*n) (nx μ)) h):=by
 unfold strs cnt
 rw [List.length_map]
 exact congrArg List.length (List.filter_congr fun x _=>decide_eq_decide.mpr Iff.rfl)
theorem outg_nx {sg M:List Int} {lo:Int} {μ:Nat→Nat} (D:DV sg M lo μ) {h:Nat} (hh:h<4*sg.length):Outg sg (nx μ h)↔Outg sg h:=by
 have ho:=D.out h hh
 have hl:=(D.mt.2 h hh).2.1
 have opp: ∀x,x<4*sg.length→(Outg sg (turnN x 2)↔¬Outg sg x):=by
  intro x hx
  have hs:=D.sgn _ (List.getElem_mem (show x/ 4<sg.length by omega))
  unfold Outg
  rw [show turnN x 2/ 4=x/ 4 from by unfold turnN; omega,qbr (show x/ 4<sg.length by omega)]
  have:turnN x 2%4=(x%4+2)%4:=by unfold turnN; omega
  rw [this]
  omega
 unfold nx
 rw [opp _ hl,ho]
 exact Classical.not_not
theorem outg_cn {sg M:List Int} {lo:Int} {μ:Nat→Nat} (D:DV sg M lo μ) {a b:Nat} (h:Cn (adjI (4*sg.length) (nx μ)) a b):Outg sg a↔Outg sg b:=by
 have: ∀a b,Cn (adjI (4*sg.length) (nx μ)) a b→Outg sg a→Outg sg b:=fun a b h ha=>Cn.closed (S:=fun x=>Outg sg x) (fun x y hx hxy=>by
  obtain ⟨h1,h2,h3 | h3⟩:=hxy
  · rw [h3]; exact (outg_nx D h1).2 hx
  · rw [h3] at hx; exact (outg_nx D h2).1 hx) h ha
 exact ⟨this a b h,this b a (h.symm qfb)⟩
open Classical in
theorem strands_eq {sg M:List Int} {lo:Int} {μ:Nat→Nat} (D:DV sg M lo μ) (m:Nat) (hm:500<m):F.qgf m sg M lo=some (strs D.mt sg (4*sg.length)):=by
 have h64:=D.n
 have hl:=D.mt.1
 have P:=D.mt.iv.pn
 let adj:=adjI (4*sg.length) (nx μ)
 unfold F.qgf
 rw [qht D m (by omega),bB,Bool.not_true,kF]
 unfold F.qbt
 rw [pos_ok (by omega) (by omega),bB]
 let seen:Nat→Nat→Bool:=fun k g=>decide (∃h,h<k∧Outg sg h∧Cn adj h g)
 have hlp:loopN m (F.qbc m (M.length:Int) sg M lo) (([]:List (List Int)),0,List.replicate (M.length:Int).toNat false)=some (strs D.mt sg (4*sg.length),((4*sg.length:Nat):Int),bset (4*sg.length) (seen (4*sg.length))):=by
  have h0:(([]:List (List Int)),(0:Int),List.replicate (M.length:Int).toNat false)=(fun k:Nat=>(strs D.mt sg k,(k:Int),bset (4*sg.length) (seen k))) 0:=by
   rw [Int.toNat_natCast,bset_rep,hl]
   dsimp only
   have:seen 0=fun _=>false:=by
    funext g
    exact dF (by rintro ⟨h,hh,_⟩; omega)
   rw [this]
   rfl
  rw [h0]
  refine qce (fun k:Nat=>(strs D.mt sg k,(k:Int),bset (4*sg.length) (seen k))) (4*sg.length) (fun k hk=>?_) ?_ m (by omega)
  ·
   have skip: ¬(Outg sg k∧Rep adj k)→strs D.mt sg (k+1)=strs D.mt sg k:=fun h=>by
    unfold strs
    rw [List.range_succ,List.filter_append]
    simp [show¬(Outg sg k∧Rep (adjI (4*sg.length) (nx μ)) k) from h]
   have hsl:=strs_len D.mt sg k
   have hcl:=cnt_le k (fun h=>Outg sg h∧Rep (adjI (4*sg.length) (nx μ)) h)
   unfold F.qbc
   dsimp only
   rw [dT (by omega),kT,qbl,bset_get hk,bB]
   cases hs:seen k k with
   | true=>
    obtain ⟨q,hq1,hq2,hq3⟩:=of_decide_eq_true hs
    rw [kT,qal (by omega) (by omega),bB,skip (fun h=>h.2 q hq1 hq3)]
    have e:seen (k+1)=seen k:=by
     funext g
     refine decide_eq_decide.mpr ⟨fun ⟨h,h1,h2,h3⟩=>?_,fun ⟨h,h1,h2,h3⟩=>⟨h,by omega,h2,h3⟩⟩
     rcases Nat.lt_or_ge h k with z | z
     · exact ⟨h,z,h2,h3⟩
     ·
      obtain rfl:h=k:=by omega
      exact ⟨q,hq1,hq2,hq3.trans h3⟩
    rw [e]
    rfl
   | false=>
    have hns: ¬∃h,h<k∧Outg sg h∧Cn adj h k:=of_decide_eq_false hs
    rw [kF]
    have hc1:F.qgd m (k:Int) sg M lo=some (decide (Outg sg k)):=by
     unfold F.qgd
     rw [outg_eq hk h64,bB]
    rw [hc1,bB]
    by_cases ho:Outg sg k
    ·
     have hr:Rep adj k:=fun g hg hgk=>hns ⟨g,hg,(outg_cn D hgk).2 ho,hgk⟩
     rw [dT ho,Bool.not_true,kF,cycle_eq D.mt h64 hk lo m (by omega),bB]
     have hpl:=per_le P hk
     have hcl2:(cyc (N:=4*sg.length) (f:=nx μ) (per D.mt.iv.pn k hk) k).length=per D.mt.iv.pn k hk:=by simp [cyc]
     have hb1:loopN m (F.qbd m (cyc (N:=4*sg.length) (f:=nx μ) (per D.mt.iv.pn k hk) k)) (0,bset (4*sg.length) (seen k))=some (((per D.mt.iv.pn k hk:Nat):Int),bset (4*sg.length) (seen (k+1))):=by
      have h0:((0:Int),bset (4*sg.length) (seen k))=(fun j:Nat=>((j:Int),bset (4*sg.length) (fun g=>decide (∃i,i<j∧it (nx μ) i k=g) || seen k g))) 0:=by
       dsimp only
       refine Prod.ext rfl ?_
       refine qgl fun g hg=>?_
       rw [dF (by rintro ⟨i,hi,_⟩; omega)]; rfl
      have h9:(((per D.mt.iv.pn k hk:Nat):Int),bset (4*sg.length) (seen (k+1)))=(fun j:Nat=>((j:Int),bset (4*sg.length) (fun g=>decide (∃i,i<j∧it (nx μ) i k=g) || seen k g))) (per D.mt.iv.pn k hk):=by
       dsimp only
       congr 1
       refine qgl fun g hg=>?_
       rw [←Bool.decide_coe (seen k g),←Bool.decide_or]
       refine decide_eq_decide.mpr ⟨fun ⟨h,h1,h2,h3⟩=>?_,?_⟩
       ·
        rcases Nat.lt_or_ge h k with z | z
        · exact .inr (dT ⟨h,z,h2,h3⟩)
        ·
         obtain rfl:h=k:=by omega
         exact .inl ((per_all D.mt.iv.pn hk g).2 h3)
       ·
        rintro (h | h)
        · exact ⟨k,by omega,ho,(per_all D.mt.iv.pn hk g).1 h⟩
        ·
         obtain ⟨q,q1,q2,q3⟩:=of_decide_eq_true h
         exact ⟨q,by omega,q2,q3⟩
      rw [h0,h9]
      refine qce (fun j:Nat=>((j:Int),bset (4*sg.length) (fun g=>decide (∃i,i<j∧it (nx μ) i k=g) || seen k g))) (per D.mt.iv.pn k hk) (fun j hj=>?_) ?_ m (by omega)
      ·
       have hx:=P.it hk j
       have hgj:(cyc (N:=4*sg.length) (f:=nx μ) (per D.mt.iv.pn k hk) k)[j]? =some ((it (nx μ) j k:Nat):Int):=by
        unfold cyc
        rw [List.getElem?_map,List.getElem?_range hj]; rfl
       unfold F.qbd
       dsimp only
       rw [hcl2,dT (by omega),kT,qbl,hgj,bB,qbl,bset_get hx,bB,qal (by omega) (by omega),bB,Int.toNat_natCast,bset_set hx]
       rw [show ((j:Int)+1)=((j+1:Nat):Int) from by omega]
       congr 3
       refine qgl fun g hg=>?_
       rw [←Bool.or_assoc]
       congr 1
       rw [←Bool.decide_or]
       refine decide_eq_decide.mpr ⟨?_,fun ⟨i,h1,h2⟩=>?_⟩
       ·
        rintro (h | ⟨i,h1,h2⟩)
        · exact ⟨j,by omega,h.symm⟩
        · exact ⟨i,by omega,h2⟩
       ·
        rcases Nat.lt_or_ge i j with z | z
        · exact .inr ⟨i,z,h2⟩
        ·
         obtain rfl:i=j:=by omega
         exact .inl h2.symm
      ·
       unfold F.qbd
       dsimp only
       rw [hcl2,dF (by omega),kF]
     rw [hb1,bB]
     dsimp only
     rw [lim_ok (by rw [hsl]; simp; omega),bB,qal (by omega) (by omega),bB]
     have e:strs D.mt sg (k+1)=strs D.mt sg k++[cyc (N:=4*sg.length) (f:=nx μ) (per D.mt.iv.pn k hk) k]:=by
      unfold strs
      rw [List.range_succ,List.filter_append,List.map_append]
      simp [show (Outg sg k∧Rep (adjI (4*sg.length) (nx μ)) k) from ⟨ho,hr⟩,hk]
     rw [e]
     rfl
    ·
     rw [dF ho,Bool.not_false,kT,qal (by omega) (by omega),bB,skip (fun h=>ho h.1)]
     have e:seen (k+1)=seen k:=by
      funext g
      refine decide_eq_decide.mpr ⟨fun ⟨h,h1,h2,h3⟩=>?_,fun ⟨h,h1,h2,h3⟩=>⟨h,by omega,h2,h3⟩⟩
      rcases Nat.lt_or_ge h k with z | z
      · exact ⟨h,z,h2,h3⟩
      ·
       obtain rfl:h=k:=by omega
       exact absurd h2 ho
     rw [e]
     rfl
  ·
   unfold F.qbc
   dsimp only
   rw [dF (by omega),kF]
 rw [hlp,bB,bB]
