import Derived.Test.YtkjpldmelafooaaF
import Derived.Test.YtkjpldmelafooaaTrod
set_option linter.all false
namespace Go.Proofs.Ytkjpldmelafooaa
open Ev
theorem qal {z:Int} (h1: -9223372036854775808≤z) (h2:z≤9223372036854775807):chk z=some z:=if_pos ⟨h1,h2⟩
theorem lim_ok {n:Nat} (h:n≤1099511627776):lim n=some ():=if_pos h
theorem pos_ok {n:Int} (h1:0≤n) (h2:n≤1099511627776):pos n=some ():=if_pos ⟨h1,h2⟩
theorem posz_ok {n:Int} (h1:0<n) (h2:n≤1099511627776):posz n=some ():=if_pos ⟨h1,h2⟩
theorem nz_ok {n:Int} (h:n≠0):nz n=some ():=if_pos h
theorem cut_ok {a b:Int} {n:Nat} (h1:0≤a) (h2:a≤b) (h3:b≤n):cut a b n=some ():=if_pos ⟨h1,h2,h3⟩
theorem get_ok {α:Type} {xs:List α} {i:Int} (h0:0≤i) (h1:i.toNat<xs.length):Ev.get xs i=some xs[i.toNat]:=by
 unfold Ev.get; rw [if_pos h0,gE h1]
theorem qbl {α:Type} {xs:List α} {k:Nat}:Ev.get xs (k:Int)=xs[k]? :=by
 unfold Ev.get; rw [if_pos (by omega)]; simp
theorem get_at {α:Type} {xs:List α} {k:Nat} {i:Int} {x:α} (hi:i=(k:Int)) (h:xs[k]? =some x):Ev.get xs i=some x:=by
 subst hi; rw [qbl]; exact h
theorem qez {S R:Type} {body:S→Option (S⊕R)} (I:S→Prop) (μ:S→Nat) (Q:R→Prop)
  (step: ∀s,I s→(∃s',body s=some (.inl s')∧I s'∧μ s'<μ s)∨∃r,body s=some (.inr r)∧Q r): ∀(n:Nat) (s:S),I s→μ s<n→∃r,loopN n body s=some r∧Q r
 | 0,s,_,h=>absurd h (Nat.not_lt_zero _)
 | n+1,s,hI,h=>by
  rcases step s hI with ⟨s',h1,h2,h3⟩ | ⟨r,h1,h2⟩
  ·
   obtain ⟨r,h4,h5⟩:=qez I μ Q step n s' h2 (by omega)
   exact ⟨r,by simp only [loopN,h1,bB]; exact h4,h5⟩
  · exact ⟨r,by simp only [loopN,h1,bB],h2⟩
end Go.Proofs.Ytkjpldmelafooaa

set_option linter.all false
namespace Go.Proofs.Ytkjpldmelafooaa
open Ev
theorem qce {S R:Type} {body:S→Option (S⊕R)} (st:Nat→S) (m:Nat) {r:R} (h: ∀k,k<m→body (st k)=some (.inl (st (k+1)))) (he:body (st m)=some (.inr r)): ∀n,m<n→loopN n body (st 0)=some r:=by
 have key: ∀(j k n:Nat),k+j=m→j<n→loopN n body (st k)=some r:=by
  intro j
  induction j with
  | zero=>
       intro k n hk hn; obtain ⟨n,rfl⟩: ∃n',n=n'+1:=⟨n-1,by omega⟩
       obtain rfl:k=m:=by omega
       simp only [loopN,he,bB]
  | succ j ih=>
         intro k n hk hn; obtain ⟨n,rfl⟩: ∃n',n=n'+1:=⟨n-1,by omega⟩
         simp only [loopN,h k (by omega),bB]
         exact ih (k+1) n (by omega) (by omega)
 intro n hn
 exact key m 0 n (by omega) hn
theorem count_until {S R:Type} {body:S→Option (S⊕R)} (st:Nat→S) (m:Nat) (n:Nat) (hn:m<n) (h: ∀k,k<m→body (st k)=some (.inl (st (k+1)))∨∃r,body (st k)=some (.inr r)) {r0:R} (he:body (st m)=some (.inr r0)):
  (loopN n body (st 0)=some r0∧∀k,k<m→body (st k)=some (.inl (st (k+1))))∨∃k,k<m∧(∀j,j<k→body (st j)=some (.inl (st (j+1))))∧∃r,body (st k)=some (.inr r)∧loopN n body (st 0)=some r:=by
 by_cases hall: ∀k,k<m→body (st k)=some (.inl (st (k+1)))
 · exact .inl ⟨qce st m hall he n hn,hall⟩
 ·
  right
  have hex: ∃k,k<m∧¬body (st k)=some (.inl (st (k+1))):=by
   by_cases hc: ∃k,k<m∧¬body (st k)=some (.inl (st (k+1)))
   · exact hc
   · exact absurd (fun k hk=>by_contra' fun hn=>hc ⟨k,hk,hn⟩) hall
  obtain ⟨k,⟨hk,hbad⟩,hmin⟩:=least hex
  have hpre: ∀j,j<k→body (st j)=some (.inl (st (j+1))):=fun j hj=>by_contra' fun hn=>hmin j hj ⟨by omega,hn⟩
  rcases h k hk with h1 | ⟨r,h1⟩
  · exact absurd h1 hbad
  · exact ⟨k,hk,hpre,r,h1,qce st k hpre h1 n (by omega)⟩
where
 by_contra' {p:Prop} (h: ¬p→False):p:=Classical.byContradiction h
 least {p:Nat→Prop} (h: ∃k,p k): ∃k,p k∧∀j,j<k→¬p j:=by
  obtain ⟨k,hk⟩:=h
  induction k using Nat.strongRecOn with
  | _ k ih=>
   by_cases hc: ∃j,j<k∧p j
   · obtain ⟨j,hj,hp⟩:=hc; exact ih j hj hp
   · exact ⟨k,hk,fun j hj hp=>hc ⟨j,hj,hp⟩⟩
end Go.Proofs.Ytkjpldmelafooaa

set_option linter.all false
namespace Go.Proofs.Ytkjpldmelafooaa
namespace Gar
def tr (i k:Nat):Nat:=if k+1=i then i else if k=i then i-1 else k
theorem tr_tr {i:Nat} (hi:1≤i) (k:Nat):tr i (tr i k)=k:=by
 unfold tr; split<;>rename_i h1
 · rw [if_neg (by omega),if_pos rfl]; omega
 ·
  split<;>rename_i h2
  · rw [if_pos (by omega)]; omega
  · rfl
theorem tr_l {i:Nat} (hi:1≤i):tr i (i-1)=i:=by unfold tr; rw [if_pos (by omega)]
theorem tr_r {i:Nat} (hi:1≤i):tr i i=i-1:=by unfold tr; rw [if_neg (by omega),if_pos rfl]
theorem tr_o {i k:Nat} (h1:k+1≠i) (h2:k≠i):tr i k=k:=by unfold tr; rw [if_neg h1,if_neg h2]
theorem tr_lt {i a b:Nat} (hi:1≤i) (h:a<b) (hn: ¬(a+1=i∧b=i)):tr i a<tr i b:=by
 unfold tr; split<;>split<;>(try split)<;>(try split)<;>omega
theorem tr_far {i j:Nat} (hi:1≤i) (hj:1≤j) (h:i+1<j∨j+1<i) (k:Nat):tr i (tr j k)=tr j (tr i k):=by
 by_cases h1:k=i-1
 · subst h1; rw [tr_l hi,tr_o (i:=j) (k:=i-1) (by omega) (by omega),tr_l hi,tr_o (by omega) (by omega)]
 by_cases h2:k=i
 · subst h2; rw [tr_r hi,tr_o (i:=j) (k:=k) (by omega) (by omega),tr_r hi,tr_o (by omega) (by omega)]
 by_cases h3:k=j-1
 · subst h3; rw [tr_l hj,tr_o (i:=i) (k:=j-1) (by omega) (by omega),tr_l hj,tr_o (by omega) (by omega)]
 by_cases h4:k=j
 · subst h4; rw [tr_r hj,tr_o (i:=i) (k:=k) (by omega) (by omega),tr_r hj,tr_o (by omega) (by omega)]
 rw [tr_o (i:=j) (k:=k) (by omega) h4,tr_o (i:=i) (k:=k) (by omega) h2,tr_o (by omega) h4]
theorem tr_braid {i:Nat} (hi:1≤i) (k:Nat):tr i (tr (i+1) (tr i k))=tr (i+1) (tr i (tr (i+1) k)):=by
 have e1:tr i (i-1)=i:=tr_l hi
 have e2:tr i i=i-1:=tr_r hi
 have e3:tr (i+1) i=i+1:=tr_l (i:=i+1) (by omega)
 have e4:tr (i+1) (i+1)=i:=tr_r (i:=i+1) (by omega)
 have e5:tr (i+1) (i-1)=i-1:=tr_o (by omega) (by omega)
 have e6:tr i (i+1)=i+1:=tr_o (by omega) (by omega)
 by_cases h1:k=i-1
 · subst h1; rw [e1,e3,e6,e5,e1,e3]
 by_cases h2:k=i
 · subst h2; rw [e2,e5,e1,e3,e6,e4]
 by_cases h3:k=i+1
 · subst h3; rw [e6,e4,e2,e5]
 have f1:tr i k=k:=tr_o (by omega) h2
 have f2:tr (i+1) k=k:=tr_o (by omega) h3
 rw [f1,f2,f1,f2]
structure Pm (N:Nat) (f g:Nat→Nat):Prop where
 fix: ∀k,N≤k→f k=k
 gf: ∀k,g (f k)=k
 fg: ∀k,f (g k)=k
section
variable {N : Nat} {f g : Nat → Nat}
theorem Pm.symm (h:Pm N f g):Pm N g f:=⟨fun k hk=>by have:=h.gf k; rwa [h.fix k hk] at this,h.fg,h.gf⟩
theorem Pm.inj (h:Pm N f g) {a b:Nat} (e:f a=f b):a=b:=by rw [←h.gf a,←h.gf b,e]
theorem Pm.lt (h:Pm N f g) {k:Nat} (hk:k<N):f k<N:=by
 rcases Nat.lt_or_ge (f k) N with h1 | h1
 · exact h1
 · have:=h.inj (h.fix _ h1); omega
theorem Pm.id (N:Nat):Pm N (fun k=>k) (fun k=>k):=⟨fun _ _=>rfl,fun _=>rfl,fun _=>rfl⟩
theorem Pm.ex (h:Pm N f g) {i:Nat} (hi:1≤i) (hn:i<N):Pm N (fun k=>f (tr i k)) (fun k=>tr i (g k)):=
 ⟨fun k hk=>by rw [tr_o (by omega) (by omega)]; exact h.fix k hk,fun k=>by rw [h.gf,tr_tr hi],fun k=>by rw [tr_tr hi,h.fg]⟩
theorem Pm.uniq {g':Nat→Nat} (h:Pm N f g) (h':Pm N f g'):g=g':=by
 funext k; have:=h'.gf (g k); rw [h.fg] at this; exact this.symm
def ds (f:Nat→Nat) (i:Nat):Prop:=f i<f (i-1)
instance (f:Nat→Nat) (i:Nat):Decidable (ds f i):=inferInstanceAs (Decidable (_<_))
inductive Wd (N:Nat):(Nat→Nat)→List Nat→Prop
 | nil:Wd N (fun k=>k) []
 | cons {f:Nat→Nat} {i:Nat} {w:List Nat}:1≤i→i<N→ds f i→Wd N (fun k=>f (tr i k)) w→Wd N f (i::w)
inductive PE (N:Nat):List Nat→List Nat→Prop
 | refl (w):PE N w w
 | symm {u v}:PE N u v→PE N v u
 | trans {u v w}:PE N u v→PE N v w→PE N u w
 | far (a b) {i j:Nat}:1≤i→i<N→1≤j→j<N→i+1<j→PE N (a++i::j::b) (a++j::i::b)
 | braid (a b) {i:Nat}:1≤i→i+1<N→PE N (a++i::(i+1)::i::b) (a++(i+1)::i::(i+1)::b)
theorem PE.app {u v:List Nat} (h:PE N u v) (a b:List Nat):PE N (a++u++b) (a++v++b):=by
 induction h with
 | refl w=>exact .refl _
 | symm _ ih=>exact ih.symm
 | trans _ _ h1 h2=>exact h1.trans h2
 | far c d h1 h2 h3 h4 h5=>
  have:=PE.far (N:=N) (a++c) (d++b) h1 h2 h3 h4 h5
  simpa [List.append_assoc] using this
 | braid c d h1 h2=>
  have:=PE.braid (N:=N) (a++c) (d++b) h1 h2
  simpa [List.append_assoc] using this
theorem PE.cons {u v:List Nat} (h:PE N u v) (i:Nat):PE N (i::u) (i::v):=by
 have:=h.app [i] []; simpa using this
theorem Wd.pm {w:List Nat} (h:Wd N f w): ∃g,Pm N f g:=by
 induction h with
 | nil=>exact ⟨_,Pm.id N⟩
 | @cons f i w h1 h2 h3 h4 ih=>
  obtain ⟨g,hg⟩:=ih
  have:=hg.ex h1 h2
  simp only [tr_tr h1] at this
  exact ⟨_,this⟩
theorem Wd.rng {w:List Nat} (h:Wd N f w): ∀i∈w,1≤i∧i<N:=by
 induction h with
 | nil=>simp
 | cons h1 h2 _ _ ih=>
  intro j hj
  rcases List.mem_cons.1 hj with rfl | hj
  · exact ⟨h1,h2⟩
  · exact ih j hj

/-! Inversions. -/
def inv:List Nat→Nat
 | []=>0
 | a::l=>l.countP (fun x=>decide (x<a))+inv l
theorem inv_swap (pre post:List Nat) {a b:Nat} (h:b<a):inv (pre++a::b::post)=inv (pre++b::a::post)+1:=by
 induction pre with
 | nil=>
  simp only [List.nil_append,inv,List.countP_cons]
  rw [decide_eq_true h,decide_eq_false (by omega: ¬a<b)]
  simp; omega
 | cons c pre ih=>
  simp only [List.cons_append,inv,ih]
  have:(pre++a::b::post).countP (fun x=>decide (x<c))=(pre++b::a::post).countP (fun x=>decide (x<c)):=by
   simp only [List.countP_append,List.countP_cons]; omega
  omega
def lst (N:Nat) (f:Nat→Nat):List Nat:=(List.range N).map f
theorem range_split {N i:Nat} (hi:1≤i) (hn:i<N):List.range N=List.range (i-1)++(i-1)::i::(List.range' (i+1) (N-i-1)):=by
 rw [List.range_eq_range',List.range_eq_range']
 have h1:List.range' 0 N=List.range' 0 (i-1)++List.range' (i-1) (N-(i-1)):=by
  rw [show N=(i-1)+(N-(i-1)) by omega,←List.range'_append_1]; simp
 rw [h1]
 congr 1
 rw [show N-(i-1)=(N-i-1)+1+1 by omega,List.range'_succ,List.range'_succ,show i-1+1=i by omega]
theorem lst_tr {i:Nat} (hi:1≤i) (hn:i<N): ∃pre post,lst N f=pre++f (i-1)::f i::post∧lst N (fun k=>f (tr i k))=pre++f i::f (i-1)::post:=by
 refine ⟨(List.range (i-1)).map f,(List.range' (i+1) (N-i-1)).map f,?_,?_⟩
 · unfold lst; rw [range_split hi hn]; simp
 ·
  unfold lst; rw [range_split hi hn]
  simp only [List.map_append,List.map_cons,tr_l hi,tr_r hi]
  congr 1
  ·
   apply List.map_congr_left
   intro k hk
   rw [List.mem_range] at hk
   rw [tr_o (by omega) (by omega)]
  ·
   congr 2
   apply List.map_congr_left
   intro k hk
   rw [List.mem_range'_1] at hk
   rw [tr_o (by omega) (by omega)]
theorem inv_tr {i:Nat} (hi:1≤i) (hn:i<N) (hd:ds f i):inv (lst N f)=inv (lst N (fun k=>f (tr i k)))+1:=by
 obtain ⟨pre,post,h1,h2⟩:=lst_tr (f:=f) hi hn
 rw [h1,h2]; exact inv_swap pre post hd
theorem inv_id:inv (lst N (fun k=>k))=0:=by
 have key: ∀(m s:Nat),inv (List.range' s m)=0:=by
  intro m
  induction m with
  | zero=>intro s; rfl
  | succ m ih=>
   intro s
   rw [List.range'_succ]
   simp only [inv,ih,Nat.add_zero]
   rw [List.countP_eq_zero]
   intro x hx
   rw [List.mem_range'_1] at hx
   simp; omega
 unfold lst
 rw [List.map_id',List.range_eq_range']
 exact key N 0
theorem Wd.len {w:List Nat} (h:Wd N f w):w.length=inv (lst N f):=by
 induction h with
 | nil=>rw [inv_id]; rfl
 | cons h1 h2 h3 _ ih=>rw [inv_tr h1 h2 h3,←ih]; rfl
theorem Pm.noDs (h:Pm N f g) (hn: ∀i,1≤i→i<N→¬ds f i):f=fun k=>k:=by
 have mono: ∀d k,k+d<N→f k+d≤f (k+d):=by
  intro d
  induction d with
  | zero=>intro k _; exact Nat.le_refl _
  | succ d ih=>
   intro k hk
   have h1:=ih k (by omega)
   have h2:=hn (k+d+1) (by omega) (by omega)
   unfold ds at h2
   rw [show k+d+1-1=k+d by omega] at h2
   have h3:f (k+d)≠f (k+d+1):=fun e=>by have:=h.inj e; omega
   rw [show k+(d+1)=k+d+1 by omega]
   omega
 funext k
 rcases Nat.lt_or_ge k N with hk | hk
 ·
  have h1:=mono k 0 (by omega)
  rw [Nat.zero_add] at h1
  have h2:=mono (N-1-k) k (by omega)
  have h3:=h.lt (show k+(N-1-k)<N by omega)
  omega
 · exact h.fix k hk
theorem exists_ds (h:Pm N f g) (hne:f≠fun k=>k): ∃i,1≤i∧i<N∧ds f i:=by
 refine Classical.byContradiction fun hc=>hne (h.noDs fun i h1 h2 h3=>hc ⟨i,h1,h2,h3⟩)
theorem exists_word: ∀(m:Nat) {f g:Nat→Nat},Pm N f g→inv (lst N f)=m→∃w,Wd N f w:=by
 intro m
 induction m with
 | zero=>
  intro f g h hm
  by_cases hf:f=fun k=>k
  · subst hf; exact ⟨[],.nil⟩
  ·
   obtain ⟨i,h1,h2,h3⟩:=exists_ds h hf
   have:=inv_tr h1 h2 h3; omega
 | succ m ih=>
  intro f g h hm
  by_cases hf:f=fun k=>k
  · subst hf; rw [inv_id] at hm; omega
  ·
   obtain ⟨i,h1,h2,h3⟩:=exists_ds h hf
   have h4:=inv_tr h1 h2 h3
   obtain ⟨w,hw⟩:=ih (h.ex h1 h2) (by omega)
   exact ⟨_,.cons h1 h2 h3 hw⟩
theorem Pm.word (h:Pm N f g): ∃w,Wd N f w:=exists_word _ h rfl
theorem Pm.wordAt (h:Pm N f g) {i:Nat} (h1:1≤i) (h2:i<N) (h3:ds f i): ∃w,Wd N (fun k=>f (tr i k)) w∧Wd N f (i::w):=by
 obtain ⟨w,hw⟩:=(h.ex h1 h2).word
 exact ⟨w,hw,.cons h1 h2 h3 hw⟩
theorem matsumoto: ∀(m:Nat) {f:Nat→Nat} {w w':List Nat},w.length=m→Wd N f w→Wd N f w'→PE N w w':=by
 intro m
 induction m with
 | zero=>
  intro f w w' hl h h'
  have e1:=h.len; have e2:=h'.len
  rw [List.eq_nil_of_length_eq_zero hl,List.eq_nil_of_length_eq_zero (by omega:w'.length=0)]
  exact .refl _
 | succ m ih=>
  intro f w w' hl h h'
  have e1:=h.len; have e2:=h'.len
  obtain ⟨gf,hp⟩:=h.pm
  cases h with
  | nil=>simp at hl
  | @cons _ i w1 i1 i2 i3 i4=>
  cases h' with
  | nil=>simp at e2; omega
  | @cons _ j w2 j1 j2 j3 j4=>
  simp only [List.length_cons] at hl e1 e2
  -- the case that i is less than j
  have key: ∀{i j:Nat} {w1 w2:List Nat},1≤i→i<N→ds f i→Wd N (fun k=>f (tr i k)) w1→1≤j→j<N→ds f j→Wd N (fun k=>f (tr j k)) w2→w1.length=m→w2.length=m→i<j→PE N (i::w1) (j::w2):=by
   intro i j w1 w2 i1 i2 i3 i4 j1 j2 j3 j4 l1 l2 hij
   by_cases hf:i+1<j
   ·
    have d1:ds (fun k=>f (tr i k)) j:=by
     unfold ds; show f (tr i j)<f (tr i (j-1)); rw [tr_o (by omega) (by omega),tr_o (by omega) (by omega)]; exact j3
    have d2:ds (fun k=>f (tr j k)) i:=by
     unfold ds; show f (tr j i)<f (tr j (i-1)); rw [tr_o (by omega) (by omega),tr_o (by omega) (by omega)]; exact i3
    obtain ⟨v,v1,v2⟩:=(hp.ex i1 i2).wordAt j1 j2 d1
    have v3:Wd N (fun k=>f (tr j k)) (i::v):=.cons i1 i2 d2 (by
     have:(fun k=>f (tr j (tr i k)))=(fun k=>f (tr i (tr j k))):=by funext k; rw [tr_far i1 j1 (.inl hf)]
     rw [this]; exact v1)
    have q1:=ih l1 i4 v2
    have q2:=ih l2 j4 v3
    exact (q1.cons i).trans ((PE.far [] v i1 i2 j1 j2 hf).trans (q2.cons j).symm)
   ·
    obtain rfl:j=i+1:=by omega
    have hi3:f i<f (i-1):=i3
    have hj3:f (i+1)<f i:=j3
    have t1:tr (i+1) (i-1)=i-1:=tr_o (by omega) (by omega)
    have t2:tr i (i+1)=i+1:=tr_o (by omega) (by omega)
    have t3:tr (i+1) i=i+1:=tr_l (i:=i+1) (by omega)
    have t4:tr (i+1) (i+1)=i:=tr_r (i:=i+1) (by omega)
    have d1:ds (fun k=>f (tr i k)) (i+1):=by
     unfold ds; show f (tr i (i+1))<f (tr i (i+1-1))
     rw [t2,show i+1-1=i by omega,tr_r i1]; omega
    have d2:ds (fun k=>f (tr i (tr (i+1) k))) i:=by
     unfold ds; show f (tr i (tr (i+1) i))<f (tr i (tr (i+1) (i-1)))
     rw [t3,t2,t1,tr_l i1]; omega
    have d3:ds (fun k=>f (tr (i+1) k)) i:=by
     unfold ds; show f (tr (i+1) i)<f (tr (i+1) (i-1))
     rw [t3,t1]; omega
    have d4:ds (fun k=>f (tr (i+1) (tr i k))) (i+1):=by
     unfold ds; show f (tr (i+1) (tr i (i+1)))<f (tr (i+1) (tr i (i+1-1)))
     rw [t2,t4,show i+1-1=i by omega,tr_r i1,t1]; omega
    obtain ⟨v,v1,v2⟩:=((hp.ex i1 i2).ex j1 j2).wordAt i1 i2 d2
    have v3:Wd N (fun k=>f (tr i k)) ((i+1)::i::v):=.cons j1 j2 d1 v2
    have v4:Wd N (fun k=>f (tr (i+1) (tr i k))) ((i+1)::v):=.cons j1 j2 d4 (by
     have:(fun k=>f (tr (i+1) (tr i (tr (i+1) k))))=(fun k=>f (tr i (tr (i+1) (tr i k)))):=by funext k; rw [tr_braid i1]
     rw [this]; exact v1)
    have v5:Wd N (fun k=>f (tr (i+1) k)) (i::(i+1)::v):=.cons i1 i2 d3 v4
    have q1:=ih l1 i4 v3
    have q2:=ih l2 j4 v5
    exact (q1.cons i).trans ((PE.braid [] v i1 j2).trans (q2.cons (i+1)).symm)
  rcases Nat.lt_trichotomy i j with hij | hij | hij
  · exact key i1 i2 i3 i4 j1 j2 j3 j4 (by omega) (by omega) hij
  · subst hij; exact (ih (by omega) i4 j4).cons i
  · exact (key j1 j2 j3 j4 i1 i2 i3 i4 (by omega) (by omega) hij).symm
theorem Wd.uniq {w w':List Nat} (h:Wd N f w) (h':Wd N f w'):PE N w w':=matsumoto _ rfl h h'
theorem Wd.snoc {w:List Nat} (h:Wd N f w): ∀{g:Nat→Nat},Pm N f g→∀{i:Nat},1≤i→i<N→g (i-1)<g i→Wd N (fun k=>tr i (f k)) (w++[i]):=by
 induction h with
 | nil=>
  intro g hg i h1 h2 h3
  refine .cons h1 h2 (by unfold ds; show tr i i<tr i (i-1); rw [tr_l h1,tr_r h1]; omega) ?_
  have:(fun k=>tr i (tr i k))=fun k=>k:=by funext k; exact tr_tr h1 k
  rw [this]; exact .nil
 | @cons f j w j1 j2 j3 j4 ih=>
  intro g hg i h1 h2 h3
  have j3':f j<f (j-1):=j3
  refine .cons j1 j2 ?_ (ih (hg.ex j1 j2) h1 h2 ?_)
  ·
   refine tr_lt h1 j3' fun ⟨a,b⟩=>?_
   have e1:g i=j-1:=by rw [←b,hg.gf]
   have e2:g (i-1)=j:=by rw [show i-1=f j by omega,hg.gf]
   omega
  ·
   refine tr_lt j1 h3 fun ⟨a,b⟩=>?_
   have e1:f j=i:=by rw [←b,hg.fg]
   have e2:f (j-1)=i-1:=by rw [show j-1=g (i-1) by omega,hg.fg]
   omega
end
end Gar
end Go.Proofs.Ytkjpldmelafooaa

set_option linter.all false
namespace Go.Proofs.Ytkjpldmelafooaa
open Ev
end Go.Proofs.Ytkjpldmelafooaa

set_option linter.all false
namespace Go.Proofs.Ytkjpldmelafooaa
open Ev
namespace Gar
def li (N:Nat) (f:Nat→Nat):List Int:=(List.range N).map fun k=>(f k:Int)
section
variable {N : Nat} {f g : Nat → Nat}
@[simp] theorem li_len:(li N f).length=N:=by simp [li]
theorem li_at {k:Nat} (h:k<N):(li N f)[k]? =some (f k:Int):=by simp [li,h]
theorem li_none {k:Nat} (h:N≤k):(li N f)[k]? =none:=by simp [li]; omega
theorem pigeon: ∀(N:Nat) (f:Nat→Nat),(∀k,k<N→f k<N)→(∀j k,j<N→k<N→f j=f k→j=k)→∀y,y<N→∃k,k<N∧f k=y
 | 0,_,_,_,y,hy=>absurd hy (Nat.not_lt_zero _)
 | N+1,f,h,inj,y,hy=>by
  have hm:f N<N+1:=h N (by omega)
  have ih:=pigeon N (fun k=>if f k=N then f N else f k) (fun k hk=>by
   by_cases e:f k=N
   ·
    simp only [e,if_true]
    have:f N≠N:=fun e2=>by have:=inj k N (by omega) (by omega) (by omega); omega
    omega
   ·
    simp only [e,if_false]
    have:=h k (by omega); omega) (fun j k hj hk e=>by
   by_cases e1:f j=N<;>by_cases e2:f k=N<;>simp only [e1,e2,if_true,if_false] at e
   · exact inj j k (by omega) (by omega) (by omega)
   · have:=inj N k (by omega) (by omega) e; omega
   · have:=inj j N (by omega) (by omega) e; omega
   · exact inj j k (by omega) (by omega) e)
  by_cases hy1:y=f N
  · exact ⟨N,by omega,hy1.symm⟩
  by_cases hy2:y=N
  ·
   obtain ⟨k,hk,e⟩:=ih (f N) (by omega)
   by_cases e1:f k=N
   · exact ⟨k,by omega,by omega⟩
   ·
    simp only [e1,if_false] at e
    have:=inj k N (by omega) (by omega) e; omega
  ·
   obtain ⟨k,hk,e⟩:=ih y (by omega)
   by_cases e1:f k=N
   · simp only [e1,if_true] at e; omega
   ·
    simp only [e1,if_false] at e
    exact ⟨k,by omega,e⟩
def IsP (p:List Int):Prop:= ∃f g,Pm p.length f g∧p=li p.length f
theorem isP_of {p:List Int} (hr: ∀x∈p,0≤x∧x<p.length) (hn:p.Nodup):IsP p:=by
 have hf: ∀k,k<p.length→p[k]? =some (((p.getD k 0).toNat:Nat):Int):=fun k hk=>by
  have h1:p[k]? =some p[k]:=gE hk
  have h2:=hr p[k] (List.getElem_mem hk)
  rw [h1,List.getD_eq_getElem?_getD,h1,Option.getD_some,show ((p[k].toNat:Nat):Int)=p[k] by omega]
 have hlt: ∀k,k<p.length→(p.getD k 0).toNat<p.length:=fun k hk=>by
  have h1:=hf k hk
  have h2:=hr _ (List.mem_of_getElem? h1)
  omega
 have hinj: ∀j k,j<p.length→k<p.length→(p.getD j 0).toNat=(p.getD k 0).toNat→j=k:=fun j k hj hk e=>by
  have h1:=hf j hj; have h2:=hf k hk
  rw [e,←h2] at h1
  exact (List.getElem?_inj hj hn).1 h1
 have hs:=pigeon p.length _ hlt hinj
 have hg: ∀y,∃k,(y<p.length→k<p.length∧(p.getD k 0).toNat=y)∧(¬y<p.length→k=y):=fun y=>by
  by_cases h:y<p.length
  ·
   obtain ⟨k,h1,h2⟩:=hs y h
   exact ⟨k,fun _=>⟨h1,h2⟩,fun h'=>absurd h h'⟩
  · exact ⟨y,fun h'=>absurd h' h,fun _=>rfl⟩
 obtain ⟨g,hg⟩:=Classical.skolem.1 hg
 refine ⟨fun k=>if k<p.length then (p.getD k 0).toNat else k,g,⟨fun k hk=>if_neg (by omega),fun k=>?_,fun y=>?_⟩,?_⟩
 ·
  by_cases h:k<p.length
  ·
   simp only [h,if_true]
   have h2:=(hg (p.getD k 0).toNat).1 (hlt k h)
   exact hinj _ _ h2.1 h h2.2
  ·
   simp only [h,if_false]
   exact (hg k).2 h
 ·
  by_cases h:y<p.length
  ·
   have h2:=(hg y).1 h
   simp only [h2.1,if_true,h2.2]
  ·
   have h2:=(hg y).2 h
   simp only [h2,h,if_false]
 ·
  apply List.ext_getElem?
  intro k
  by_cases h:k<p.length
  · rw [hf k h,li_at h,if_pos h]
  · rw [List.getElem?_eq_none (by omega),li_none (by omega)]
/-! The program's functions on permutations. -/
end
section
variable {N : Nat}
end
section
variable {N : Nat}
end
section
variable {N : Nat}
/-! The program's functions. -/
end
section
variable {N : Nat}
end
end Gar
end Go.Proofs.Ytkjpldmelafooaa

set_option linter.all false
namespace Go.Proofs.Ytkjpldmelafooaa
namespace Gar
inductive BE (N:Nat):List Int→List Int→Prop
 | refl (w):BE N w w
 | symm {u v}:BE N u v→BE N v u
 | trans {u v w}:BE N u v→BE N v w→BE N u w
 | far (a b) {i j:Nat}:1≤i→i<N→1≤j→j<N→i+1<j→BE N (a++(i:Int)::(j:Int)::b) (a++(j:Int)::(i:Int)::b)
 | braid (a b) {i:Nat}:1≤i→i+1<N→BE N (a++(i:Int)::((i+1:Nat):Int)::(i:Int)::b) (a++((i+1:Nat):Int)::(i:Int)::((i+1:Nat):Int)::b)
 | pn (a b) {i:Nat}:1≤i→i<N→BE N (a++(i:Int)::(-(i:Int))::b) (a++b)
 | np (a b) {i:Nat}:1≤i→i<N→BE N (a++(-(i:Int))::(i:Int)::b) (a++b)
def pos (w:List Nat):List Int:=w.map fun (i:Nat)=>(i:Int)
theorem pos_app (u v:List Nat):pos (u++v)=pos u++pos v:=List.map_append
section
variable {N : Nat}
theorem BE.app {u v:List Int} (h:BE N u v) (a b:List Int):BE N (a++u++b) (a++v++b):=by
 induction h with
 | refl w=>exact .refl _
 | symm _ ih=>exact ih.symm
 | trans _ _ h1 h2=>exact h1.trans h2
 | far c d h1 h2 h3 h4 h5=>
  have:=BE.far (N:=N) (a++c) (d++b) h1 h2 h3 h4 h5
  simpa [List.append_assoc] using this
 | braid c d h1 h2=>
  have:=BE.braid (N:=N) (a++c) (d++b) h1 h2
  simpa [List.append_assoc] using this
 | pn c d h1 h2=>
  have:=BE.pn (N:=N) (a++c) (d++b) h1 h2
  simpa [List.append_assoc] using this
 | np c d h1 h2=>
  have:=BE.np (N:=N) (a++c) (d++b) h1 h2
  simpa [List.append_assoc] using this
theorem BE.left {u v:List Int} (h:BE N u v) (a:List Int):BE N (a++u) (a++v):=by
 have:=h.app a []; simpa using this
theorem BE.right {u v:List Int} (h:BE N u v) (b:List Int):BE N (u++b) (v++b):=by
 have:=h.app [] b; simpa using this
theorem BE.mul {u v u' v':List Int} (h:BE N u v) (h':BE N u' v'):BE N (u++u') (v++v'):=(h.right u').trans (h'.left v)
theorem PE.be {u v:List Nat} (h:PE N u v):BE N (pos u) (pos v):=by
 induction h with
 | refl w=>exact .refl _
 | symm _ ih=>exact ih.symm
 | trans _ _ h1 h2=>exact h1.trans h2
 | far c d h1 h2 h3 h4 h5=>
  have:=BE.far (N:=N) (pos c) (pos d) h1 h2 h3 h4 h5
  simpa [pos] using this
 | braid c d h1 h2=>
  have:=BE.braid (N:=N) (pos c) (pos d) h1 h2
  simpa [pos] using this
def neg (w:List Int):List Int:=(w.map fun x=>-x).reverse
theorem neg_neg (u:List Int):neg (neg u)=u:=by
 simp only [neg,List.map_reverse,List.reverse_reverse,List.map_map]
 conv=>rhs; rw [←List.map_id' u]
 apply List.map_congr_left
 intro x _
 show- -x=x
 omega
def Rg (N:Nat) (w:List Int):Prop:= ∀x∈w,x≠0∧-(N:Int)<x∧x<N
theorem Rg.neg {u:List Int} (h:Rg N u):Rg N (neg u):=fun x hx=>by
 simp only [Gar.neg,List.mem_reverse,List.mem_map] at hx
 obtain ⟨y,hy,rfl⟩:=hx
 have:=h y hy; omega
theorem BE.one {x:Int} (hx:x≠0∧-(N:Int)<x∧x<N) (a b:List Int):BE N (a++x::(-x)::b) (a++b):=by
 rcases Int.lt_or_gt_of_ne hx.1 with h | h
 ·
  have:=BE.np (N:=N) a b (i:=(-x).toNat) (by omega) (by omega)
  rwa [show ((-x).toNat:Int)=-x by omega,Int.neg_neg] at this
 ·
  have:=BE.pn (N:=N) a b (i:=x.toNat) (by omega) (by omega)
  rwa [show (x.toNat:Int)=x by omega] at this
theorem BE.cancel {w:List Int} (h:Rg N w):BE N (w++Gar.neg w) []:=by
 induction w with
 | nil=>exact .refl _
 | cons x w ih=>
  have h1:=ih fun y hy=>h y (List.mem_cons_of_mem _ hy)
  have e:(x::w)++Gar.neg (x::w)=[x]++(w++Gar.neg w)++[-x]:=by simp [Gar.neg]
  rw [e]
  have h2:=BE.one (N:=N) (h x (by simp)) [] []
  exact (h1.app [x] [-x]).trans (by simpa using h2)
theorem BE.cancel' {w:List Int} (h:Rg N w):BE N (Gar.neg w++w) []:=by
 have:=BE.cancel h.neg
 rwa [neg_neg] at this
theorem BE.neg {u v:List Int} (hu:Rg N u) (hv:Rg N v) (h:BE N u v):BE N (Gar.neg u) (Gar.neg v):=by
 -- neg u=neg u v neg v=neg u u neg v=neg v
 have h1:BE N (Gar.neg u++(v++Gar.neg v)) (Gar.neg u):=by have:=(BE.cancel hv).left (Gar.neg u); simpa using this
 have h2:BE N (Gar.neg u++(v++Gar.neg v)) (Gar.neg u++(u++Gar.neg v)):=(h.symm.right _).left _
 have h3:BE N (Gar.neg u++(u++Gar.neg v)) (Gar.neg v):=by
  rw [←List.append_assoc]
  have:=(BE.cancel' hu).right (Gar.neg v); simpa using this
 exact h1.symm.trans (h2.trans h3)
/-! The half twist. -/
def dl (N k:Nat):Nat:=if k<N then N-1-k else k
def tn (N:Nat) (f:Nat→Nat):Nat→Nat:=fun k=>dl N (f (dl N k))
variable {H : List Nat} (hH : Wd N (dl N) H)
include hH
omit hH
include hH
omit hH
/-! The words of lists of permutations. -/
inductive Wl (N:Nat):List (Nat→Nat)→List Nat→Prop
 | nil:Wl N [] []
 | cons {f fs w v}:Wd N f w→Wl N fs v→Wl N (f::fs) (w++v)
end
end Gar
end Go.Proofs.Ytkjpldmelafooaa

set_option linter.all false
namespace Go.Proofs.Ytkjpldmelafooaa
open Ev
namespace Gar
def okW (s:Int) (w:List Int):Bool:=w.all fun x=>decide (x≠0)&&(decide (-s<x)&&decide (x<s))
def okB (s:Int) (w:List Int):Bool:=decide (1≤s)&&(decide (s≤10)&&(decide (w.length≤200)&&okW s w))
theorem qcy {s:Int} {w:List Int}:okB s w=true↔(1≤s∧s≤10∧w.length≤200∧∀x∈w,x≠0∧-s<x∧x<s):=by
 simp only [okB,okW,Bool.and_eq_true,decide_eq_true_eq,List.all_eq_true]
theorem drop_step {w:List Int} {k:Nat} (hk:k<w.length):w.drop k=w[k]::w.drop (k+1):=(List.getElem_cons_drop hk).symm
theorem braidValid {s:Int} {w:List Int} (n:Nat) (hn:w.length<n):F.qgm n s w=some (okB s w):=by
 unfold F.qgm
 by_cases h1:s<1
 · rw [dT h1]; simp [okB]; omega
 rw [dF h1]
 by_cases h2:10<s
 · rw [dT h2]; simp [okB]; omega
 rw [dF h2]
 by_cases h3:(200:Int)<(w.length:Int)
 · rw [dT h3]; simp [okB]; omega
 rw [dF h3]
 simp only [kF]
 have hok:okB s w=okW s w:=by
  unfold okB; rw [dT (show 1≤s by omega),dT (show s≤10 by omega),dT (show w.length≤200 by omega)]; simp
 obtain ⟨r,hr,hq⟩:=qez (body:=F.qfr n s w) (fun v=> ∃k:Nat,v=(k:Int)∧k≤w.length∧okW s w=okW s (w.drop k)) (fun v=>w.length-v.toNat)
  (fun r=>match r with | .inl _=>okW s w=true | .inr b=>b=okW s w) (fun v ⟨k,hv,hk,hI⟩=>by
   subst hv
   unfold F.qfr
   dsimp only
   by_cases hlt:(k:Int)<(w.length:Int)
   ·
    rw [dT hlt]
    have hk':k<w.length:=by omega
    have hs:okW s (w.drop k)=(decide (w[k]≠0)&&(decide (-s<w[k])&&decide (w[k]<s))&&okW s (w.drop (k+1))):=by
     unfold okW; rw [drop_step hk',List.all_cons]
    simp only [kT,qbl,gE hk',bB]
    rw [qal (by omega) (by omega),qal (by omega) (by omega)]
    simp only [bB]
    by_cases c1:w[k]=0
    · rw [dT c1]; right; exact ⟨_,rfl,by rw [hI,hs]; simp [c1]⟩
    rw [dF c1]
    by_cases c2:w[k]≤-s
    · rw [dT c2]; right; exact ⟨_,rfl,by rw [hI,hs,dF (show¬(-s<w[k]) by omega)]; simp⟩
    rw [dF c2]
    by_cases c3:s≤w[k]
    · rw [dT c3]; right; exact ⟨_,rfl,by rw [hI,hs,dF (show¬(w[k]<s) by omega)]; simp⟩
    rw [dF c3]
    left
    refine ⟨_,rfl,⟨k+1,by simp,by omega,?_⟩,by omega⟩
    rw [hI,hs,dT (show w[k]≠0 from c1),dT (show -s<w[k] by omega),dT (show w[k]<s by omega)]; simp
   ·
    rw [dF hlt]
    right
    have:k=w.length:=by omega
    subst this
    exact ⟨_,rfl,by show okW s w=true; rw [hI]; simp [okW]⟩) n 0 ⟨0,rfl,Nat.zero_le _,by simp⟩ (by simpa using hn)
 rw [hr]
 simp only [bB]
 cases r with
 | inl v=>simp only at hq⊢; rw [hok,hq]
 | inr b=>simp only at hq⊢; rw [hok,hq]
