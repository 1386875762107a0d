import Derived.Test.YteajmbanlohncaaPQsph
set_option linter.unusedVariables false
set_option linter.unusedSimpArgs false
namespace Go.Proofs.Yteajmbanlohncaa
open Ev
namespace Pg
def cmpL:List Int→List Int→Int
 | [],[]=>0
 | [],_::_=>-1
 | _::_,[]=>1
 | x::a,y::b=>if x<y then -1 else if y<x then 1 else cmpL a b
theorem cmpL_cons (x y:Int) (a b:List Int):cmpL (x::a) (y::b)=if x<y then -1 else if y<x then 1 else cmpL a b:=rfl
theorem cmpL_self: ∀a:List Int,cmpL a a=0
 | []=>rfl
 | x::a=>by simp only [cmpL]; rw [if_neg (by omega),if_neg (by omega)]; exact cmpL_self a
theorem cmpL_eq: ∀{a b:List Int},cmpL a b=0→a=b
 | [],[],_=>rfl
 | [],_::_,h=>by simp [cmpL] at h
 | _::_,[],h=>by simp [cmpL] at h
 | x::a,y::b,h=>by
  simp only [cmpL] at h
  split at h
  · exact absurd h (by decide)
  split at h
  · exact absurd h (by decide)
  · rw [cmpL_eq h,show x=y by omega]
theorem cmpL_swap: ∀a b:List Int,cmpL b a=-cmpL a b
 | [],[]=>rfl
 | [],_::_=>rfl
 | _::_,[]=>rfl
 | x::a,y::b=>by
  simp only [cmpL]
  by_cases h1:x<y
  · rw [if_pos h1,if_neg (by omega),if_pos h1]; rfl
  ·
   rw [if_neg h1]
   by_cases h2:y<x
   · rw [if_pos h2,if_pos h2,if_neg h1]
   · rw [if_neg h2,if_neg h1,if_neg h2]; exact cmpL_swap a b
theorem cmpL_trans: ∀{a b c:List Int},cmpL a b≤0→cmpL b c≤0→cmpL a c≤0
 | [],_,[],_,_=>by simp [cmpL]
 | [],_,_::_,_,_=>by simp [cmpL]
 | x::a,[],_,h,_=>by simp [cmpL] at h
 | _::_,y::b,[],_,h=>by simp [cmpL] at h
 | x::a,y::b,z::c,h1,h2=>by
  simp only [cmpL] at h1 h2⊢
  by_cases p:x<y
  ·
   by_cases q:y<z
   · rw [if_pos (by omega)]; decide
   ·
    rw [if_neg q] at h2
    by_cases r:z<y
    · rw [if_pos r] at h2; exact absurd h2 (by decide)
    · rw [if_pos (by omega)]; decide
  ·
   rw [if_neg p] at h1
   by_cases p2:y<x
   · rw [if_pos p2] at h1; exact absurd h1 (by decide)
   rw [if_neg p2] at h1
   by_cases q:y<z
   · rw [if_pos (by omega)]; decide
   ·
    rw [if_neg q] at h2
    by_cases r:z<y
    · rw [if_pos r] at h2; exact absurd h2 (by decide)
    rw [if_neg r] at h2
    rw [if_neg (by omega),if_neg (by omega)]
    exact cmpL_trans h1 h2
theorem cmpL_app: ∀{a b:List Int} (x y:List Int),a.length=b.length→cmpL (a++x) (b++y)=if cmpL a b=0 then cmpL x y else cmpL a b
 | [],[],x,y,_=>by simp [cmpL]
 | [],_::_,_,_,h=>by simp at h
 | _::_,[],_,_,h=>by simp at h
 | u::a,v::b,x,y,h=>by
  by_cases h1:u<v
  ·
   have e1:cmpL (u::a) (v::b)=-1:=by rw [cmpL_cons,if_pos h1]
   have e2:cmpL (u::a++x) (v::b++y)=-1:=by rw [List.cons_append,List.cons_append,cmpL_cons,if_pos h1]
   rw [e1,e2,if_neg (by decide)]
  ·
   by_cases h2:v<u
   ·
    have e1:cmpL (u::a) (v::b)=1:=by rw [cmpL_cons,if_neg h1,if_pos h2]
    have e2:cmpL (u::a++x) (v::b++y)=1:=by rw [List.cons_append,List.cons_append,cmpL_cons,if_neg h1,if_pos h2]
    rw [e1,e2,if_neg (by decide)]
   ·
    have e1:cmpL (u::a) (v::b)=cmpL a b:=by rw [cmpL_cons,if_neg h1,if_neg h2]
    have e2:cmpL (u::a++x) (v::b++y)=cmpL (a++x) (b++y):=by rw [List.cons_append,List.cons_append,cmpL_cons,if_neg h1,if_neg h2]
    rw [e1,e2]
    exact cmpL_app x y (by simpa using h)
theorem cmp_int (n:Nat) (x y:Int):F.cmp_Compare_int n x y=some (if x<y then -1 else if y<x then 1 else 0):=by
 unfold F.cmp_Compare_int F.cmp_isNaN_int
 rw [dT rfl,dT rfl,Bool.not_true,bB,bB,kF,kF]
 by_cases h1:x<y
 · rw [dT h1,kT,if_pos h1]
 ·
  rw [dF h1,kF,if_neg h1]
  by_cases h2:y<x
  · rw [dT h2,kT,if_pos h2]
  · rw [dF h2,kF,if_neg h2]
theorem compare_eq (a b:List Int) (n:Nat) (hn:a.length<n) (ha:a.length≤1000000000):F.slices_Compare_Lint_int n a b=some (cmpL a b):=by
 unfold F.slices_Compare_Lint_int
 obtain ⟨r,r1,r2⟩:=loop_spec (body:=F.slices_Compare_Lint_int_b0 n a b) (fun s=> ∃k:Nat,s=(k:Int)∧k≤a.length∧k≤b.length∧cmpL a b=cmpL (a.drop k) (b.drop k)) (fun s=>a.length-s.toNat)
  (fun r=>match r with | .inl _=>a.length≤b.length∧cmpL a b=cmpL [] (b.drop a.length) | .inr q=>q=cmpL a b) (fun s ⟨k,h1,h2,h3,h4⟩=>by
   subst h1
   unfold F.slices_Compare_Lint_int_b0
   dsimp only
   by_cases hk:k<a.length
   ·
    have e1:=gE hk
    have d1:a.drop k=a[k]::a.drop (k+1):=(List.getElem_cons_drop hk).symm
    rw [dT (by omega),kT,get_at rfl e1,bB]
    by_cases hb:k<b.length
    ·
     have e2:=gE hb
     have d2:b.drop k=b[k]::b.drop (k+1):=(List.getElem_cons_drop hb).symm
     rw [dF (by omega),kF,get_at rfl e2,bB,cmp_int,bB]
     rw [d1,d2] at h4
     simp only [cmpL] at h4
     by_cases q1:a[k]<b[k]
     ·
      rw [if_pos q1] at h4⊢
      rw [dF (by decide),Bool.not_false,kT]
      exact .inr ⟨_,rfl,h4.symm⟩
     ·
      rw [if_neg q1] at h4⊢
      by_cases q2:b[k]<a[k]
      ·
       rw [if_pos q2] at h4⊢
       rw [dF (by decide),Bool.not_false,kT]
       exact .inr ⟨_,rfl,h4.symm⟩
      ·
       rw [if_neg q2] at h4⊢
       rw [dT rfl,Bool.not_true,kF,chk_ok (by omega) (by omega),bB]
       exact .inl ⟨_,rfl,⟨k+1,rfl,by omega,by omega,h4⟩,by omega⟩
    ·
     rw [dT (by omega),kT]
     have d2:b.drop k=[]:=List.drop_of_length_le (by omega)
     rw [d1,d2] at h4
     exact .inr ⟨_,rfl,h4.symm⟩
   ·
    rw [dF (by omega),kF]
    have:k=a.length:=by omega
    subst this
    rw [List.drop_of_length_le (Nat.le_refl _)] at h4
    exact .inr ⟨_,rfl,h3,h4⟩) n 0 ⟨0,rfl,Nat.zero_le _,Nat.zero_le _,by simp⟩ (by simp; omega)
 rw [r1,bB]
 rcases r with v | q
 ·
  obtain ⟨h1,h2⟩:=r2
  dsimp only
  by_cases h3:a.length<b.length
  ·
   rw [dT (by omega),kT,h2]
   have:b.drop a.length≠[]:=fun e=>by have:=congrArg List.length e; rw [List.length_drop,List.length_nil] at this; omega
   cases hb:b.drop a.length with
   | nil=>exact absurd hb this
   | cons y t=>rfl
  ·
   rw [dF (by omega),kF,h2,List.drop_of_length_le (by omega)]
   rfl
 · exact congrArg some r2
def slotS (μ:Nat→Nat) (c s:Nat) (q:List Nat×List Int):List Nat×List Int:=
 let m:=μ (4*c+s)
 let o:=if m/ 4∈q.1 then q.1 else q.1++[m/ 4]
 (o,q.2++[((4*o.idxOf (m/ 4)+m%4:Nat):Int)])
def rowS (sg:List Int) (μ:Nat→Nat) (c:Nat) (q:List Nat×List Int):List Nat×List Int:=
 slotS μ c 3 (slotS μ c 2 (slotS μ c 1 (slotS μ c 0 (q.1,q.2++[sg.getD c 0]))))
def runS (sg:List Int) (μ:Nat→Nat) (root:Nat):Nat→List Nat×List Int
 | 0=>([root],[])
 | k+1=>match (runS sg μ root k).1[k]? with
  | some c=>rowS sg μ c (runS sg μ root k)
  | none=>runS sg μ root k
theorem slotS_pre (μ:Nat→Nat) (c s:Nat) (q:List Nat×List Int): ∃l,(slotS μ c s q).1=q.1++l:=by
 unfold slotS
 dsimp only
 split
 · exact ⟨[],by simp⟩
 · exact ⟨_,rfl⟩
theorem rowS_pre (sg:List Int) (μ:Nat→Nat) (c:Nat) (q:List Nat×List Int): ∃l,(rowS sg μ c q).1=q.1++l:=by
 unfold rowS
 obtain ⟨l0,h0⟩:=slotS_pre μ c 0 (q.1,q.2++[sg.getD c 0])
 obtain ⟨l1,h1⟩:=slotS_pre μ c 1 (slotS μ c 0 (q.1,q.2++[sg.getD c 0]))
 obtain ⟨l2,h2⟩:=slotS_pre μ c 2 (slotS μ c 1 (slotS μ c 0 (q.1,q.2++[sg.getD c 0])))
 obtain ⟨l3,h3⟩:=slotS_pre μ c 3 (slotS μ c 2 (slotS μ c 1 (slotS μ c 0 (q.1,q.2++[sg.getD c 0]))))
 exact ⟨l0++(l1++(l2++l3)),by rw [h3,h2,h1,h0]; simp only [List.append_assoc]⟩
theorem slotS_nd {μ:Nat→Nat} {c s:Nat} {q:List Nat×List Int} (h:q.1.Nodup):(slotS μ c s q).1.Nodup:=by
 unfold slotS
 dsimp only
 split
 · exact h
 ·
  rename_i h2
  rw [List.nodup_append]
  exact ⟨h,by simp,fun a ha b hb e=>by rw [List.mem_singleton] at hb; subst hb; subst e; exact h2 ha⟩
theorem rowS_nd {sg:List Int} {μ:Nat→Nat} {c:Nat} {q:List Nat×List Int} (h:q.1.Nodup):(rowS sg μ c q).1.Nodup:=slotS_nd (slotS_nd (slotS_nd (slotS_nd h)))
theorem slotS_len (μ:Nat→Nat) (c s:Nat) (q:List Nat×List Int):(slotS μ c s q).2.length=q.2.length+1:=by simp [slotS]
theorem rowS_len (sg:List Int) (μ:Nat→Nat) (c:Nat) (q:List Nat×List Int):(rowS sg μ c q).2.length=q.2.length+5:=by
 unfold rowS
 rw [slotS_len,slotS_len,slotS_len,slotS_len]; simp
theorem slotS_cpre (μ:Nat→Nat) (c s:Nat) (q:List Nat×List Int): ∃l,(slotS μ c s q).2=q.2++l:=⟨_,rfl⟩
theorem rowS_cpre (sg:List Int) (μ:Nat→Nat) (c:Nat) (q:List Nat×List Int): ∃l,(rowS sg μ c q).2=q.2++l∧l.length=5:=by
 unfold rowS
 obtain ⟨l0,h0⟩:=slotS_cpre μ c 0 (q.1,q.2++[sg.getD c 0])
 obtain ⟨l1,h1⟩:=slotS_cpre μ c 1 (slotS μ c 0 (q.1,q.2++[sg.getD c 0]))
 obtain ⟨l2,h2⟩:=slotS_cpre μ c 2 (slotS μ c 1 (slotS μ c 0 (q.1,q.2++[sg.getD c 0])))
 obtain ⟨l3,h3⟩:=slotS_cpre μ c 3 (slotS μ c 2 (slotS μ c 1 (slotS μ c 0 (q.1,q.2++[sg.getD c 0]))))
 have e:(slotS μ c 3 (slotS μ c 2 (slotS μ c 1 (slotS μ c 0 (q.1,q.2++[sg.getD c 0]))))).2=q.2++([sg.getD c 0]++(l0++(l1++(l2++l3)))):=by rw [h3,h2,h1,h0]; simp only [List.append_assoc]
 refine ⟨_,e,?_⟩
 have h:=rowS_len sg μ c q
 unfold rowS at h
 rw [e,List.length_append] at h
 omega
def nI (l:List Nat):List Int:=l.map fun c:Nat=>(c:Int)
theorem nI_len (l:List Nat):(nI l).length=l.length:=by simp [nI]
theorem nI_get {l:List Nat} {i a:Nat} (h:l[i]? =some a):Ev.get (nI l) (i:Int)=some (a:Int):=get_at rfl (by unfold nI; rw [List.getElem?_map,h]; rfl)
theorem nI_app (a b:List Nat):nI (a++b)=nI a++nI b:=List.map_append
def numL (n:Nat) (ord:List Nat):List Int:=iL n fun x=>if x∈ord then ((ord.idxOf x:Nat):Int) else -1
theorem numL_get {n:Nat} {ord:List Nat} {x:Nat} (h:x<n):Ev.get (numL n ord) (x:Int)=some (if x∈ord then ((ord.idxOf x:Nat):Int) else -1):=get_at rfl (iL_get h)
theorem idx_snoc {ord:List Nat} {y:Nat} (h:y∉ord):(ord++[y]).idxOf y=ord.length:=by
 rw [List.idxOf_append,if_neg h]; simp
theorem idx_old {ord:List Nat} {x y:Nat} (h:x∈ord):(ord++[y]).idxOf x=ord.idxOf x:=by
 rw [List.idxOf_append,if_pos h]
theorem numL_add {n:Nat} {ord:List Nat} {y:Nat} (h:y∉ord):(numL n ord).set y (ord.length:Int)=numL n (ord++[y]):=by
 unfold numL
 rw [iL_set]
 refine iL_congr fun x _=>?_
 by_cases e:x=y
 ·
  subst e
  rw [if_pos rfl,if_pos (by simp),idx_snoc h]
 ·
  rw [if_neg e]
  by_cases hx:x∈ord
  · rw [if_pos hx,if_pos (by simp [hx]),idx_old hx]
  · rw [if_neg hx,if_neg (by simp [hx,e])]
section
variable {n : Nat} {sg M : List Int} {μ : Nat → Nat} (hM : MT (4 * n) M μ) (hn : n ≤ 64) (hsg : sg.length = n)
include hM hn
theorem slot_step {c s:Nat} (hc:c<n) (hs:s<4) {ord:List Nat} {cd:List Int} (ho:ord.length≤n) (hcd:cd.length≤10000) (m:Nat):
  F.canon_number_b3 m M (c:Int) (nI ord,cd,(s:Int),numL n ord)=some (.inl (nI (slotS μ c s (ord,cd)).1,(slotS μ c s (ord,cd)).2,((s+1:Nat):Int),numL n (slotS μ c s (ord,cd)).1)):=by
 obtain ⟨h1,h2,_,_⟩:=hM.2 (4*c+s) (by omega)
 have hg:Ev.get M (4*(c:Int)+(s:Int))=some ((μ (4*c+s):Nat):Int):=get_at (k:=4*c+s) (by omega) h1
 have hd:Int.tdiv ((μ (4*c+s):Nat):Int) 4=((μ (4*c+s)/ 4:Nat):Int):=by rw [show (4:Int)=((4:Nat):Int) from rfl,Int.ofNat_tdiv]
 have hr:Int.tmod ((μ (4*c+s):Nat):Int) 4=((μ (4*c+s)%4:Nat):Int):=by rw [show (4:Int)=((4:Nat):Int) from rfl,Int.ofNat_tmod]
 have hq:μ (4*c+s)/ 4<n:=by omega
 have hj: ∀(ord':List Nat) (b:Bool),μ (4*c+s)/ 4∈ord'→ord'.length≤n+1→F.canon_number_j4 m cd (s:Int) ((μ (4*c+s):Nat):Int) (nI ord') b (numL n ord')=
   some (.inl (nI ord',cd++[((4*ord'.idxOf (μ (4*c+s)/ 4)+μ (4*c+s)%4:Nat):Int)],((s+1:Nat):Int),numL n ord')):=by
  intro ord' b hm hl
  have hi:=List.idxOf_lt_length_of_mem hm
  unfold F.canon_number_j4
  rw [nz_ok (by decide),bB,hd,chk_ok (by omega) (by omega),bB,numL_get hq,bB,if_pos hm,chk_ok (by omega) (by omega),bB,bB,hr,chk_ok (by omega) (by omega),bB,
   lim_ok (by simp only [List.length_cons,List.length_nil]; omega),bB,chk_ok (by omega) (by omega),bB]
  have:4*((ord'.idxOf (μ (4*c+s)/ 4):Nat):Int)+((μ (4*c+s)%4:Nat):Int)=((4*ord'.idxOf (μ (4*c+s)/ 4)+μ (4*c+s)%4:Nat):Int):=by omega
  rw [this]
  rfl
 unfold F.canon_number_b3 slotS
 dsimp only
 rw [dT (by omega),kT,chk_ok (by omega) (by omega),bB,chk_ok (by omega) (by omega),bB,hg,bB,nz_ok (by decide),bB,hd,chk_ok (by omega) (by omega),bB,numL_get hq,bB]
 by_cases hm:μ (4*c+s)/ 4∈ord
 ·
  rw [if_pos hm,if_pos hm,dF (by omega),kF]
  exact hj ord false hm (by omega)
 ·
  rw [if_neg hm,if_neg hm,dT (by omega),kT,bB,bB,numL_get hq,bB,bB,bB,lim_ok (by rw [nI_len]; simp only [List.length_cons,List.length_nil]; omega),bB,Int.toNat_natCast,nI_len,numL_add hm]
  have e:nI ord++[((μ (4*c+s)/ 4:Nat):Int)]=nI (ord++[μ (4*c+s)/ 4]):=by rw [nI_app]; rfl
  rw [e]
  exact hj (ord++[μ (4*c+s)/ 4]) true (by simp) (by rw [List.length_append]; simp only [List.length_cons,List.length_nil]; omega)
omit hn in
theorem slotS_lt {c s:Nat} (hc:c<n) (hs:s<4) {q:List Nat×List Int} (h: ∀x∈q.1,x<n): ∀x∈(slotS μ c s q).1,x<n:=by
 have:=(hM.2 (4*c+s) (by omega)).2.1
 unfold slotS
 dsimp only
 split
 · exact h
 ·
  intro x hx
  rcases List.mem_append.1 hx with hx | hx
  · exact h x hx
  · rw [List.mem_singleton] at hx; omega
omit hn in
theorem rowS_lt {c:Nat} (hc:c<n) {q:List Nat×List Int} (h: ∀x∈q.1,x<n): ∀x∈(rowS sg μ c q).1,x<n:=by
 have s1: ∀s,s<4→∀q:List Nat×List Int,(∀x∈q.1,x<n)→∀x∈(slotS μ c s q).1,x<n:=by
  intro s hs q h
  have:=(hM.2 (4*c+s) (by omega)).2.1
  unfold slotS
  dsimp only
  split
  · exact h
  ·
   intro x hx
   rcases List.mem_append.1 hx with hx | hx
   · exact h x hx
   · rw [List.mem_singleton] at hx; omega
 exact s1 3 (by omega) _ (s1 2 (by omega) _ (s1 1 (by omega) _ (s1 0 (by omega) _ h)))
theorem rowC_loop {c:Nat} (hc:c<n) {ord:List Nat} {cd:List Int} (hnd:ord.Nodup) (hlt: ∀x∈ord,x<n) (hcd:cd.length≤5000) (m:Nat) (hm:10<m):
  loopN m (F.canon_number_b3 m M (c:Int)) (nI ord,cd++[sg.getD c 0],0,numL n ord)=some (nI (rowS sg μ c (ord,cd)).1,(rowS sg μ c (ord,cd)).2,4,numL n (rowS sg μ c (ord,cd)).1):=by
 obtain ⟨k,rfl⟩: ∃k,m=k+5:=⟨m-5,by omega⟩
 have len: ∀q:List Nat×List Int,q.1.Nodup→(∀x∈q.1,x<n)→q.1.length≤n:=fun q h1 h2=>nodup_lt h1 h2
 have st: ∀s:Nat,s<4→∀q:List Nat×List Int,q.1.Nodup→(∀x∈q.1,x<n)→q.2.length≤5100→
   F.canon_number_b3 (k+5) M (c:Int) (nI q.1,q.2,(s:Int),numL n q.1)=some (.inl (nI (slotS μ c s q).1,(slotS μ c s q).2,((s+1:Nat):Int),numL n (slotS μ c s q).1)):=fun s hs q h1 h2 h3=>slot_step hM hn hc hs (len q h1 h2) (by omega) _
 have q0:(ord,cd++[sg.getD c 0]).1.Nodup∧(∀x∈(ord,cd++[sg.getD c 0]).1,x<n)∧(ord,cd++[sg.getD c 0]).2.length≤5001:=⟨hnd,hlt,by simp; omega⟩
 have nx: ∀s:Nat,s<4→∀q:List Nat×List Int,∀L,q.1.Nodup∧(∀x∈q.1,x<n)∧q.2.length≤L→(slotS μ c s q).1.Nodup∧(∀x∈(slotS μ c s q).1,x<n)∧(slotS μ c s q).2.length≤L+1:=fun s hs q L h=>⟨slotS_nd h.1,slotS_lt hM hc hs h.2.1,by rw [slotS_len]; omega⟩
 have q1:=nx 0 (by omega) _ _ q0
 have q2:=nx 1 (by omega) _ _ q1
 have q3:=nx 2 (by omega) _ _ q2
 have e0:=st 0 (by omega) _ q0.1 q0.2.1 (by have:=q0.2.2; omega)
 have e1:=st 1 (by omega) _ q1.1 q1.2.1 (by have:=q1.2.2; omega)
 have e2:=st 2 (by omega) _ q2.1 q2.2.1 (by have:=q2.2.2; omega)
 have e3:=st 3 (by omega) _ q3.1 q3.2.1 (by have:=q3.2.2; omega)
 have e4: ∀a b d,F.canon_number_b3 (k+5) M (c:Int) (a,b,4,d)=some (.inr (a,b,4,d)):=fun a b d=>by
  unfold F.canon_number_b3
  dsimp only
  rw [dF (by decide),kF]
 show loopN (k+5) _ (nI (ord,cd++[sg.getD c 0]).1,(ord,cd++[sg.getD c 0]).2,((0:Nat):Int),numL n (ord,cd++[sg.getD c 0]).1)=_
 rw [loopN,e0,bB]
 dsimp only
 rw [loopN,e1,bB]
 dsimp only
 rw [loopN,e2,bB]
 dsimp only
 rw [loopN,e3,bB]
 dsimp only
 rw [loopN]
 rw [show (((3+1:Nat):Nat):Int)=4 from rfl,e4,bB]
 rfl
end
theorem run_row {sg:List Int} {μ:Nat→Nat} {root k c:Nat} (h:(runS sg μ root k).1[k]? =some c):runS sg μ root (k+1)=rowS sg μ c (runS sg μ root k):=by
 show (match (runS sg μ root k).1[k]? with | some c=>rowS sg μ c (runS sg μ root k) | none=>runS sg μ root k)=_
 rw [h]
theorem run_none {sg:List Int} {μ:Nat→Nat} {root k:Nat} (h:(runS sg μ root k).1[k]? =none):runS sg μ root (k+1)=runS sg μ root k:=by
 show (match (runS sg μ root k).1[k]? with | some c=>rowS sg μ c (runS sg μ root k) | none=>runS sg μ root k)=_
 rw [h]
theorem run_cpre (sg:List Int) (μ:Nat→Nat) (root:Nat) {j:Nat}: ∀{k:Nat},j≤k→∃l,(runS sg μ root k).2=(runS sg μ root j).2++l
 | 0,h=>by
  have:j=0:=by omega
  subst this
  exact ⟨[],by simp⟩
 | k+1,h=>by
  rcases Nat.lt_or_ge k j with q | q
  ·
   have:j=k+1:=by omega
   subst this
   exact ⟨[],by simp⟩
  ·
   obtain ⟨l,hl⟩:=run_cpre sg μ root (k:=k) q
   cases hc:(runS sg μ root k).1[k]? with
   | none=>exact ⟨l,by rw [run_none hc]; exact hl⟩
   | some c=>
    obtain ⟨l2,h2,_⟩:=rowS_cpre sg μ c (runS sg μ root k)
    exact ⟨l++l2,by rw [run_row hc,h2,hl,List.append_assoc]⟩
theorem run_pre (sg:List Int) (μ:Nat→Nat) (root:Nat) {j:Nat}: ∀{k:Nat},j≤k→∃l,(runS sg μ root k).1=(runS sg μ root j).1++l
 | 0,h=>by
  have:j=0:=by omega
  subst this
  exact ⟨[],by simp⟩
 | k+1,h=>by
  rcases Nat.lt_or_ge k j with q | q
  ·
   have:j=k+1:=by omega
   subst this
   exact ⟨[],by simp⟩
  ·
   obtain ⟨l,hl⟩:=run_pre sg μ root (k:=k) q
   cases hc:(runS sg μ root k).1[k]? with
   | none=>exact ⟨l,by rw [run_none hc]; exact hl⟩
   | some c=>
    obtain ⟨l2,h2⟩:=rowS_pre sg μ c (runS sg μ root k)
    exact ⟨l++l2,by rw [run_row hc,h2,hl,List.append_assoc]⟩
theorem run_stop {sg:List Int} {μ:Nat→Nat} {root k:Nat} (h:(runS sg μ root k).1.length≤k): ∀{j:Nat},k≤j→runS sg μ root j=runS sg μ root k
 | 0,hj=>by
  have:k=0:=by omega
  rw [this]
 | j+1,hj=>by
  rcases Nat.lt_or_ge j k with q | q
  ·
   have:k=j+1:=by omega
   rw [this]
  ·
   have ih:=run_stop h (j:=j) q
   show (match (runS sg μ root j).1[j]? with | some c=>rowS sg μ c (runS sg μ root j) | none=>runS sg μ root j)=_
   rw [ih,List.getElem?_eq_none (by omega)]
theorem run_nd (sg:List Int) (μ:Nat→Nat) (root:Nat): ∀k,(runS sg μ root k).1.Nodup
 | 0=>by simp [runS]
 | k+1=>by
  have ih:=run_nd sg μ root k
  unfold runS
  cases (runS sg μ root k).1[k]? with
  | none=>exact ih
  | some c=>exact rowS_nd ih
section
variable {n : Nat} {sg M : List Int} {μ : Nat → Nat} (hM : MT (4 * n) M μ) {root : Nat} (hr : root < n)
include hM hr
theorem run_lt: ∀k,∀x∈(runS sg μ root k).1,x<n
 | 0=>by
  intro x hx
  have:x=root:=by simpa [runS] using hx
  omega
 | k+1=>by
  have ih:=run_lt k
  unfold runS
  cases h:(runS sg μ root k).1[k]? with
  | none=>exact ih
  | some c=>exact rowS_lt hM (ih c (List.mem_of_getElem? h)) ih
theorem run_size (k:Nat):(runS sg μ root k).1.length≤n:=nodup_lt (run_nd sg μ root k) (run_lt hM hr k)
omit hM hr in
theorem run_code: ∀k,k≤(runS sg μ root k).1.length→(runS sg μ root k).2.length=5*k
 | 0,_=>rfl
 | k+1,h=>by
  by_cases q:k<(runS sg μ root k).1.length
  ·
   obtain ⟨c,hc⟩: ∃c,(runS sg μ root k).1[k]? =some c:=⟨_,gE q⟩
   rw [run_row hc,rowS_len,run_code k (by omega)]
   omega
  ·
   have e:=run_stop (sg:=sg) (μ:=μ) (root:=root) (k:=k) (by omega) (j:=k+1) (by omega)
   rw [e] at h
   omega
theorem run_end: ∃K,K≤n∧(runS sg μ root n).1.length=K∧runS sg μ root n=runS sg μ root K∧(runS sg μ root n).2.length=5*K:=by
 have key: ∀k,k≤n→(∃K,K≤k∧(runS sg μ root K).1.length=K)∨k≤(runS sg μ root k).1.length:=by
  intro k
  induction k with
  | zero=>exact fun _=>.inr (Nat.zero_le _)
  | succ k ih=>
   intro hk
   rcases ih (by omega) with ⟨K,h1,h2⟩ | h
   · exact .inl ⟨K,by omega,h2⟩
   ·
    rcases Nat.lt_or_ge k (runS sg μ root k).1.length with q | q
    ·
     right
     obtain ⟨l,hl⟩:=run_pre sg μ root (j:=k) (k:=k+1) (by omega)
     rw [hl,List.length_append]; omega
    · exact .inl ⟨k,by omega,by omega⟩
 obtain ⟨K,h1,h2⟩: ∃K,K≤n∧(runS sg μ root K).1.length=K:=by
  rcases key n (Nat.le_refl _) with h | h
  · exact h
  · exact ⟨n,Nat.le_refl _,by have:=run_size (sg:=sg) hM hr n; omega⟩
 have e:=run_stop (sg:=sg) (μ:=μ) (root:=root) (k:=K) (by omega) (j:=n) h1
 exact ⟨K,h1,by rw [e]; exact h2,e,by rw [e]; exact run_code K (by omega)⟩
theorem number_eq (hn:n≤64) (hsg:sg.length=n) (best:List Int) (hb:best=[]∨best.length=(runS sg μ root n).2.length) (lo:Int) (m:Nat) (hm:1000<m):
  F.canon_number m sg M lo (root:Int) best=some (if best=[] then ((runS sg μ root n).2,nI (runS sg μ root n).1,-1) else if 0<cmpL (runS sg μ root n).2 best then ([],[],1) else ((runS sg μ root n).2,nI (runS sg μ root n).1,cmpL (runS sg μ root n).2 best)):=by
 have hfill:loopN m (F.canon_number_b0 m sg) (0,List.replicate n (0:Int))=some ((n:Int),iL n fun _=>-1):=by
  have:=count_loop (body:=F.canon_number_b0 m sg) (fun k=>((k:Int),iL n fun x=>if x<k then -1 else 0)) n (r:=((n:Int),iL n fun _=>-1)) (fun k hk=>by
   unfold F.canon_number_b0
   dsimp only
   rw [List.length_replicate,Int.toNat_natCast,hsg,dT (by omega),kT,get_at rfl (iL_get hk),bB,chk_ok (by omega) (by omega),bB,Int.toNat_natCast,iL_set]
   have:iL n (fun j=>if j=k then (-1:Int) else if j<k then -1 else 0)=iL n (fun x=>if x<k+1 then -1 else 0):=iL_congr fun x _=>by
    by_cases e:x=k
    · rw [if_pos e,if_pos (by omega)]
    ·
     rw [if_neg e]
     by_cases q:x<k
     · rw [if_pos q,if_pos (by omega)]
     · rw [if_neg q,if_neg (by omega)]
   rw [this]
   rfl) (by
   unfold F.canon_number_b0
   dsimp only
   rw [List.length_replicate,Int.toNat_natCast,hsg,dF (by omega),kF]
   rw [iL_congr (f:=fun x=>if x<n then (-1:Int) else 0) (g:=fun _=>-1) (fun x hx=>if_pos hx)]) m (by omega)
  rw [iL_rep,iL_congr (f:=fun _=>(0:Int)) (g:=fun x=>if x<0 then -1 else 0) (fun x _=>(if_neg (by omega)).symm)]
  exact this
 have hnum0:(iL n fun _=>(-1:Int)).set root 0=numL n [root]:=by
  unfold numL
  rw [iL_set]
  refine iL_congr fun x _=>?_
  by_cases e:x=root
  · subst e; rw [if_pos rfl,if_pos (by simp)]; simp
  · rw [if_neg e,if_neg (by simp [e])]
 obtain ⟨K,k1,k2,k3,k4⟩:=run_end (sg:=sg) hM hr
 have main: ∀v0:Int,(best=[]→v0=-1)→(best≠[]→v0=0)→F.canon_number_j1 m sg M (root:Int) best (iL n fun _=>-1) v0=some (if best=[] then ((runS sg μ root n).2,nI (runS sg μ root n).1,-1) else if 0<cmpL (runS sg μ root n).2 best then ([],[],1) else ((runS sg μ root n).2,nI (runS sg μ root n).1,cmpL (runS sg μ root n).2 best)):=by
  intro v0 hv1 hv2
  obtain ⟨r,r1,r2⟩:=loop_spec (body:=F.canon_number_b2 m sg M best)
   (fun a=> ∃k v,a=(nI (runS sg μ root k).1,(runS sg μ root k).2,v,(k:Int),numL n (runS sg μ root k).1)∧k≤(runS sg μ root k).1.length∧(best=[]→v=-1)∧(best≠[]→v=cmpL (runS sg μ root k).2 (best.take (5*k))∧v≤0)) (fun a=>n+1-a.2.2.2.1.toNat)
   (fun r=>match r with
    | .inl a=> ∃v z w,a=(nI (runS sg μ root n).1,(runS sg μ root n).2,v,z,w)∧(best=[]→v=-1)∧(best≠[]→v=cmpL (runS sg μ root n).2 best∧v≤0)
    | .inr q=>q=([],[],1)∧best≠[]∧0<cmpL (runS sg μ root n).2 best)
   (fun a ⟨k,v,ha,hk,hv1,hv2⟩=>by
    subst ha
    have hcd:=run_code (sg:=sg) (μ:=μ) (root:=root) k hk
    have hsz:=run_size (sg:=sg) hM hr k
    rcases Nat.lt_or_ge k (runS sg μ root k).1.length with hlt | hge
    ·
     obtain ⟨c,hc⟩: ∃c,(runS sg μ root k).1[k]? =some c:=⟨_,gE hlt⟩
     have hcn:=run_lt (sg:=sg) hM hr k c (List.mem_of_getElem? hc)
     have hrow:=run_row hc
     have hgs:Ev.get sg (c:Int)=some (sg.getD c 0):=get_at rfl (by rw [List.getD_eq_getElem?_getD,gE (by omega:c<sg.length)]; rfl)
     have hlp:=rowC_loop (sg:=sg) hM hn hcn (run_nd sg μ root k) (run_lt (sg:=sg) hM hr k) (cd:=(runS sg μ root k).2) (by omega) m (by omega)
     have hk1:k+1≤(runS sg μ root (k+1)).1.length:=by
      obtain ⟨l,hl⟩:=run_pre sg μ root (j:=k) (k:=k+1) (by omega)
      rw [hl,List.length_append]; omega
     have hcd1:=run_code (sg:=sg) (μ:=μ) (root:=root) (k+1) hk1
     have e1:(runS sg μ root k)=((runS sg μ root k).1,(runS sg μ root k).2):=rfl
     rw [←e1,←hrow] at hlp
     unfold F.canon_number_b2
     dsimp only
     rw [nI_len,dT (by omega),kT,nI_get hc,bB,hgs,bB,lim_ok (by simp only [List.length_cons,List.length_nil]; omega),bB,hlp,bB]
     dsimp only
     by_cases hbe:best=[]
     ·
      rw [hv1 hbe,dF (by decide),kF,dF (by decide),kF,chk_ok (by omega) (by omega),bB]
      exact .inl ⟨_,rfl,⟨k+1,-1,rfl,hk1,fun _=>rfl,fun q=>absurd hbe q⟩,by dsimp only; omega⟩
     ·
      obtain ⟨hv3,hv4⟩:=hv2 hbe
      have hbl:best.length=5*K:=by
       rcases hb with q | q
       · exact absurd q hbe
       · rw [q,k4]
      have hKk:k+1≤K:=by
       rcases Nat.lt_or_ge k K with q | q
       · omega
       ·
        have e:=run_stop (sg:=sg) (μ:=μ) (root:=root) (k:=K) (by rw [←k3]; omega) (j:=k) q
        rw [e,←k3] at hlt
        omega
      obtain ⟨blk,hblk,hbk⟩:=rowS_cpre sg μ c (runS sg μ root k)
      rw [←hrow] at hblk
      have hdrop:(((runS sg μ root (k+1)).2.drop (5*(k:Int)).toNat).take ((((runS sg μ root (k+1)).2.length:Int)).toNat-(5*(k:Int)).toNat))=blk:=by
       rw [show (5*(k:Int)).toNat=5*k by omega,Int.toNat_natCast,hcd1,hblk,List.drop_left' hcd]
       exact List.take_of_length_le (by omega)
      have hbt:best.take (5*(k+1))=best.take (5*k)++((best.drop (5*(k:Int)).toNat).take ((5*(k:Int)+5).toNat-(5*(k:Int)).toNat)):=by
       rw [show (5*(k:Int)).toNat=5*k by omega,show (5*(k:Int)+5).toNat=5*k+5 by omega,show 5*k+5-5*k=5 by omega,show 5*(k+1)=5*k+5 by omega,List.take_add]
      have happ:cmpL (runS sg μ root (k+1)).2 (best.take (5*(k+1)))=if cmpL (runS sg μ root k).2 (best.take (5*k))=0 then cmpL blk ((best.drop (5*(k:Int)).toNat).take ((5*(k:Int)+5).toNat-(5*(k:Int)).toNat)) else cmpL (runS sg μ root k).2 (best.take (5*k)):=by
       rw [hbt,hblk]
       exact cmpL_app _ _ (by rw [hcd,List.length_take]; omega)
      by_cases hv0:v=0
      ·
       rw [dT hv0,kT,chk_ok (by omega) (by omega),bB,cut_ok (by omega) (by omega) (by omega),bB,bB,bB,chk_ok (z:=5*(k:Int)+5) (by omega) (by omega),bB,cut_ok (by omega) (by omega) (by omega),bB,hdrop,
        compare_eq _ _ m (by omega) (by omega),bB]
       rw [←hv3,if_pos hv0] at happ
       rw [←happ]
       by_cases hpos:0<cmpL (runS sg μ root (k+1)).2 (best.take (5*(k+1)))
       ·
        rw [dT hpos,kT]
        refine .inr ⟨_,rfl,rfl,hbe,?_⟩
        obtain ⟨l,hl⟩:=run_cpre sg μ root (j:=k+1) (k:=n) (by omega)
        have e2:cmpL (runS sg μ root n).2 best=cmpL ((runS sg μ root (k+1)).2++l) (best.take (5*(k+1))++best.drop (5*(k+1))):=by rw [hl,List.take_append_drop]
        rw [e2,cmpL_app _ _ (by rw [hcd1,List.length_take]; omega),if_neg (by omega)]
        exact hpos
       ·
        rw [dF hpos,kF,chk_ok (by omega) (by omega),bB]
        exact .inl ⟨_,rfl,⟨k+1,_,rfl,hk1,fun q=>absurd q hbe,fun _=>⟨rfl,by omega⟩⟩,by dsimp only; omega⟩
      ·
       rw [←hv3,if_neg hv0] at happ
       rw [dF hv0,kF,dF (by omega),kF,chk_ok (by omega) (by omega),bB]
       exact .inl ⟨_,rfl,⟨k+1,v,rfl,hk1,fun q=>absurd q hbe,fun _=>⟨happ.symm,hv4⟩⟩,by dsimp only; omega⟩
    ·
     right
     have e:=run_stop (sg:=sg) (μ:=μ) (root:=root) (k:=k) hge (j:=n) (by omega)
     refine ⟨.inl (nI (runS sg μ root k).1,(runS sg μ root k).2,v,(k:Int),numL n (runS sg μ root k).1),?_,v,(k:Int),numL n (runS sg μ root k).1,by rw [e],hv1,fun hbe=>?_⟩
     ·
      unfold F.canon_number_b2
      dsimp only
      rw [nI_len,dF (by omega),kF]
     ·
      obtain ⟨q1,q2⟩:=hv2 hbe
      refine ⟨?_,q2⟩
      rw [q1,e]
      have hbl:best.length=5*K:=by
       rcases hb with q | q
       · exact absurd q hbe
       · rw [q,k4]
      have:k=K:=by rw [←k2,e]; omega
      rw [List.take_of_length_le (by omega)])
   m (nI [root],[],v0,0,numL n [root]) ⟨0,v0,rfl,Nat.zero_le _,hv1,fun q=>by
    rw [hv2 q]
    exact ⟨by simp [runS,cmpL],Int.le_refl _⟩⟩ (by dsimp only; omega)
  unfold F.canon_number_j1
  rw [Int.toNat_natCast,hnum0]
  have e0:([(root:Int)]:List Int)=nI [root]:=rfl
  rw [e0,r1,bB]
  rcases r with a | q
  ·
   obtain ⟨v,z,w,rfl,q1,q2⟩:=r2
   dsimp only
   by_cases hbe:best=[]
   · rw [if_pos hbe,q1 hbe]
   ·
    obtain ⟨q3,q4⟩:=q2 hbe
    rw [if_neg hbe,if_neg (by omega),q3]
  ·
   obtain ⟨rfl,h1,h2⟩:=r2
   dsimp only
   rw [if_neg h1,if_pos h2]
 unfold F.canon_number
 rw [hsg,pos_ok (by omega) (by omega),bB,Int.toNat_natCast,hfill,bB]
 dsimp only
 rw [get_at rfl (iL_get hr),bB]
 cases best with
 | nil=>
  rw [List.isEmpty_nil,kT]
  exact main (-1) (fun _=>rfl) (fun q=>absurd rfl q)
 | cons x l=>
  rw [List.isEmpty_cons,kF]
  exact main 0 (fun q=>absurd q (by simp)) (fun _=>rfl)
end
structure Iso (n:Nat) (sg:List Int) (μ:Nat→Nat) (sg':List Int) (μ':Nat→Nat) (π:Nat→Nat):Prop where
 lt: ∀c,c<n→π c<n
 inj: ∀a b,a<n→b<n→π a=π b→a=b
 sg: ∀c,c<n→sg'.getD (π c) 0=sg.getD c 0
 mu: ∀c s,c<n→s<4→μ' (4*π c+s)=4*π (μ (4*c+s)/ 4)+μ (4*c+s)%4
theorem idx_map {n:Nat} {π:Nat→Nat} (hi: ∀a b,a<n→b<n→π a=π b→a=b) {a:Nat} (ha:a<n): ∀{l:List Nat},(∀x∈l,x<n)→(l.map π).idxOf (π a)=l.idxOf a
 | [],_=>rfl
 | b::l,h=>by
  rw [List.map_cons,List.idxOf_cons,List.idxOf_cons]
  have hb:=h b (by simp)
  have ih:=idx_map hi ha (l:=l) fun x hx=>h x (by simp [hx])
  by_cases e:b=a
  · subst e; simp
  ·
   have:π b≠π a:=fun q=>e (hi b a hb ha q)
   rw [ih]
   have h1:(b == a)=false:=by simp [e]
   have h2:(π b == π a)=false:=by simp [this]
   rw [h1,h2]
theorem mem_map_inj {n:Nat} {π:Nat→Nat} (hi: ∀a b,a<n→b<n→π a=π b→a=b) {a:Nat} (ha:a<n) {l:List Nat} (h: ∀x∈l,x<n):π a∈l.map π↔a∈l:=by
 rw [List.mem_map]
 exact ⟨fun ⟨b,hb,e⟩=>hi b a (h b hb) ha e▸hb,fun ha=>⟨a,ha,rfl⟩⟩
section
variable {n : Nat} {sg M sg' : List Int} {μ μ' π : Nat → Nat} (hM : MT (4 * n) M μ) (I : Iso n sg μ sg' μ' π)
include hM I
theorem slot_iso {c s:Nat} (hc:c<n) (hs:s<4) {q:List Nat×List Int} (h: ∀x∈q.1,x<n):slotS μ' (π c) s (q.1.map π,q.2)=((slotS μ c s q).1.map π,(slotS μ c s q).2):=by
 have hm:=I.mu c s hc hs
 have hl:=(hM.2 (4*c+s) (by omega)).2.1
 have hq:μ (4*c+s)/ 4<n:=by omega
 unfold slotS
 dsimp only
 rw [hm,show (4*π (μ (4*c+s)/ 4)+μ (4*c+s)%4)/ 4=π (μ (4*c+s)/ 4) by omega,show (4*π (μ (4*c+s)/ 4)+μ (4*c+s)%4)%4=μ (4*c+s)%4 by omega]
 by_cases hx:μ (4*c+s)/ 4∈q.1
 · rw [if_pos hx,if_pos ((mem_map_inj I.inj hq h).2 hx),idx_map I.inj hq h]
 ·
  rw [if_neg hx,if_neg (fun e=>hx ((mem_map_inj I.inj hq h).1 e))]
  have e:q.1.map π++[π (μ (4*c+s)/ 4)]=(q.1++[μ (4*c+s)/ 4]).map π:=by rw [List.map_append]; rfl
  rw [e,idx_map I.inj hq (l:=q.1++[μ (4*c+s)/ 4]) (by
   intro x hx
   rcases List.mem_append.1 hx with hx | hx
   · exact h x hx
   · rw [List.mem_singleton] at hx; omega)]
theorem row_iso {c:Nat} (hc:c<n) {q:List Nat×List Int} (h: ∀x∈q.1,x<n):rowS sg' μ' (π c) (q.1.map π,q.2)=((rowS sg μ c q).1.map π,(rowS sg μ c q).2):=by
 have s1: ∀s,s<4→∀q:List Nat×List Int,(∀x∈q.1,x<n)→∀x∈(slotS μ c s q).1,x<n:=fun s hs q h=>slotS_lt hM hc hs h
 unfold rowS
 dsimp only
 rw [I.sg c hc]
 have h0: ∀x∈(q.1,q.2++[sg.getD c 0]).1,x<n:=h
 have h1:=s1 0 (by omega) _ h0
 have h2:=s1 1 (by omega) _ h1
 have h3:=s1 2 (by omega) _ h2
 have z0:=slot_iso hM I hc (s:=0) (by omega) h0
 have z1:=slot_iso hM I hc (s:=1) (by omega) h1
 have z2:=slot_iso hM I hc (s:=2) (by omega) h2
 have z3:=slot_iso hM I hc (s:=3) (by omega) h3
 dsimp only at z0
 rw [z0,z1,z2,z3]
theorem run_iso {root:Nat} (hr:root<n): ∀k,runS sg' μ' (π root) k=((runS sg μ root k).1.map π,(runS sg μ root k).2)
 | 0=>rfl
 | k+1=>by
  have ih:=run_iso hr k
  have hlt:=run_lt (sg:=sg) hM hr k
  cases h:(runS sg μ root k).1[k]? with
  | none=>
   have h':(runS sg' μ' (π root) k).1[k]? =none:=by rw [ih,List.getElem?_map,h]; rfl
   rw [run_none h,run_none h',ih]
  | some c=>
   have h':(runS sg' μ' (π root) k).1[k]? =some (π c):=by rw [ih,List.getElem?_map,h]; rfl
   rw [run_row h,run_row h',ih]
   exact row_iso hM I (hlt c (List.mem_of_getElem? h)) hlt
end
theorem row_mem (sg:List Int) (μ:Nat→Nat) (c:Nat) (q:List Nat×List Int) {s:Nat} (hs:s<4):μ (4*c+s)/ 4∈(rowS sg μ c q).1:=by
 have sm: ∀s (q:List Nat×List Int),μ (4*c+s)/ 4∈(slotS μ c s q).1:=fun s q=>by
  unfold slotS
  dsimp only
  split
  · assumption
  · simp
 have up: ∀s (q:List Nat×List Int) x,x∈q.1→x∈(slotS μ c s q).1:=fun s q x hx=>by
  obtain ⟨l,hl⟩:=slotS_pre μ c s q
  rw [hl]; exact List.mem_append_left _ hx
 unfold rowS
 have h4:s=0∨s=1∨s=2∨s=3:=by omega
 rcases h4 with rfl | rfl | rfl | rfl
 · exact up 3 _ _ (up 2 _ _ (up 1 _ _ (sm 0 _)))
 · exact up 3 _ _ (up 2 _ _ (sm 1 _))
 · exact up 3 _ _ (sm 2 _)
 · exact sm 3 _
theorem row_sub (sg:List Int) (μ:Nat→Nat) (c:Nat) (q:List Nat×List Int) {x:Nat} (hx:x∈(rowS sg μ c q).1):x∈q.1∨∃s,s<4∧x=μ (4*c+s)/ 4:=by
 have dn: ∀s,s<4→∀(q:List Nat×List Int) x,x∈(slotS μ c s q).1→x∈q.1∨∃s,s<4∧x=μ (4*c+s)/ 4:=fun s hs q x hx=>by
  unfold slotS at hx
  dsimp only at hx
  split at hx
  · exact .inl hx
  ·
   rcases List.mem_append.1 hx with hx | hx
   · exact .inl hx
   · rw [List.mem_singleton] at hx; exact .inr ⟨s,hs,hx⟩
 unfold rowS at hx
 rcases dn 3 (by omega) _ _ hx with hx | h
 ·
  rcases dn 2 (by omega) _ _ hx with hx | h
  ·
   rcases dn 1 (by omega) _ _ hx with hx | h
   · exact dn 0 (by omega) _ _ hx
   · exact .inr h
  · exact .inr h
 · exact .inr h
section
variable {n : Nat} {sg M : List Int} {μ : Nat → Nat} (hM : MT (4 * n) M μ) {root : Nat} (hr : root < n)
include hM hr
theorem run_part: ∀k,∀x∈(runS sg μ root k).1,Cn (adjP n μ) root x
 | 0=>by
  intro x hx
  have:x=root:=by simpa [runS] using hx
  rw [this]; exact .refl _
 | k+1=>by
  have ih:=run_part k
  intro x hx
  cases h:(runS sg μ root k).1[k]? with
  | none=>rw [run_none h] at hx; exact ih x hx
  | some c=>
   rw [run_row h] at hx
   have hc:=ih c (List.mem_of_getElem? h)
   have hcn:=run_lt (sg:=sg) hM hr k c (List.mem_of_getElem? h)
   rcases row_sub sg μ c _ hx with hx | ⟨s,hs,rfl⟩
   · exact ih x hx
   ·
    have:=(hM.2 (4*c+s) (by omega)).2.1
    exact .step hc ⟨hcn,by omega,s,hs,rfl⟩
theorem run_closed {x y:Nat} (hx:x∈(runS sg μ root n).1) (h:adjP n μ x y):y∈(runS sg μ root n).1:=by
 obtain ⟨K,k1,k2,k3,k4⟩:=run_end (sg:=sg) hM hr
 obtain ⟨i,hi,e⟩:=List.getElem_of_mem hx
 obtain ⟨h1,h2,s,hs,rfl⟩:=h
 -- x is done at round i
 have hin:i≤n:=by rw [k2] at hi; omega
 obtain ⟨l,hl⟩:=run_pre sg μ root (j:=i) (k:=n) hin
 have hlen:i<(runS sg μ root i).1.length:=by
  rcases Nat.lt_or_ge i (runS sg μ root i).1.length with q | q
  · exact q
  ·
   have e2:=run_stop (sg:=sg) (μ:=μ) (root:=root) q (j:=n) hin
   rw [e2] at hi
   omega
 have hxi:(runS sg μ root i).1[i]? =some x:=by
  have h3:(runS sg μ root n).1[i]? =some x:=by rw [gE hi,e]
  rw [hl,List.getElem?_append_left hlen] at h3
  exact h3
 have hrow:=run_row hxi
 have hi1:i+1≤n:=by rw [k2] at hi; omega
 obtain ⟨l2,hl2⟩:=run_pre sg μ root (j:=i+1) (k:=n) hi1
 rw [hl2,hrow]
 exact List.mem_append_left _ (row_mem sg μ x _ hs)
theorem run_mem {x:Nat}:x∈(runS sg μ root n).1↔Cn (adjP n μ) root x:=by
 refine ⟨run_part hM hr n x,fun h=>?_⟩
 refine Cn.closed (S:=fun x=>x∈(runS sg μ root n).1) (fun a b ha hab=>run_closed hM hr ha hab) h ?_
 obtain ⟨l,hl⟩:=run_pre sg μ root (j:=0) (k:=n) (Nat.zero_le _)
 rw [hl]
 exact List.mem_append_left _ (by simp [runS])
theorem run_same {r':Nat} (hr':r'<n) (h:Cn (adjP n μ) root r'):(runS sg μ r' n).1.length=(runS sg μ root n).1.length∧(runS sg μ r' n).2.length=(runS sg μ root n).2.length:=by
 have hs: ∀a b,adjP n μ a b→adjP n μ b a:=fun a b=>hM.iv.symm a b
 have e:(runS sg μ r' n).1.length=(runS sg μ root n).1.length:=Nat.le_antisymm
  (sub_len (run_nd sg μ r' n) fun x hx=>(run_mem hM hr).2 (h.trans ((run_mem hM hr').1 hx)))
  (sub_len (run_nd sg μ root n) fun x hx=>(run_mem hM hr').2 ((h.symm hs).trans ((run_mem hM hr).1 hx)))
 obtain ⟨K,_,k2,_,k4⟩:=run_end (sg:=sg) hM hr
 obtain ⟨K',_,k2',_,k4'⟩:=run_end (sg:=sg) hM hr'
 refine ⟨e,?_⟩
 rw [k4,k4']; omega
theorem run_pos:0<(runS sg μ root n).1.length:=List.length_pos_iff.2 (List.ne_nil_of_mem ((run_mem hM hr).2 (.refl root)))
theorem run_five:(runS sg μ root n).2.length=5*(runS sg μ root n).1.length:=by
 obtain ⟨K,_,k2,_,k4⟩:=run_end (sg:=sg) hM hr
 rw [k4,k2]
end
abbrev Pc:=List Int×(List Int×Int)
def cpP (a b:Pc):Int:=if a.2.1.length=b.2.1.length then cmpL a.1 b.1 else (a.2.1.length:Int)-(b.2.1.length:Int)
theorem cpP_swap (a b:Pc):cpP b a=-cpP a b:=by
 unfold cpP
 by_cases h:a.2.1.length=b.2.1.length
 · rw [if_pos h,if_pos h.symm]; exact cmpL_swap _ _
 · rw [if_neg h,if_neg (Ne.symm h)]; omega
theorem cpP_trans {a b c:Pc} (h1:cpP a b≤0) (h2:cpP b c≤0):cpP a c≤0:=by
 unfold cpP at h1 h2⊢
 by_cases p:a.2.1.length=b.2.1.length
 ·
  rw [if_pos p] at h1
  by_cases q:b.2.1.length=c.2.1.length
  ·
   rw [if_pos q] at h2
   rw [if_pos (p.trans q)]
   exact cmpL_trans h1 h2
  ·
   rw [if_neg q] at h2
   rw [if_neg (by omega)]; omega
 ·
  rw [if_neg p] at h1
  by_cases q:b.2.1.length=c.2.1.length
  · rw [if_neg (by omega)]; omega
  ·
   rw [if_neg q] at h2
   rw [if_neg (by omega)]; omega
def Small (l:List Pc):Prop:= ∀p∈l,p.1.length≤1000∧p.2.1.length≤1000
theorem c1C_eq {a b:Pc} (ha:a.1.length≤1000∧a.2.1.length≤1000) (hb:b.1.length≤1000∧b.2.1.length≤1000) (m:Nat) (hm:2000<m):F.canon_pieces_c1 m a.1 a.2.1 a.2.2 b.1 b.2.1 b.2.2=some (cpP a b):=by
 unfold F.canon_pieces_c1 cpP
 by_cases h:a.2.1.length=b.2.1.length
 · rw [dT (by omega),Bool.not_true,kF,compare_eq _ _ m (by omega) (by omega),bB,if_pos h]
 · rw [dF (by omega),Bool.not_false,kT,chk_ok (by omega) (by omega),bB,if_neg h]
def Srt (l:List Pc):Prop:=l.Pairwise fun a b=>cpP a b≤0
theorem srt_put {A B:List Pc} {x:Pc} (h:Srt (A++B)) (hB: ∀b∈B,cpP x b≤0) (hA: ∀a∈A,cpP a x≤0):Srt (A++x::B):=by
 unfold Srt at h⊢
 rw [List.pairwise_append] at h⊢
 obtain ⟨h1,h2,h3⟩:=h
 refine ⟨h1,List.pairwise_cons.2 ⟨hB,h2⟩,fun a ha b hb=>?_⟩
 rcases List.mem_cons.1 hb with rfl | hb
 · exact hA a ha
 · exact h3 a ha b hb
theorem inner_sort (s rest:List Pc) (x:Pc) (hs:Srt s) (hsm:Small (s++x::rest)) (hl:(s++x::rest).length≤1000) (m:Nat) (hm:2000<m):
  ∃z s',loopN m (F.slices_insertionSortCmpFunc_piece_canon_pieces_c1_b1 m 0) ((s.length:Int),s++x::rest)=some (z,s'++rest)∧Srt s'∧s'.Perm (s++[x]):=by
 obtain ⟨r,r1,z,s',r2,r3,r4⟩:=loop_spec (body:=F.slices_insertionSortCmpFunc_piece_canon_pieces_c1_b1 m 0)
  (fun q=> ∃A B,A++B=s∧q=((A.length:Int),A++x::(B++rest))∧∀b∈B,cpP x b≤0) (fun q=>q.1.toNat)
  (fun r=> ∃z s',r=(z,s'++rest)∧Srt s'∧s'.Perm (s++[x])) (fun q ⟨A,B,hAB,hq,hB⟩=>by
   subst hq
   have hfin:(∀a∈A,cpP a x≤0)→∃z s',((A.length:Int),A++x::(B++rest))=(z,s'++rest)∧Srt s'∧s'.Perm (s++[x]):=fun hA=>by
    refine ⟨(A.length:Int),A++x::B,by simp,srt_put (by rw [hAB]; exact hs) hB hA,?_⟩
    rw [←hAB]
    refine List.perm_middle.trans ?_
    exact (List.perm_append_singleton x (A++B)).symm
   have memS: ∀p,p∈A∨p=x∨p∈B∨p∈rest→p.1.length≤1000∧p.2.1.length≤1000:=fun p hp=>hsm p (by
    rw [←hAB]
    simp only [List.mem_append,List.mem_cons]
    rcases hp with h | h | h | h
    · exact .inl (.inl h)
    · exact .inr (.inl h)
    · exact .inl (.inr h)
    · exact .inr (.inr h))
   rcases List.eq_nil_or_concat A with hA | ⟨A',y,hA⟩
   ·
    subst hA
    right
    refine ⟨_,?_,hfin (by simp)⟩
    unfold F.slices_insertionSortCmpFunc_piece_canon_pieces_c1_b1
    dsimp only
    rw [dF (by simp),kF]
   ·
    rw [List.concat_eq_append] at hA
    subst hA
    have hlen:(A'++[y]).length=A'.length+1:=by simp
    have hb:(A'++[y]).length≤1000:=by
     rw [←hAB] at hl
     simp only [List.length_append,List.length_cons] at hl⊢
     omega
    have e:A'++[y]++x::(B++rest)=A'++y::x::(B++rest):=by simp
    have g1:Ev.get (A'++y::x::(B++rest)) ((A'++[y]).length:Int)=some x:=get_at (k:=A'.length+1) (by omega) (by
     rw [List.getElem?_append_right (by omega),show A'.length+1-A'.length=1 by omega]; rfl)
    have g2:Ev.get (A'++y::x::(B++rest)) (((A'++[y]).length:Int)-1)=some y:=get_at (k:=A'.length) (by omega) (by
     rw [List.getElem?_append_right (by omega),show A'.length-A'.length=0 by omega]; rfl)
    have hc:=c1C_eq (memS x (.inr (.inl rfl))) (memS y (.inl (by simp))) m hm
    unfold F.slices_insertionSortCmpFunc_piece_canon_pieces_c1_b1
    dsimp only
    rw [e,dT (by omega),kT,g1,bB,chk_ok (by omega) (by omega),bB,g2,bB,hc,bB]
    by_cases hlt:cpP x y<0
    ·
     left
     have g3:Ev.get ((A'++y::x::(B++rest)).set ((A'++[y]).length:Int).toNat y) (((A'++[y]).length:Int)-1)=some y:=get_at (k:=A'.length) (by omega) (by
      rw [Int.toNat_natCast,List.getElem?_set_ne (by omega),List.getElem?_append_right (by omega),show A'.length-A'.length=0 by omega]; rfl)
     have hset:((A'++y::x::(B++rest)).set ((A'++[y]).length:Int).toNat y).set (((A'++[y]).length:Int)-1).toNat x=A'++x::(y::B++rest):=by
      rw [Int.toNat_natCast,show (((A'++[y]).length:Int)-1).toNat=A'.length by omega,hlen,List.set_append_right _ _ (by omega),show A'.length+1-A'.length=1 by omega,List.set_append_right _ _ (by omega),show A'.length-A'.length=0 by omega]
      rfl
     have ey:((y.1,(y.2.1,y.2.2)):Pc)=y:=rfl
     have ex:((x.1,(x.2.1,x.2.2)):Pc)=x:=rfl
     rw [dT hlt,kT,bB,bB,g2,bB,bB,bB,ey,ex,g3,bB,bB]
     refine ⟨_,rfl,⟨A',y::B,?_,?_,?_⟩,?_⟩
     · rw [←hAB]; simp
     ·
      rw [hset]
      exact Prod.ext (by dsimp only; omega) rfl
     ·
      intro b hb
      rcases List.mem_cons.1 hb with rfl | hb
      · omega
      · exact hB b hb
     · dsimp only; omega
    ·
     right
     rw [dF hlt,kF]
     refine ⟨_,rfl,?_⟩
     rw [←e]
     refine hfin fun a ha=>?_
     have hyx:cpP y x≤0:=by rw [cpP_swap]; omega
     rcases List.mem_append.1 ha with ha | ha
     ·
      refine cpP_trans ?_ hyx
      unfold Srt at hs
      rw [←hAB,List.append_assoc,List.pairwise_append] at hs
      exact hs.2.2 a ha y (by simp)
     ·
      rw [List.mem_singleton] at ha
      subst ha; exact hyx) m ((s.length:Int),s++x::rest) ⟨s,[],by simp,rfl,by simp⟩ (by
  dsimp only
  rw [List.length_append] at hl
  omega)
 subst r2
 exact ⟨z,s',r1,r3,r4⟩
theorem sortC_eq (l:List Pc) (hsm:Small l) (hl:l.length<20) (m:Nat) (hm:2000<m): ∃l',F.slices_SortStableFunc_piece_piece_canon_pieces_c1 m l=some l'∧l'.Perm l∧Srt l':=by
 have hins: ∃l',F.slices_insertionSortCmpFunc_piece_canon_pieces_c1 m l 0 (l.length:Int)=some l'∧l'.Perm l∧Srt l':=by
  unfold F.slices_insertionSortCmpFunc_piece_canon_pieces_c1
  rw [chk_ok (by omega) (by omega),bB]
  obtain ⟨r,r1,r2,r3⟩:=loop_spec (body:=F.slices_insertionSortCmpFunc_piece_canon_pieces_c1_b0 m 0 (l.length:Int))
   (fun q=> ∃s rest,q=((s.length:Int),s++rest)∧Srt s∧(s++rest).Perm l∨(l=[]∧q.2=[]∧s=s∧rest=rest∧q.1=1)) (fun q=>l.length-q.1.toNat)
   (fun r=>r.2.Perm l∧Srt r.2) (fun q ⟨s,rest,hq⟩=>by
    rcases hq with ⟨hq,hs,hp⟩ | ⟨h1,h2,_,_,h3⟩
    ·
     subst hq
     have hlen:=hp.length_eq
     rw [List.length_append] at hlen
     unfold F.slices_insertionSortCmpFunc_piece_canon_pieces_c1_b0
     dsimp only
     cases rest with
     | nil=>
      rw [List.append_nil] at hp⊢
      rw [List.length_nil] at hlen
      rw [dF (by omega),kF]
      exact .inr ⟨_,rfl,hp,hs⟩
     | cons x rest=>
      rw [List.length_cons] at hlen
      obtain ⟨z,s',e1,e2,e3⟩:=inner_sort s rest x hs (fun p hp'=>hsm p (hp.mem_iff.1 hp')) (by rw [List.length_append,List.length_cons]; omega) m hm
      rw [dT (by omega),kT,e1,bB]
      dsimp only
      rw [chk_ok (by omega) (by omega),bB]
      have hl':=e3.length_eq
      rw [List.length_append,List.length_singleton] at hl'
      refine .inl ⟨_,rfl,⟨s',rest,.inl ⟨Prod.ext (by dsimp only; omega) rfl,e2,?_⟩⟩,by dsimp only; omega⟩
      refine (e3.append_right rest).trans ?_
      simpa using hp
    ·
     right
     obtain ⟨a,b⟩:=q
     dsimp only at h2 h3
     subst h2 h3
     unfold F.slices_insertionSortCmpFunc_piece_canon_pieces_c1_b0
     dsimp only
     rw [dF (by rw [h1]; decide),kF]
     exact ⟨_,rfl,by rw [h1],List.Pairwise.nil⟩) m (0+1,l) (by
    cases l with
    | nil=>exact ⟨[],[],.inr ⟨rfl,rfl,rfl,rfl,rfl⟩⟩
    | cons x l=>exact ⟨[x],l,.inl ⟨rfl,List.pairwise_singleton _ _,List.Perm.refl _⟩⟩) (by dsimp only; omega)
  rw [r1,bB]
  exact ⟨_,rfl,r2,r3⟩
 obtain ⟨l',e1,e2,e3⟩:=hins
 refine ⟨l',?_,e2,e3⟩
 obtain ⟨k,rfl⟩: ∃k,m=k+1:=⟨m-1,by omega⟩
 have b0:F.slices_stableCmpFunc_piece_canon_pieces_c1_b0 (k+1) (l.length:Int) (0,20,l)=some (.inr (0,20,l)):=by
  unfold F.slices_stableCmpFunc_piece_canon_pieces_c1_b0
  dsimp only
  rw [dF (by omega),kF]
 have b1:F.slices_stableCmpFunc_piece_canon_pieces_c1_b1 (k+1) (l.length:Int) (20,0,20)=some (.inr (20,0,20)):=by
  unfold F.slices_stableCmpFunc_piece_canon_pieces_c1_b1
  dsimp only
  rw [dF (by omega),kF]
 unfold F.slices_SortStableFunc_piece_piece_canon_pieces_c1 F.slices_stableCmpFunc_piece_canon_pieces_c1
 rw [loopN,b0,bB]
 dsimp only
 rw [bB]
 dsimp only
 rw [e1,bB,loopN,b1,bB]
 rfl
theorem sorted_uniq {α:Type} {R:α→α→Prop} (anti: ∀a b,R a b→R b a→a=b): ∀{l1 l2:List α},l1.Perm l2→l1.Pairwise R→l2.Pairwise R→l1=l2
 | [],l2,h,_,_=>(List.nil_perm.1 h).symm
 | a::t,l2,h,h1,h2=>by
  cases l2 with
  | nil=>exact absurd h (by simp)
  | cons b t2=>
   obtain ⟨p1,p2⟩:=List.pairwise_cons.1 h1
   obtain ⟨q1,q2⟩:=List.pairwise_cons.1 h2
   have hab:a=b:=by
    rcases List.mem_cons.1 (h.mem_iff.1 (List.mem_cons_self:a∈a::t)) with e | e
    · exact e
    rcases List.mem_cons.1 (h.mem_iff.2 (List.mem_cons_self:b∈b::t2)) with e2 | e2
    · exact e2.symm
    exact anti _ _ (p1 b e2) (q1 a e)
   subst hab
   rw [sorted_uniq anti (List.Perm.cons_inv h) p2 q2]
theorem nd_perm' {α:Type} [DecidableEq α]: ∀{l1 l2:List α},l1.Nodup→l2.Nodup→(∀a,a∈l1↔a∈l2)→l1.Perm l2
 | [],l2,_,_,h=>by
  have:l2=[]:=List.eq_nil_iff_forall_not_mem.2 fun a ha=>absurd ((h a).2 ha) (by simp)
  rw [this]
 | a::t,l2,h1,h2,h=>by
  obtain ⟨ha,ht⟩:=List.nodup_cons.1 h1
  have hm:a∈l2:=(h a).1 (by simp)
  refine ((nd_perm' ht (h2.erase a) fun b=>?_).cons a).trans (List.perm_cons_erase hm).symm
  rw [h2.mem_erase_iff,←h b,List.mem_cons]
  exact ⟨fun hb=>⟨fun e=>ha (e▸hb),.inr hb⟩,fun hb=>hb.2.resolve_left hb.1⟩
def pT {α:Type} (K:Nat) (f:Nat→α):List α:=(List.range K).map f
theorem pT_len {α:Type} {K:Nat} {f:Nat→α}:(pT K f).length=K:=by simp [pT]
theorem pT_at {α:Type} {K:Nat} {f:Nat→α} {k:Nat} (h:k<K):(pT K f)[k]? =some (f k):=by simp [pT,h]
theorem pT_ext {α:Type} {K:Nat} {f g:Nat→α} (h: ∀k,k<K→f k=g k):pT K f=pT K g:=List.map_congr_left fun k hk=>h k (List.mem_range.1 hk)
theorem pT_set {α:Type} {K:Nat} {f:Nat→α} (k:Nat) (v:α):(pT K f).set k v=pT K (fun j=>if j=k then v else f j):=by
 apply List.ext_getElem?
 intro j
 rw [List.getElem?_set]
 by_cases h:k=j
 ·
  subst h
  rw [if_pos rfl,pT_len]
  by_cases h1:k<K
  · rw [if_pos h1,pT_at h1,if_pos rfl]
  · rw [if_neg h1,List.getElem?_eq_none (by rw [pT_len]; omega)]
 ·
  rw [if_neg h]
  by_cases h1:j<K
  · rw [pT_at h1,pT_at h1,if_neg (Ne.symm h)]
  · rw [List.getElem?_eq_none (by rw [pT_len]; omega),List.getElem?_eq_none (by rw [pT_len]; omega)]
def IsMin (C:Nat→List Int) (S:List Nat) (x:List Int):Prop:=(∃r,r∈S∧x=C r)∧∀r,r∈S→cmpL x (C r)≤0
theorem IsMin.uniq {C C':Nat→List Int} {S S':List Nat} {x x':List Int} (h:IsMin C S x) (h':IsMin C' S' x') (f: ∀r,r∈S→∃r',r'∈S'∧C' r'=C r) (f': ∀r',r'∈S'→∃r,r∈S∧C r=C' r'):x=x':=by
 obtain ⟨⟨r,hr,e⟩,h2⟩:=h
 obtain ⟨⟨r',hr',e'⟩,h2'⟩:=h'
 obtain ⟨a,ha,ea⟩:=f r hr
 obtain ⟨b,hb,eb⟩:=f' r' hr'
 have k1:=h2 b hb
 have k2:=h2' a ha
 rw [eb,←e'] at k1
 rw [ea,←e] at k2
 have k3:=cmpL_swap x x'
 exact cmpL_eq (by omega)
def codeC (sg:List Int) (μ:Nat→Nat) (n r:Nat):List Int:=(runS sg μ r n).2
section
variable {n : Nat} {sg M : List Int} {μ : Nat → Nat} (hM : MT (4 * n) M μ) (hn : n ≤ 64) (hsg : sg.length = n)
include hM hn hsg
theorem best_loop {S:List Nat} (hS:S≠[]) (hSl:S.length≤1000) (hlt: ∀r∈S,r<n) (hcn: ∀r∈S,∀r'∈S,Cn (adjP n μ) r r') (lo:Int) (m:Nat) (hm:2000<m):
  ∃(x ord:List Int) (q z:Int),loopN m (F.canon_pieces_b1 m sg M lo (nI S)) (0,[],[],0)=some (z,x,ord,q)∧IsMin (codeC sg μ n) S x∧5*ord.length=x.length∧ord.length≤n:=by
 obtain ⟨r,r1,x,ord,q,z,r2,r3,r4,r5⟩:=loop_spec (body:=F.canon_pieces_b1 m sg M lo (nI S))
  (fun a=> ∃(k:Nat) (x ord:List Int) (q:Int),a=((k:Int),x,ord,q)∧k≤S.length∧0≤q∧q≤k∧(k=0→x=[])∧(0<k→IsMin (codeC sg μ n) (S.take k) x∧5*ord.length=x.length∧0<ord.length∧ord.length≤n)) (fun a=>S.length-a.1.toNat)
  (fun r=> ∃(x ord:List Int) (q z:Int),r=(z,x,ord,q)∧IsMin (codeC sg μ n) S x∧5*ord.length=x.length∧ord.length≤n) (fun a ⟨k,x,ord,q,ha,hk,q0,q1,h0,h1⟩=>by
   subst ha
   rcases Nat.lt_or_ge k S.length with hlt' | hge
   ·
    left
    obtain ⟨r,hr⟩: ∃r,S[k]? =some r:=⟨_,gE hlt'⟩
    have hrm:=List.mem_of_getElem? hr
    have hrn:=hlt r hrm
    have htake:S.take (k+1)=S.take k++[r]:=by rw [List.take_add_one,hr]; rfl
    have hfive:=run_five (sg:=sg) hM hrn
    have hpos:=run_pos (sg:=sg) hM hrn
    have hsz:=run_size (sg:=sg) hM hrn n
    have hbest:x=[]∨x.length=(runS sg μ r n).2.length:=by
     rcases Nat.eq_zero_or_pos k with z | z
     · exact .inl (h0 z)
     ·
      obtain ⟨⟨⟨r0,hr0,e⟩,_⟩,_⟩:=h1 z
      have hr0m:=List.mem_of_mem_take hr0
      right
      rw [e]
      exact (run_same (sg:=sg) hM hrn (hlt r0 hr0m) (hcn r hrm r0 hr0m)).2
    have hnum:=number_eq hM hrn hn hsg x hbest lo m (by omega)
    unfold F.canon_pieces_b1
    dsimp only
    rw [nI_len,dT (by omega),kT,nI_get hr,bB,hnum,bB]
    have newmin:(∀y∈S.take k,cmpL (codeC sg μ n r) (codeC sg μ n y)≤0)→IsMin (codeC sg μ n) (S.take (k+1)) (codeC sg μ n r):=fun h=>by
     rw [htake]
     refine ⟨⟨r,by simp,rfl⟩,fun y hy=>?_⟩
     rcases List.mem_append.1 hy with hy | hy
     · exact h y hy
     ·
      rw [List.mem_singleton] at hy
      rw [hy,cmpL_self]
      exact Int.le_refl _
    by_cases hx:x=[]
    ·
     have hk0:k=0:=by
      rcases Nat.eq_zero_or_pos k with z | z
      · exact z
      ·
       obtain ⟨_,h3,h4,_⟩:=h1 z
       rw [hx,List.length_nil] at h3
       omega
     rw [if_pos hx]
     dsimp only
     rw [dT (by decide),kT,chk_ok (by omega) (by omega),bB]
     exact ⟨_,rfl,⟨k+1,_,_,_,rfl,by omega,by decide,by omega,fun h=>by omega,fun _=>⟨newmin (by rw [hk0]; simp),by rw [nI_len]; exact hfive.symm,by rw [nI_len]; exact hpos,by rw [nI_len]; exact hsz⟩⟩,by dsimp only; omega⟩
    ·
     have hkp:0<k:=Nat.pos_of_ne_zero fun z=>hx (h0 z)
     obtain ⟨hmin,h3,h4,h5⟩:=h1 hkp
     rw [if_neg hx]
     by_cases hgt:0<cmpL (runS sg μ r n).2 x
     ·
      rw [if_pos hgt]
      dsimp only
      rw [dF (by decide),kF,dF (by decide),kF,chk_ok (by omega) (by omega),bB]
      refine ⟨_,rfl,⟨k+1,x,ord,q,rfl,by omega,q0,by omega,fun h=>by omega,fun _=>⟨?_,h3,h4,h5⟩⟩,by dsimp only; omega⟩
      rw [htake]
      obtain ⟨⟨r0,hr0,e⟩,hm2⟩:=hmin
      refine ⟨⟨r0,List.mem_append_left _ hr0,e⟩,fun y hy=>?_⟩
      rcases List.mem_append.1 hy with hy | hy
      · exact hm2 y hy
      ·
       rw [List.mem_singleton] at hy
       rw [hy]
       have:=cmpL_swap (runS sg μ r n).2 x
       show cmpL x (runS sg μ r n).2≤0
       omega
     ·
      rw [if_neg hgt]
      dsimp only
      by_cases hl:cmpL (runS sg μ r n).2 x<0
      ·
       rw [dT hl,kT,chk_ok (by omega) (by omega),bB]
       exact ⟨_,rfl,⟨k+1,_,_,_,rfl,by omega,by decide,by omega,fun h=>by omega,fun _=>⟨newmin fun y hy=>cmpL_trans (show cmpL (runS sg μ r n).2 x≤0 by omega) (hmin.2 y hy),by rw [nI_len]; exact hfive.symm,by rw [nI_len]; exact hpos,by rw [nI_len]; exact hsz⟩⟩,by dsimp only; omega⟩
      ·
       have h0':cmpL (runS sg μ r n).2 x=0:=by omega
       rw [dF hl,kF,dT h0',kT,chk_ok (by omega) (by omega),bB,chk_ok (by omega) (by omega),bB]
       refine ⟨_,rfl,⟨k+1,x,ord,q+1,rfl,by omega,by omega,by omega,fun h=>by omega,fun _=>⟨?_,h3,h4,h5⟩⟩,by dsimp only; omega⟩
       rw [htake]
       obtain ⟨⟨r0,hr0,e⟩,hm2⟩:=hmin
       refine ⟨⟨r0,List.mem_append_left _ hr0,e⟩,fun y hy=>?_⟩
       rcases List.mem_append.1 hy with hy | hy
       · exact hm2 y hy
       ·
        rw [List.mem_singleton] at hy
        rw [hy]
        have:=cmpL_swap (runS sg μ r n).2 x
        show cmpL x (runS sg μ r n).2≤0
        omega
   ·
    right
    have:k=S.length:=by omega
    subst this
    have hp:0<S.length:=List.length_pos_iff.2 hS
    obtain ⟨h2,h3,h4,h5⟩:=h1 hp
    rw [List.take_length] at h2
    refine ⟨_,?_,x,ord,q,(S.length:Int),rfl,h2,h3,h5⟩
    unfold F.canon_pieces_b1
    dsimp only
    rw [nI_len,dF (by omega),kF])
  m (0,[],[],0) ⟨0,[],[],0,rfl,Nat.zero_le _,Int.le_refl _,Int.le_refl _,fun _=>rfl,fun h=>absurd h (by decide)⟩ (by dsimp only; omega)
 subst r2
 exact ⟨x,ord,q,z,r1,r3,r4,r5⟩
end
theorem lab_iff {adj:Nat→Nat→Prop} (hs: ∀a b,adj a b→adj b a) {a b:Nat}:lab hs a=lab hs b↔Cn adj a b:=by
 obtain ⟨_,h2,h3⟩:=rp_spec hs a
 have h4:=lab_rep hs (c:=b) h3
 have h5:lab hs a=(cls (rp hs a) adj:Int):=rfl
 rw [h5]
 constructor
 ·
  intro e
  exact (h2.symm hs).trans (h4.1 e.symm)
 ·
  intro h
  exact (h4.2 (h2.trans h)).symm
noncomputable def grp {n:Nat} {M:List Int} {μ:Nat→Nat} (hM:MT (4*n) M μ) (p:Nat):List Nat:=(List.range n).filter fun c=>decide (lab (adjP_symm hM) c=(p:Int))
theorem mem_grp {n:Nat} {M:List Int} {μ:Nat→Nat} {hM:MT (4*n) M μ} {p c:Nat}:c∈grp hM p↔c<n∧lab (adjP_symm hM) c=(p:Int):=by
 unfold grp
 rw [List.mem_filter,List.mem_range,decide_eq_true_eq]
theorem grp_ne {n:Nat} {M:List Int} {μ:Nat→Nat} {hM:MT (4*n) M μ} {p:Nat} (h:p<cls n (adjP n μ)):grp hM p≠[]:=by
 obtain ⟨r,h1,h2,h3⟩:=rep_at h
 refine List.ne_nil_of_mem (a:=r) (mem_grp.2 ⟨h1,?_⟩)
 rw [(lab_rep (adjP_symm hM) h2).2 (.refl r),h3]
section
variable {sg M : List Int} {lo : Int} {μ : Nat → Nat} (D : DV sg M lo μ)
include D
theorem graph_eq (m:Nat) (hm:500<m):F.diagram_Graph m sg M lo=some (pT (cls sg.length (adjP sg.length μ)) fun p=>nI (grp D.mt p)):=by
 have hn:=D.n
 have hcl:=cls_le sg.length (adjP sg.length μ)
 unfold F.diagram_Graph
 rw [dvalid_true D m (by omega),bB,Bool.not_true,kF,label_eq D.mt hn rfl lo m (by omega),bB,pos_ok (by omega) (by omega),bB,Int.toNat_natCast]
 have key:=count_loop (body:=F.diagram_Graph_b0 m (iL sg.length (lab (adjP_symm D.mt)),(cls sg.length (adjP sg.length μ):Int))) (fun k=>((k:Int),pT (cls sg.length (adjP sg.length μ)) fun p=>nI ((List.range k).filter fun c=>decide (lab (adjP_symm D.mt) c=(p:Int))))) sg.length
  (r:=((sg.length:Int),pT (cls sg.length (adjP sg.length μ)) fun p=>nI (grp D.mt p))) (fun k hk=>by
   obtain ⟨l0,l1⟩:=lab_lt (adjP_symm D.mt) (c:=k) (n:=sg.length) hk
   obtain ⟨p,hp⟩: ∃p:Nat,lab (adjP_symm D.mt) k=(p:Int):=⟨(lab (adjP_symm D.mt) k).toNat,by omega⟩
   have hpK:p<cls sg.length (adjP sg.length μ):=by omega
   have hfl:((List.range k).filter fun c=>decide (lab (adjP_symm D.mt) c=(p:Int))).length≤k:=by
    have:=List.length_filter_le (fun c=>decide (lab (adjP_symm D.mt) c=(p:Int))) (List.range k)
    simpa using this
   unfold F.diagram_Graph_b0
   dsimp only
   rw [iL_len,dT (by omega),kT,get_at rfl (iL_get hk),bB,hp,get_at rfl (pT_at hpK),bB,lim_ok (by rw [nI_len]; simp only [List.length_cons,List.length_nil]; omega),bB,bB,chk_ok (by omega) (by omega),bB,Int.toNat_natCast,pT_set]
   have:pT (cls sg.length (adjP sg.length μ)) (fun j=>if j=p then nI ((List.range k).filter fun c=>decide (lab (adjP_symm D.mt) c=(p:Int)))++[(k:Int)] else nI ((List.range k).filter fun c=>decide (lab (adjP_symm D.mt) c=(j:Int))))=
     pT (cls sg.length (adjP sg.length μ)) (fun j=>nI ((List.range (k+1)).filter fun c=>decide (lab (adjP_symm D.mt) c=(j:Int)))):=pT_ext fun j hj=>by
    rw [List.range_succ,List.filter_append]
    by_cases e:j=p
    ·
     subst e
     rw [if_pos rfl,nI_app]
     have:[k].filter (fun c=>decide (lab (adjP_symm D.mt) c=(j:Int)))=[k]:=by simp [hp]
     rw [this]
     rfl
    ·
     rw [if_neg e]
     have:[k].filter (fun c=>decide (lab (adjP_symm D.mt) c=(j:Int)))=[]:=by
      simp [hp]; omega
     rw [this,List.append_nil]
   rw [this]
   rfl) (by
   unfold F.diagram_Graph_b0
   dsimp only
   rw [iL_len,dF (by omega),kF]
   rfl) m (by omega)
 have e0:List.replicate (cls sg.length (adjP sg.length μ)) ([]:List Int)=pT (cls sg.length (adjP sg.length μ)) (fun p=>nI ((List.range 0).filter fun c=>decide (lab (adjP_symm D.mt) c=(p:Int)))):=by
  apply List.ext_getElem?
  intro j
  by_cases h:j<cls sg.length (adjP sg.length μ)
  · rw [pT_at h]; simp [h,nI]
  · rw [List.getElem?_eq_none (by simp; omega),List.getElem?_eq_none (by rw [pT_len]; omega)]
 rw [e0]
 rw [show ((0:Int),pT (cls sg.length (adjP sg.length μ)) (fun p=>nI ((List.range 0).filter fun c=>decide (lab (adjP_symm D.mt) c=(p:Int)))))=(((0:Nat):Int),pT (cls sg.length (adjP sg.length μ)) (fun p=>nI ((List.range 0).filter fun c=>decide (lab (adjP_symm D.mt) c=(p:Int))))) from rfl,key,bB]
theorem pieces_eq (hK:cls sg.length (adjP sg.length μ)<20) (m:Nat) (hm:5000<m): ∃(ps:List Pc) (mc:Nat→List Int),F.canon_pieces m sg M lo=some ps∧Srt ps∧(∀p,p<cls sg.length (adjP sg.length μ)→IsMin (codeC sg μ sg.length) (grp D.mt p) (mc p))∧
  (ps.map fun p=>p.1).Perm (pT (cls sg.length (adjP sg.length μ)) mc)∧∀p∈ps,5*p.2.1.length=p.1.length∧p.2.1.length≤64:=by
 have hn:=D.n
 have hb: ∀p,∃t:Pc×Int,p<cls sg.length (adjP sg.length μ)→loopN m (F.canon_pieces_b1 m sg M lo (nI (grp D.mt p))) (0,[],[],0)=some (t.2,t.1.1,t.1.2.1,t.1.2.2)∧IsMin (codeC sg μ sg.length) (grp D.mt p) t.1.1∧5*t.1.2.1.length=t.1.1.length∧t.1.2.1.length≤sg.length:=fun p=>by
  by_cases hp:p<cls sg.length (adjP sg.length μ)
  ·
   have hl:(grp D.mt p).length≤1000:=by
    have:=List.length_filter_le (fun c=>decide (lab (adjP_symm D.mt) c=(p:Int))) (List.range sg.length)
    rw [List.length_range] at this
    unfold grp; omega
   obtain ⟨x,ord,q,z,h1,h2,h3,h4⟩:=best_loop D.mt hn rfl (grp_ne (hM:=D.mt) hp) hl (fun r hr=>(mem_grp.1 hr).1) (fun r hr r' hr'=>(lab_iff (adjP_symm D.mt)).1 ((mem_grp.1 hr).2.trans (mem_grp.1 hr').2.symm)) lo m (by omega)
   exact ⟨((x,(ord,q)),z),fun _=>⟨h1,h2,h3,h4⟩⟩
  · exact ⟨(([],([],0)),0),fun h=>absurd h hp⟩
 obtain ⟨t,ht⟩:=Classical.skolem.1 hb
 have key:=count_loop (body:=F.canon_pieces_b0 m sg M lo (pT (cls sg.length (adjP sg.length μ)) fun p=>nI (grp D.mt p))) (fun k=>(pT k fun p=>(t p).1,(k:Int))) (cls sg.length (adjP sg.length μ)) (r:=(pT (cls sg.length (adjP sg.length μ)) fun p=>(t p).1,((cls sg.length (adjP sg.length μ):Nat):Int))) (fun k hk=>by
  obtain ⟨h1,_,_,_⟩:=ht k hk
  unfold F.canon_pieces_b0
  dsimp only
  rw [pT_len,dT (by omega),kT,get_at rfl (pT_at hk),bB,h1,bB]
  dsimp only
  rw [lim_ok (by rw [pT_len]; simp only [List.length_cons,List.length_nil]; omega),bB,chk_ok (by omega) (by omega),bB]
  unfold pT
  rw [List.range_succ,List.map_append]
  rfl) (by
  unfold F.canon_pieces_b0
  dsimp only
  rw [pT_len,dF (by omega),kF]) m (by omega)
 have hmem: ∀p∈(pT (cls sg.length (adjP sg.length μ)) fun p=>(t p).1),5*p.2.1.length=p.1.length∧p.2.1.length≤64:=fun p hp=>by
  unfold pT at hp
  obtain ⟨k,hk,rfl⟩:=List.mem_map.1 hp
  obtain ⟨_,_,h3,h4⟩:=ht k (List.mem_range.1 hk)
  exact ⟨h3,by omega⟩
 obtain ⟨l',s1,s2,s3⟩:=sortC_eq (pT (cls sg.length (adjP sg.length μ)) fun p=>(t p).1) (fun p hp=>by have:=hmem p hp; omega) (by rw [pT_len]; omega) m (by omega)
 refine ⟨l',fun p=>(t p).1.1,?_,s3,fun p hp=>(ht p hp).2.1,?_,fun p hp=>hmem p (s2.mem_iff.1 hp)⟩
 ·
  unfold F.canon_pieces
  rw [graph_eq D m (by omega),bB,show (([]:List Pc),(0:Int))=(pT 0 (fun p=>(t p).1),((0:Nat):Int)) from rfl,key,bB]
  dsimp only
  rw [s1,bB]
 ·
  have:=s2.map fun p:Pc=>p.1
  unfold pT at this
  rw [List.map_map] at this
  exact this
def fullC (lo:Int) (cs:List (List Int)):List Int:=[lo,(cs.length:Int)]++cs.flatMap fun x=>((x.length/ 5:Nat):Int)::x
theorem codeC_eq {ps:List Pc} (m:Nat) (hp:F.canon_pieces m sg M lo=some ps) (hl:ps.length<20) (h5: ∀p∈ps,5*p.2.1.length=p.1.length∧p.2.1.length≤64) (hm:5000<m):F.canon_Code m sg M lo=some (fullC lo (ps.map fun p=>p.1))∧(fullC lo (ps.map fun p=>p.1)).length≤100000:=by
 have hfl: ∀k,((ps.take k).flatMap fun p=>(p.2.1.length:Int)::p.1).length≤400*k:=by
  intro k
  induction k with
  | zero=>simp
  | succ k ih=>
   cases h:ps[k]? with
   | none=>rw [List.take_add_one,h]; simp only [Option.toList_none,List.append_nil]; omega
   | some p=>
    have:=h5 p (List.mem_of_getElem? h)
    rw [List.take_add_one,h,Option.toList_some,List.flatMap_append,List.length_append]
    simp only [List.flatMap_cons,List.flatMap_nil,List.append_nil,List.length_cons]
    omega
 have hfull:fullC lo (ps.map fun p=>p.1)=[lo,(ps.length:Int)]++ps.flatMap fun p=>(p.2.1.length:Int)::p.1:=by
  unfold fullC
  rw [List.length_map]
  congr 1
  clear hfl hl hp
  induction ps with
  | nil=>rfl
  | cons p ps ih=>
   have:=h5 p (by simp)
   rw [List.map_cons,List.flatMap_cons,List.flatMap_cons,ih fun q hq=>h5 q (by simp [hq]),show p.1.length/ 5=p.2.1.length by omega]
 refine ⟨?_,?_⟩
 ·
  unfold F.canon_Code
  rw [dvalid_true D m (by omega),bB,Bool.not_true,kF,hp,bB]
  have key:=count_loop (body:=F.canon_Code_b0 m ps) (fun k=>([lo,(ps.length:Int)]++(ps.take k).flatMap fun p=>(p.2.1.length:Int)::p.1,(k:Int))) ps.length (r:=([lo,(ps.length:Int)]++ps.flatMap fun p=>(p.2.1.length:Int)::p.1,(ps.length:Int))) (fun k hk=>by
   have hk':=gE hk
   have hf:=hfl k
   have hq:=h5 ps[k] (List.getElem_mem hk)
   unfold F.canon_Code_b0
   dsimp only
   rw [dT (by omega),kT,get_at rfl hk',bB,lim_ok (by simp only [List.length_append,List.length_cons,List.length_nil]; omega),bB,lim_ok (by simp only [List.length_append,List.length_cons,List.length_nil]; omega),bB,chk_ok (by omega) (by omega),bB,
    List.take_add_one,hk',Option.toList_some,List.flatMap_append,List.append_assoc,List.append_assoc,List.flatMap_singleton]
   rfl) (by
   unfold F.canon_Code_b0
   dsimp only
   rw [dF (by omega),kF,List.take_length]) m (by omega)
  have k2:=key
  simp only [List.take_zero,List.flatMap_nil,List.append_nil] at k2
  rw [show ([lo,(ps.length:Int)],(0:Int))=([lo,(ps.length:Int)],((0:Nat):Int)) from rfl,k2,bB,hfull]
 ·
  rw [hfull]
  have:=hfl ps.length
  rw [List.take_length] at this
  simp only [List.length_append,List.length_cons,List.length_nil]
  omega
end
theorem equal_same (l:List Int) (hl:l.length≤1000000) (m:Nat) (hm:l.length<m):F.slices_Equal_Lint_int m l l=some true:=by
 unfold F.slices_Equal_Lint_int
 rw [dT rfl,Bool.not_true,kF]
 have key:=count_loop (body:=F.slices_Equal_Lint_int_b0 m l l) (fun k=>(k:Int)) l.length (r:=.inl (l.length:Int)) (fun k hk=>by
  have h:=gE hk
  unfold F.slices_Equal_Lint_int_b0
  dsimp only
  rw [dT (by omega),kT,get_at rfl h,bB,bB,dT rfl,Bool.not_true,kF,chk_ok (by omega) (by omega),bB]
  rfl) (by
  unfold F.slices_Equal_Lint_int_b0
  dsimp only
  rw [dF (by omega),kF]) m hm
 rw [show ((0:Int))=((0:Nat):Int) from rfl,key,bB]
def leC (a b:List Int):Prop:=a.length<b.length∨(a.length=b.length∧cmpL a b≤0)
theorem leC_anti (a b:List Int) (h1:leC a b) (h2:leC b a):a=b:=by
 rcases h1 with h1 | ⟨h1,h3⟩
 · rcases h2 with h2 | ⟨h2,_⟩<;>omega
 ·
  rcases h2 with h2 | ⟨_,h4⟩
  · omega
  ·
   have:=cmpL_swap a b
   exact cmpL_eq (by omega)
theorem srt_codes {ps:List Pc} (hs:Srt ps) (h5: ∀p∈ps,5*p.2.1.length=p.1.length∧p.2.1.length≤64):(ps.map fun p=>p.1).Pairwise leC:=by
 rw [List.pairwise_map]
 refine List.Pairwise.imp_of_mem (fun {a b} ha hb h=>?_) hs
 have h1:=h5 a ha
 have h2:=h5 b hb
 unfold cpP at h
 by_cases e:a.2.1.length=b.2.1.length
 ·
  rw [if_pos e] at h
  exact .inr ⟨by omega,h⟩
 ·
  rw [if_neg e] at h
  exact .inl (by omega)
section
variable {n : Nat} {sg M sg' M' : List Int} {μ μ' π : Nat → Nat} (hM : MT (4 * n) M μ) (hM' : MT (4 * n) M' μ') (I : Iso n sg μ sg' μ' π)
include hM hM' I
omit hM hM' in
theorem iso_adj {a b:Nat} (h:adjP n μ a b):adjP n μ' (π a) (π b):=by
 obtain ⟨h1,h2,s,hs,rfl⟩:=h
 refine ⟨I.lt a h1,I.lt _ h2,s,hs,?_⟩
 rw [I.mu a s h1 hs]; omega
omit hM' in
theorem iso_cn {a b:Nat} (ha:a<n):Cn (adjP n μ') (π a) (π b)∧b<n↔Cn (adjP n μ) a b∧b<n:=by
 constructor
 ·
  rintro ⟨h,hb⟩
  refine ⟨?_,hb⟩
  have: ∃c,π b=π c∧c<n∧Cn (adjP n μ) a c:=by
   refine Cn.closed (S:=fun y=> ∃c,y=π c∧c<n∧Cn (adjP n μ) a c) (fun x y hx hxy=>?_) h ⟨a,rfl,ha,.refl _⟩
   obtain ⟨c,rfl,hc,hac⟩:=hx
   obtain ⟨_,_,s,hs,rfl⟩:=hxy
   have hlt:=(hM.2 (4*c+s) (by omega)).2.1
   refine ⟨μ (4*c+s)/ 4,by rw [I.mu c s hc hs]; omega,by omega,.step hac ⟨hc,by omega,s,hs,rfl⟩⟩
  obtain ⟨c,e,hc,hac⟩:=this
  rw [I.inj b c hb hc e]; exact hac
 ·
  rintro ⟨h,hb⟩
  exact ⟨Cn.map (f:=π) (fun x y hxy=>Cn.one (iso_adj I hxy)) h,hb⟩
omit hM hM' in
theorem iso_surj {y:Nat} (hy:y<n): ∃c,c<n∧π c=y:=by
 have hnd:((List.range n).map π).Nodup:=nodup_map List.nodup_range fun a ha b hb e=>I.inj a b (List.mem_range.1 ha) (List.mem_range.1 hb) e
 have:=nodup_all (N:=n) hnd (fun x hx=>by
  obtain ⟨c,hc,rfl⟩:=List.mem_map.1 hx
  exact I.lt c (List.mem_range.1 hc)) (by simp) hy
 obtain ⟨c,hc,e⟩:=List.mem_map.1 this
 exact ⟨c,List.mem_range.1 hc,e⟩
theorem iso_parts: ∃σ:Nat→Nat,(∀p,p<cls n (adjP n μ)→σ p<cls n (adjP n μ')∧(∀c,c∈grp hM p→π c∈grp hM' (σ p))∧(∀y,y∈grp hM' (σ p)→∃c,c∈grp hM p∧π c=y))∧
  ((List.range (cls n (adjP n μ))).map σ).Perm (List.range (cls n (adjP n μ'))):=by
 have hs:=adjP_symm hM
 have hs':=adjP_symm hM'
 have ex: ∀p,∃q,p<cls n (adjP n μ)→q<cls n (adjP n μ')∧(∀c,c∈grp hM p→π c∈grp hM' q)∧(∀y,y∈grp hM' q→∃c,c∈grp hM p∧π c=y):=by
  intro p
  by_cases hp:p<cls n (adjP n μ)
  ·
   obtain ⟨r,hr⟩:=List.exists_mem_of_ne_nil _ (grp_ne (hM:=hM) hp)
   obtain ⟨hrn,hrl⟩:=mem_grp.1 hr
   obtain ⟨l0,l1⟩:=lab_lt hs' (I.lt r hrn)
   refine ⟨(lab hs' (π r)).toNat,fun _=>⟨by omega,fun c hc=>?_,fun y hy=>?_⟩⟩
   ·
    obtain ⟨hcn,hcl⟩:=mem_grp.1 hc
    have h1:Cn (adjP n μ) r c:=(lab_iff hs).1 (hrl.trans hcl.symm)
    have h2:=(lab_iff hs').2 ((iso_cn hM I hrn).2 ⟨h1,hcn⟩).1
    exact mem_grp.2 ⟨I.lt c hcn,by rw [←h2]; omega⟩
   ·
    obtain ⟨hyn,hyl⟩:=mem_grp.1 hy
    obtain ⟨c,hcn,rfl⟩:=iso_surj I hyn
    have h1:lab hs' (π r)=lab hs' (π c):=by rw [hyl]; omega
    have h2:=((iso_cn hM I hrn).1 ⟨(lab_iff hs').1 h1,hcn⟩).1
    exact ⟨c,mem_grp.2 ⟨hcn,by rw [←(lab_iff hs).2 h2]; exact hrl⟩,rfl⟩
  · exact ⟨0,fun h=>absurd h hp⟩
 obtain ⟨σ,hσ⟩:=Classical.skolem.1 ex
 refine ⟨σ,hσ,nd_perm' (nodup_map List.nodup_range fun a ha b hb e=>?_) List.nodup_range fun q=>?_⟩
 ·
  have ha:=List.mem_range.1 ha
  have hb:=List.mem_range.1 hb
  obtain ⟨r,hr⟩:=List.exists_mem_of_ne_nil _ (grp_ne (hM:=hM) ha)
  have h1:=(hσ a ha).2.1 r hr
  rw [e] at h1
  obtain ⟨c,hc,e2⟩:=(hσ b hb).2.2 _ h1
  have h3:=I.inj c r (mem_grp.1 hc).1 (mem_grp.1 hr).1 e2
  rw [h3] at hc
  have h4:=(mem_grp.1 hr).2
  have h5:=(mem_grp.1 hc).2
  omega
 ·
  rw [List.mem_map,List.mem_range]
  constructor
  ·
   rintro ⟨p,hp,rfl⟩
   exact (hσ p (List.mem_range.1 hp)).1
  ·
   intro hq
   obtain ⟨y,hy⟩:=List.exists_mem_of_ne_nil _ (grp_ne (hM:=hM') hq)
   obtain ⟨hyn,hyl⟩:=mem_grp.1 hy
   obtain ⟨c,hcn,rfl⟩:=iso_surj I hyn
   obtain ⟨l0,l1⟩:=lab_lt hs (c:=c) (n:=n) hcn
   have hp:(lab hs c).toNat<cls n (adjP n μ):=by omega
   refine ⟨(lab hs c).toNat,List.mem_range.2 hp,?_⟩
   have h1:=(hσ _ hp).2.1 c (mem_grp.2 ⟨hcn,by omega⟩)
   have h2:=(mem_grp.1 h1).2
   omega
end
theorem grp_cast {n n':Nat} {M:List Int} {μ:Nat→Nat} (h:n'=n) (hM:MT (4*n') M μ) (hM2:MT (4*n) M μ) (q:Nat):grp hM q=grp hM2 q:=by subst h; rfl
theorem same_of_iso {sg M sg' M':List Int} {lo:Int} {μ μ' π:Nat→Nat} (D:DV sg M lo μ) (D':DV sg' M' lo μ') (hn:sg'.length=sg.length) (I:Iso sg.length sg μ sg' μ' π) (hK:cls sg.length (adjP sg.length μ)<20) (m:Nat) (hm:200000<m):
  F.canon_Same m sg M lo sg' M' lo=some true∧F.canon_Same m sg' M' lo sg M lo=some true:=by
 have hM':MT (4*sg.length) M' μ':=by rw [←hn]; exact D'.mt
 obtain ⟨σ,hσ,hperm⟩:=iso_parts D.mt hM' I
 have hKK:cls sg'.length (adjP sg'.length μ')=cls sg.length (adjP sg.length μ):=by
  have:=hperm.length_eq
  rw [List.length_map,List.length_range,List.length_range] at this
  rw [hn,←this]
 obtain ⟨ps,mc,p1,p2,p3,p4,p5⟩:=pieces_eq D hK m (by omega)
 obtain ⟨ps',mc',p1',p2',p3',p4',p5'⟩:=pieces_eq D' (by rw [hKK]; exact hK) m (by omega)
 -- the least codes are the same
 have hmc: ∀p,p<cls sg.length (adjP sg.length μ)→mc p=mc' (σ p):=fun p hp=>by
  obtain ⟨h1,h2,h3⟩:=hσ p hp
  have hmin':=p3' (σ p) (by rw [hn]; exact h1)
  rw [grp_cast hn D'.mt hM'] at hmin'
  have hco: ∀c,c<sg.length→codeC sg' μ' sg'.length (π c)=codeC sg μ sg.length c:=fun c hc=>by
   unfold codeC
   rw [hn,run_iso D.mt I hc]
  refine (p3 p hp).uniq hmin' (fun r hr=>⟨π r,h2 r hr,hco r (mem_grp.1 hr).1⟩) (fun r' hr'=>?_)
  obtain ⟨c,hc,rfl⟩:=h3 r' hr'
  exact ⟨c,hc,(hco c (mem_grp.1 hc).1).symm⟩
 have hcodes:(ps.map fun p=>p.1)=(ps'.map fun p=>p.1):=by
  refine sorted_uniq leC_anti ?_ (srt_codes p2 p5) (srt_codes p2' p5')
  refine p4.trans (List.Perm.trans ?_ p4'.symm)
  have e1:pT (cls sg.length (adjP sg.length μ)) mc=((List.range (cls sg.length (adjP sg.length μ))).map σ).map mc':=by
   rw [List.map_map]
   exact List.map_congr_left fun p hp=>hmc p (List.mem_range.1 hp)
  rw [e1]
  have:=hperm.map mc'
  unfold pT
  rw [hn]
  exact this
 have hl1:ps.length<20:=by
  have:=p4.length_eq
  rw [List.length_map,pT_len] at this
  omega
 have hl2:ps'.length<20:=by
  have:=congrArg List.length hcodes
  rw [List.length_map,List.length_map] at this
  omega
 obtain ⟨c1,c2⟩:=codeC_eq D m p1 hl1 p5 (by omega)
 obtain ⟨c1',_⟩:=codeC_eq D' m p1' hl2 p5' (by omega)
 rw [←hcodes] at c1'
 refine ⟨?_,?_⟩<;>unfold F.canon_Same
 · rw [dvalid_true D m (by omega),bB,Bool.not_true,kF,dvalid_true D' m (by omega),bB,Bool.not_true,kF,c1,bB,c1',bB,equal_same _ (by omega) m (by omega),bB]
 · rw [dvalid_true D' m (by omega),bB,Bool.not_true,kF,dvalid_true D m (by omega),bB,Bool.not_true,kF,c1',bB,c1,bB,equal_same _ (by omega) m (by omega),bB]
end Pg
end Go.Proofs.Yteajmbanlohncaa
