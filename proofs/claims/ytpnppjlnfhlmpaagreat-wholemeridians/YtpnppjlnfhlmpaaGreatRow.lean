import Derived.Test.YtpnppjlnfhlmpaaGreatNest
set_option linter.all false
namespace Go.Proofs.YtpnppjlnfhlmpaaGreat
namespace Ev
theorem perm_erase {α:Type}: ∀{l:List α} {i:Nat} {f:α},l[i]? =some f→l.Perm (f::l.eraseIdx i)
  | [],i,f,h=>by simp at h
  | a::l,0,f,h=>by simp at h; subst h; exact List.Perm.refl _
  | a::l,i+1,f,h=>by
    have ih:=perm_erase (l:=l) (i:=i) (f:=f) (by simpa using h)
    rw [List.eraseIdx_cons_succ]
    exact (List.Perm.cons a ih).trans (List.Perm.swap f a _)
theorem set_erase {α:Type}: ∀{l:List α} {i:Nat} {f:α},i<l.length→(l.set i f).Perm (f::l.eraseIdx i)
  | [],i,f,h=>by simp at h
  | a::l,0,f,_=>List.Perm.refl _
  | a::l,i+1,f,h=>by
    have ih:=set_erase (l:=l) (i:=i) (f:=f) (by simpa using h)
    rw [List.eraseIdx_cons_succ,List.set_cons_succ]
    exact (List.Perm.cons a ih).trans (List.Perm.swap f a _)
section
variable {I : Nat → Prop} {O0 : List Nat} {w0 w w' : World} {L T : List Fact} {e : TypeId} {s : Sh} {hs : List Value} {xss : List (List s.T)}
theorem rowsF_len (h:hs.length=xss.length):(rowsF e s hs xss).length=xss.length:=by unfold rowsF; rw [List.length_zipWith]; omega
theorem rowsF_set2 (i:Nat) (v:Value) (x:List s.T):rowsF e s (hs.set i v) (xss.set i x)=(rowsF e s hs xss).set i (.own e s v x):=by
  unfold rowsF
  apply List.ext_getElem?
  intro j
  rw [List.getElem?_zipWith,List.getElem?_set,List.getElem?_set,List.getElem?_set,List.getElem?_zipWith,List.length_zipWith]
  by_cases hij:i=j
  · subst hij
    rw [if_pos rfl,if_pos rfl,if_pos rfl]
    by_cases h1:i<hs.length
    · by_cases h2:i<xss.length
      · rw [if_pos h1,if_pos h2,if_pos (by omega)]
      · rw [if_pos h1,if_neg h2,if_neg (by omega)]
    · rw [if_neg h1,if_neg (show¬i<min hs.length xss.length by omega)]
  · rw [if_neg hij,if_neg hij,if_neg hij]
theorem Cx.takeRow (h:Cx I O0 w0 w (L++(rowsF e s hs xss++T))) {i:Nat} {v:Value} {x:List s.T} (hh:hs[i]? =some v) (hx:xss[i]? =some x):Cx I O0 w0 w ((.own e s v x::L)++((rowsF e s hs xss).eraseIdx i++T)):=by
  have hi:(rowsF e s hs xss)[i]? =some (.own e s v x):=by unfold rowsF; rw [List.getElem?_zipWith,hh,hx]
  refine h.perm ?_
  rw [List.cons_append]
  refine List.Perm.symm ((List.Perm.append_left L ((perm_erase hi).append_right T)).trans ?_)
  exact List.perm_middle
theorem Cx.putRow {v:Value} {x:List s.T} {i:Nat} (h:Cx I O0 w0 w ((.own e s v x::L)++((rowsF e s hs xss).eraseIdx i++T))) (hN:hs.length=xss.length) (hi:i<xss.length):Cx I O0 w0 w (L++(rowsF e s (hs.set i v) (xss.set i x)++T)):=by
  rw [rowsF_set2]
  refine h.perm ?_
  have hp:((rowsF e s hs xss).set i (.own e s v x)).Perm (.own e s v x::(rowsF e s hs xss).eraseIdx i):=set_erase (by rw [rowsF_len hN]; exact hi)
  rw [List.cons_append]
  refine (List.Perm.append_left L (hp.append_right T)).trans ?_
  exact List.perm_middle
theorem set_same {α:Type} {l:List α} {i:Nat} {v:α} (h:l[i]? =some v):l.set i v=l:=by
  obtain ⟨h1,h2⟩:=List.getElem?_eq_some_iff.1 h
  rw [←h2]; exact List.set_getElem_self h1
theorem Cx.putSame {v:Value} {x:List s.T} {i:Nat} (h:Cx I O0 w0 w ((.own e s v x::L)++((rowsF e s hs xss).eraseIdx i++T))) (hN:hs.length=xss.length) (hi:i<xss.length) (hv:hs[i]? =some v):Cx I O0 w0 w (L++(rowsF e s hs (xss.set i x)++T)):=by
  have:=h.putRow hN hi
  rwa [set_same hv] at this
theorem Cx.nilRows (h:Cx I O0 w0 w (L++T)) (e:TypeId) (s:Sh): ∀n:Nat,Cx I O0 w0 w (L++(rowsF e s (List.replicate n (.slice none 0 0)) (List.replicate n [])++T))
  | 0=>h
  | n+1=>by
    have:=(Cx.nilRows h e s n).nil e s
    refine this.perm ?_
    rw [List.replicate_succ,List.replicate_succ]
    exact List.perm_middle
theorem nilRows_len (n:Nat) {s:Sh}:(List.replicate n (Value.slice none 0 0)).length=(List.replicate n ([]:List s.T)).length:=by simp
theorem Cx.noT (h:Cx I O0 w0 w L):Cx I O0 w0 w (L++([]:List Fact)):=by rw [List.append_nil]; exact h
theorem Cx.freezeR {e2:TypeId} {v:Value} (h:Cx (fun _=>False) O0 w0 w ((.own e2 .raw v hs::L)++(rowsF e s hs xss++T))) (hl:hs.length=xss.length):Cx (fun _=>False) O0 w0 w ((.ro (.sl (.sl s)) [v] xss::L)++T):=by
  have h2:Cx (fun _=>False) O0 w0 w (.own e2 .raw v hs::((L++T)++rowsF e s hs xss)):=h.perm (by
    rw [List.cons_append]
    refine List.Perm.cons _ ?_
    rw [List.append_assoc]
    exact List.Perm.append_left L List.perm_append_comm)
  exact Cx.nestFreeze h2 hl
theorem lenset {α β:Type} {l:List α} {m:List β} (h:l.length=m.length) (i j:Nat) (a:α) (b:β):(l.set i a).length=(m.set j b).length:=by rw [List.length_set,List.length_set,h]
end
end Ev
end Go.Proofs.YtpnppjlnfhlmpaaGreat

set_option linter.all false
namespace Go.Proofs.YtpnppjlnfhlmpaaGreat
namespace Ev
section
variable {P : Program} {I : Nat → Prop} {O0 : List Nat} {w0 w : World} {L : List Fact}
theorem Cx.cutl (h:Cx I O0 w0 w L) {i:Nat} {e2:TypeId} {s:Sh} {A:Option Addr} {m c:Nat} {xs:List s.T} (hi:L[i]? =some (.own e2 s (.slice A m c) xs)) {t1:TypeId} {a:Int} (ht:P.underlying t1=some (.slice e2)) (hsz: ∀w,(sizeOf e2).run P w=.ok s.n w) (ha:0≤a∧a≤(xs.length:Int)∧(xs.length:Int)≤xs.length):
    ∃A' c',(∀{ρ:Operand→Value} {d:Option Tmp} {ty:TypeId} {pos:String} {af:Array Edge} {gd:Option (Nat×Bool)} {x lo:Operand},ρ x=.slice A m c→ρ lo=.int .i64 a→Pu P ρ ⟨d,.slice t1 x (some lo) none none,ty,pos,af,gd⟩ (.slice A' (xs.drop a.toNat).length c'))∧(xs.drop a.toNat).length≤c'∧c'≤9223372036854775807∧
      Cx I O0 w0 w (L.set i (.own e2 s (.slice A' (xs.drop a.toNat).length c') (xs.drop a.toNat))):=by
  have hown:Own (O0++blocks L) w e2 s (.slice A m c) xs (blkOf (.slice A m c)):=h.ow hi
  obtain ⟨hm,hc1,hc2⟩:=hown.qad
  have e1:(xs.drop a.toNat).length=xs.length-a.toNat:=by rw [List.length_drop]
  have e3:(xs.drop a.toNat).length=m-a.toNat:=by rw [List.length_drop,hm]
  refine ⟨if c=a.toNat then A else A.map (·.add (a.toNat*s.n)),c-a.toNat,?_,by omega,by omega,?_⟩
  rotate_left
  · refine h.turn hi (Fr.refl _ w) (.inl blk_drop) fun O hO=>?_
    have h2:=Own.drop hown (k:=a.toNat) (by omega)
    rw [e1]
    show Own O w e2 s _ _ (blkOf _)
    rw [blk_drop (m:=m)]
    exact Own.sub h2 hO
  · intro ρ d ty pos af gd x lo hx hlo
    rw [e3]
    exact pu_slice_l ht hsz hx hlo ⟨ha.1,by omega⟩
