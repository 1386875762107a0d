import Derived.Test.YtpnppjlnfhlmpaaGreatCall
set_option linter.all false
namespace Go.Proofs.YtpnppjlnfhlmpaaGreat
namespace Ev
def rowsF (e:TypeId) (s:Sh) (hs:List Value) (xss:List (List s.T)):List Fact:=List.zipWith (fun h x=>.own e s h x) hs xss
section
variable {I : Nat → Prop} {O0 : List Nat} {w0 w w' : World} {L L1 L2 L' : List Fact} {e : TypeId} {s : Sh} {hs : List Value} {xss : List (List s.T)}
theorem qhj (h1:hs.length=xss.length) {i:Nat} {x:List s.T} (hx:xss[i]? =some x): ∃h,hs[i]? =some h∧(rowsF e s hs xss)[i]? =some (.own e s h x):=by
 have hlt:=(List.getElem?_eq_some_iff.1 hx).1
 refine ⟨hs[i],List.getElem?_eq_getElem (by omega),?_⟩
 unfold rowsF
 rw [List.getElem?_zipWith,hx,List.getElem?_eq_getElem (by omega)]
theorem Cx.sublist (h:Cx I O0 w0 w L) (hs:L'.Sublist L):Cx I O0 w0 w L':=by
 have hb:(blocks L').Sublist (blocks L):=hs.filterMap _
 have ho: ∀k∈O0++blocks L',k∈O0++blocks L∨w.heap.size≤k:=fun k hk=>.inl (by
  rcases List.mem_append.1 hk with h1 | h1
  · exact List.mem_append_left _ h1
  · exact List.mem_append_right _ (hb.subset h1))
 exact ⟨h.fr,h.lt0,hb.nodup h.nd,fun k hk=>h.fresh k (hb.subset hk),fun f hf=>Fact.step (Fr.refl (fun _=>False) w) (fun _ h=>h.elim) ho (h.all f (hs.subset hf)) (fun _ _ h=>h)⟩
theorem Cx.perm (h:Cx I O0 w0 w L) (hp:L'.Perm L):Cx I O0 w0 w L':=by
 have hb:(blocks L').Perm (blocks L):=hp.filterMap _
 have ho: ∀k∈O0++blocks L',k∈O0++blocks L∨w.heap.size≤k:=fun k hk=>.inl (by
  rcases List.mem_append.1 hk with h1 | h1
  · exact List.mem_append_left _ h1
  · exact List.mem_append_right _ (hb.subset h1))
 exact ⟨h.fr,h.lt0,hb.nodup_iff.2 h.nd,fun k hk=>h.fresh k (hb.subset hk),fun f hf=>Fact.step (Fr.refl (fun _=>False) w) (fun _ h=>h.elim) ho (h.all f (hp.subset hf)) (fun _ _ h=>h)⟩
theorem tail_get {T:List Fact} {i:Nat}:(L++T)[L.length+i]? =T[i]? :=by
 rw [List.getElem?_append_right (by omega)]; congr 1; omega
theorem fm_tail {T:List Fact}:(List.range' L.length T.length).filterMap ((L++T)[·]?)=T:=by
 induction T generalizing L with
 | nil=>rfl
 | cons t T ih=>
  have h1:=ih (L:=L++[t])
  rw [List.length_append,List.append_assoc] at h1
  rw [List.length_cons,List.range'_succ,List.filterMap_cons]
  have h2:(L++t::T)[L.length]? =some t:=by rw [List.getElem?_append_right (Nat.le_refl _)]; simp
  rw [h2]
  simp only
  congr 1
theorem fm_head {T:List Fact} (is:List Nat):(is.filter (· <L.length)).filterMap ((L++T)[·]?)=is.filterMap (L[·]?):=by
 induction is with
 | nil=>rfl
 | cons i is ih=>
  by_cases hi:i<L.length
  · rw [List.filter_cons_of_pos (by simpa using hi),List.filterMap_cons,List.filterMap_cons,ih,List.getElem?_append_left hi]
  · rw [List.filter_cons_of_neg (by simpa using hi),List.filterMap_cons,ih,List.getElem?_eq_none (by omega)]
theorem Cx.selT {T:List Fact} (h:Cx I O0 w0 w (L++T)) (is:List Nat) (hn:is.Nodup):Cx I O0 w0 w (is.filterMap (L[·]?)++T):=by
 have h1:=h.sel (is.filter (· <L.length)++List.range' L.length T.length) (List.nodup_append.2 ⟨hn.filter _,List.nodup_range',fun a ha b hb e=>by
  have h1:=(List.mem_filter.1 ha).2
  have h2:=(List.mem_range'_1.1 hb).1
  simp at h1
  omega⟩)
 rwa [List.filterMap_append,fm_head,fm_tail] at h1
theorem Cx.nestFreeze {e2:TypeId} {v:Value} (h:Cx (fun _=>False) O0 w0 w (.own e2 .raw v hs::(L++rowsF e s hs xss))) (hl:hs.length=xss.length):Cx (fun _=>False) O0 w0 w (.ro (.sl (.sl s)) [v] xss::L):=by
 have hL:Cx (fun _=>False) O0 w0 w L:=h.sublist ((List.sublist_append_left L _).trans (List.sublist_cons_self _ _))
 have hsub: ∀k∈O0++blocks L,k∈O0++blocks (.own e2 .raw v hs::(L++rowsF e s hs xss))∨w.heap.size≤k:=fun k hk=>.inl (by
  rcases List.mem_append.1 hk with h1 | h1
  · exact List.mem_append_left _ h1
  · exact List.mem_append_right _ ((((List.sublist_append_left L _).trans (List.sublist_cons_self _ _)).filterMap Fact.blk).subset h1))
 -- a block of a fact outside L is none of L,none of O0
 have hout: ∀(i:Nat) (f:Fact),(Fact.own e2 .raw v hs::(L++rowsF e s hs xss))[i]? =some f→(i=0∨L.length<i)→∀g,f.blk=some g→g∉O0++blocks L:=fun i f hi hp g hg hin=>by
  rcases List.mem_append.1 hin with h1 | h1
  ·
   have h2:=h.lt0 g h1
   have h3:=(h.fresh g (List.mem_filterMap.2 ⟨f,List.mem_of_getElem? hi,hg⟩)).resolve_right id
   omega
  ·
   obtain ⟨f',hf',hb⟩:=List.mem_filterMap.1 h1
   obtain ⟨j,hj⟩:=List.mem_iff_getElem?.1 hf'
   have hjl:=(List.getElem?_eq_some_iff.1 hj).1
   have hj':(Fact.own e2 .raw v hs::(L++rowsF e s hs xss))[j+1]? =some f':=by rw [List.getElem?_cons_succ,List.getElem?_append_left hjl]; exact hj
   exact nd_other h.nd hi hj' (by omega) hg hb
 refine hL.ro ?_
 have h0:Own (O0++blocks (.own e2 .raw v hs::(L++rowsF e s hs xss))) w e2 .raw v hs (blkOf v):=h.ow (i:=0) rfl
 have hr:Rep (O0++blocks L) w (.sl .raw) [v] hs:=Own.freeze h0 hsub fun g hg=>hout 0 _ rfl (.inl rfl) g hg
 obtain ⟨A,c,h1,h2,h3,h4⟩:=hr
 refine ⟨A,c,by rw [h1,hl],by omega,h3,fun hp=>?_⟩
 obtain ⟨ad,hA,hO,hi⟩:=h4 (by omega)
 refine ⟨ad,hA,hO,fun i x hx=>?_⟩
 obtain ⟨u,hu,hrow⟩:=qhj (e:=e) (s:=s) hl hx
 obtain ⟨cs,hc,hcs⟩:=hi i u hu
 refine ⟨cs,hc,?_⟩
 have hcs1:cs=[u]:=hcs.1
 rw [hcs1]
 have hi':(Fact.own e2 .raw v hs::(L++rowsF e s hs xss))[L.length+i+1]? =some (.own e s u x):=by rw [List.getElem?_cons_succ,tail_get]; exact hrow
 exact Own.freeze (h.ow hi') hsub fun g hg=>hout _ _ hi' (.inr (by omega)) g hg
/-! Operations on a list of rows:its facts stand in L,its rows in the tail. -/
variable {P : Program} {ρ : Operand → Value} {d : Option Tmp} {ty : TypeId} {pos : String} {af : Array Edge} {gd : Option (Nat × Bool)} {x y : Operand}
theorem Own.drop {O:List Nat} {w:World} {e:TypeId} {s:Sh} {A:Option Addr} {m c:Nat} {xs:List s.T} (h:Own O w e s (.slice A m c) xs (blkOf (.slice A m c))) {k:Nat} (hk:k≤xs.length):
  Own O w e s (.slice (if c=k then A else A.map (·.add (k*s.n))) (xs.length-k) (c-k)) (xs.drop k) (blkOf (.slice A m c)):=by
 obtain ⟨cs,h1,h2⟩:=h
 have hle:k*s.n≤xs.length*s.n:=Nat.mul_le_mul_right _ hk
 refine ⟨cs.drop (k*s.n),⟨?_,?_⟩,?_,fun i x hx=>?_⟩
 · rw [List.length_drop,h1.1,List.length_drop,Nat.sub_mul]
 ·
  rcases h1.2 with ⟨h0,h00,h000⟩ | ⟨g,o,cap,cur,hv,hG,hb,hn,hc,hsz,ht⟩
  ·
   injection h0 with e1 e2 e3
   subst e1 e2 e3
   obtain rfl:k=0:=by omega
   exact .inl ⟨by rw [h00]; rfl,by rw [List.length_drop]; omega,rfl⟩
  ·
   injection hv with e1 e2 e3
   subst e1 e2 e3
   by_cases hck:c=k
   ·
    subst hck
    refine .inr ⟨g,o,0,cur,?_,rfl,hb,by rw [List.length_drop]; omega,by omega,by omega,?_⟩
    · rw [if_pos rfl,List.length_drop,Nat.sub_self]
    ·
     have e0:xs.length-c=0:=by omega
     rw [List.length_drop,e0,Nat.zero_mul,List.take_zero,List.drop_eq_nil_of_le (by rw [h1.1]; exact Nat.mul_le_mul_right _ (by omega))]
   ·
    refine .inr ⟨g,o+k*s.n,c-k,cur,?_,rfl,hb,by rw [List.length_drop]; omega,by omega,?_,?_⟩
    · rw [if_neg hck,List.length_drop,Option.map_some,add_lit]
    ·
     rw [Nat.sub_mul]
     have:=Nat.mul_le_mul_right s.n (show k≤c by omega)
     omega
    · rw [List.length_drop,Nat.sub_mul,←ht,List.drop_take,List.drop_drop]
 · rw [List.length_drop,h2.1,List.length_drop,Nat.sub_mul]
 ·
  rw [List.getElem?_drop] at hx
  have:=h2.2 _ x hx
  rwa [List.drop_drop,←Nat.add_mul]
theorem blk_drop {A:Option Addr} {m c k n m' c':Nat}:blkOf (.slice (if c=k then A else A.map (·.add n)) m' c')=blkOf (.slice A m c):=by
 cases A with
 | none=>split<;>rfl
 | some a=>split<;>simp [blkOf,add_block]
