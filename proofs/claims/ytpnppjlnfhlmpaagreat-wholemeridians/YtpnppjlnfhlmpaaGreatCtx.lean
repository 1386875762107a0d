import Derived.Test.YtpnppjlnfhlmpaaGreatMem
namespace Go.Proofs.YtpnppjlnfhlmpaaGreat
namespace Ev
open Go.RowKit (Below)

def blkOf:Value→Option Nat
 | .slice (some a) _ _=>some a.block
 | _=>none

inductive KK where
 | int
 | pair
 | str
@[reducible] def KK.T:KK→Type
 | .int=>Int
 | .pair=>Int×Int
 | .str=>List UInt8
def KK.v:(k:KK)→k.T→Value
 | .int,z=>.int .i64 z
 | .pair,p=>.agg #[.int .i64 p.1,.int .i64 p.2]
 | .str,k=>.string ⟨k.toArray⟩
def KK.ok:(k:KK)→k.T→Prop
 | .int,z=>-9223372036854775808≤z∧z≤9223372036854775807
 | .pair,p=>(-9223372036854775808≤p.1∧p.1≤9223372036854775807)∧(-9223372036854775808≤p.2∧p.2≤9223372036854775807)
 | .str,_=>True
def vof:Sh→List Value→Value
 | .pr _ _,cs=>.agg cs.toArray
 | _,cs=>cs.headD undef
def ments (kk:KK) (s:Sh):List (kk.T×List Value×s.T)→Nat→List MapEntry
 | [],_=>[]
 | p::r,i=>{ key:=kk.v p.1,val:=vof s p.2.1,born:=i }::ments kk s r (i+1)
def MapH (O:List Nat) (w:World) (g:Nat) (kk:KK) (s:Sh) (m:List (kk.T×s.T)):Prop:=
 ∃es:List (kk.T×List Value×s.T),(es.map fun e=>(e.1,e.2.2)).Perm m∧(m.map (·.1)).Nodup∧w.heap[g]? =some (.map (ments kk s es 0).toArray es.length)∧∀e∈es,kk.ok e.1∧Rep O w s e.2.1 e.2.2

inductive Fact where
 | ro (s:Sh) (cs:List Value) (x:s.T)
 | own (e:TypeId) (s:Sh) (v:Value) (xs:List s.T)
 | box (g:Nat) (t:TypeId) (cs:List Value)
 | obj (g:Nat) (o:Obj)
 | rbox (g:Nat) (t:TypeId) (cs:List Value)
 | mp (g:Nat) (kk:KK) (s:Sh) (m:List (kk.T×s.T))

def Fact.blk:Fact→Option Nat
 | .ro .. =>none
 | .own _ _ v _=>blkOf v
 | .box g _ _=>some g
 | .obj g _=>some g
 | .rbox _ _ _=>none
 | .mp g _ _ _=>some g

def Fact.holds (O:List Nat) (w:World):Fact→Prop
 | .ro s cs x=>Rep O w s cs x
 | .own e s v xs=>Own O w e s v xs (blkOf v)
 | .box g t cs=>Blk w g t cs
 | .obj g o=>w.heap[g]? =some o
 | .rbox g t cs=>Blk w g t cs∧g∉O
 | .mp g kk s m=>MapH O w g kk s m

def blocks (L:List Fact):List Nat:=L.filterMap Fact.blk

structure Cx (I:Nat→Prop) (O0:List Nat) (w0 w:World) (L:List Fact):Prop where
 fr:Fr I w0 w
 lt0: ∀k∈O0,k<w0.heap.size
 nd:(blocks L).Nodup
 fresh: ∀k∈blocks L,w0.heap.size≤k∨I k
 all: ∀f∈L,f.holds (O0++blocks L) w

theorem Own.sub {O O':List Nat} {w:World} {e:TypeId} {s:Sh} {v:Value} {xs:List s.T} {G:Option Nat} (h:Own O w e s v xs G) (ho: ∀k∈O',k∈O∨w.heap.size≤k):Own O' w e s v xs G:=
 h.step (Fr.refl (fun _=>False) w) (fun _ h=>h.elim) ho (fun _ _ h=>h)

theorem Fact.step {O O':List Nat} {w w':World} {S:Nat→Prop} (hf:Fr S w w') (hs: ∀k,S k→k∈O) (ho: ∀k∈O',k∈O∨w.heap.size≤k): ∀{f:Fact},f.holds O w→(∀g,f.blk=some g→¬S g)→f.holds O' w'
 | .ro _ _ _,h,_=>Rep.step hf hs ho h
 | .own _ _ _ _,h,hg=>Own.step h hf hs ho hg
 | .box g _ _,h,hg=>Blk.fr h hf (hg g rfl)
 | .obj g _,h,hg=>(hf.block g (Array.getElem?_eq_some_iff.1 h).1 (hg g rfl)).trans h
 | .rbox g _ _,h,_=>⟨Blk.fr h.1 hf fun hS=>h.2 (hs g hS),fun hk=>(ho g hk).elim h.2 fun hge=>absurd (Blk.lt h.1) (Nat.not_lt.2 hge)⟩
 | .mp g _ _ _,⟨es,h1,h2,h3,h4⟩,hg=>⟨es,h1,h2,(hf.block g (Array.getElem?_eq_some_iff.1 h3).1 (hg g rfl)).trans h3,fun e he=>⟨(h4 e he).1,Rep.step hf hs ho (h4 e he).2⟩⟩

theorem Fact.lt {O:List Nat} {w:World}: ∀{f:Fact},f.holds O w→∀g,f.blk=some g→g<w.heap.size
 | .ro _ _ _,_,g,hg=>by cases hg
 | .own _ _ _ _,h,g,hg=>Own.lt h hg
 | .box g _ _,h,g',hg=>by injection hg with hg; subst hg; exact Blk.lt h
 | .obj g _,h,g',hg=>by injection hg with hg; subst hg; exact (Array.getElem?_eq_some_iff.1 h).1
 | .rbox _ _ _,_,g,hg=>by cases hg
 | .mp g _ _ _,⟨es,_,_,h3,_⟩,g',hg=>by injection hg with hg; subst hg; exact (Array.getElem?_eq_some_iff.1 h3).1

section
variable {I : Nat → Prop} {O0 : List Nat} {w0 w w' : World} {L : List Fact}

theorem Cx.at_ (h:Cx I O0 w0 w L) {i:Nat} {f:Fact} (hi:L[i]? =some f):f.holds (O0++blocks L) w:=h.all f (List.mem_of_getElem? hi)

theorem Cx.lt (h:Cx I O0 w0 w L): ∀k∈O0++blocks L,k<w.heap.size:=by
 intro k hk
 rcases List.mem_append.1 hk with h1 | h1
 · exact Nat.lt_of_lt_of_le (h.lt0 k h1) h.fr.size
 ·
  obtain ⟨f,hf,hb⟩:=List.mem_filterMap.1 h1
  exact Fact.lt (h.all f hf) k hb

theorem nd_other {i j:Nat} {f f':Fact} {g:Nat} (hn:(blocks L).Nodup) (hi:L[i]? =some f) (hj:L[j]? =some f') (hne:i≠j) (hg:f.blk=some g):f'.blk≠some g:=by
 intro hg'
 induction L generalizing i j with
 | nil=>simp at hi
 | cons a L ih=>
  have hn':(blocks L).Nodup:=by
   unfold blocks at hn⊢
   rw [List.filterMap_cons] at hn
   split at hn
   · exact hn
   · exact (List.nodup_cons.1 hn).2
  have hin: ∀(k:Nat) (f:Fact),L[k]? =some f→f.blk=some g→g∈blocks L:=fun k f hk hb=>List.mem_filterMap.2 ⟨f,List.mem_of_getElem? hk,hb⟩
  cases i with
  | zero=>
   simp at hi
   subst hi
   cases j with
   | zero=>exact hne rfl
   | succ j=>
    have:=hin j f' (by simpa using hj) hg'
    unfold blocks at hn
    rw [List.filterMap_cons,hg] at hn
    exact (List.nodup_cons.1 hn).1 this
  | succ i=>
   cases j with
   | zero=>
    simp at hj
    subst hj
    have:=hin i f (by simpa using hi) hg
    unfold blocks at hn
    rw [List.filterMap_cons,hg'] at hn
    exact (List.nodup_cons.1 hn).1 this
   | succ j=>exact ih hn' (i:=i) (j:=j) (by simpa using hi) (by simpa using hj) (by omega)

theorem Cx.step (h:Cx I O0 w0 w L) (hf:Fr (fun _=>False) w w'):Cx I O0 w0 w' L:=
 ⟨h.fr.trans' hf (fun _ _ h=>h.elim),h.lt0,h.nd,h.fresh,fun f hm=>Fact.step hf (fun _ h=>h.elim) (fun _ hk=>.inl hk) (h.all f hm) (fun _ _ h=>h)⟩
theorem Cx.drew (h:Cx I O0 w0 w L):Cx I O0 w0 w.drew L:=h.step (Fr.drew w _)

theorem Cx.ro (h:Cx I O0 w0 w L) {s:Sh} {cs:List Value} {x:s.T} (hr:Rep (O0++blocks L) w s cs x):Cx I O0 w0 w (.ro s cs x::L):=by
 have e:blocks (.ro s cs x::L)=blocks L:=by unfold blocks; rw [List.filterMap_cons]; rfl
 refine ⟨h.fr,h.lt0,by rw [e]; exact h.nd,by rw [e]; exact h.fresh,fun f hm=>?_⟩
 rw [e]
 rcases List.mem_cons.1 hm with rfl | hm
 · exact hr
 · exact h.all f hm

theorem Cx.new (h:Cx I O0 w0 w L) (hf:Fr (fun _=>False) w w') {f:Fact} (hg: ∀g,f.blk=some g→w.heap.size≤g) (hh: ∀O:List Nat,(∀k∈O,k∈O0++blocks L∨w.heap.size≤k)→f.holds O w'):Cx I O0 w0 w' (f::L):=by
 have hlt:=h.lt
 cases hb:f.blk with
 | none=>
  have e:blocks (f::L)=blocks L:=by unfold blocks; rw [List.filterMap_cons,hb]
  refine ⟨h.fr.trans' hf (fun _ _ h=>h.elim),h.lt0,by rw [e]; exact h.nd,by rw [e]; exact h.fresh,fun f' hm=>?_⟩
  rw [e]
  rcases List.mem_cons.1 hm with rfl | hm
  · exact hh _ fun _ hk=>.inl hk
  · exact Fact.step hf (fun _ h=>h.elim) (fun k hk=>.inl hk) (h.all f' hm) (fun _ _ h=>h)
 | some g=>
  have e:blocks (f::L)=g::blocks L:=by unfold blocks; rw [List.filterMap_cons,hb]
  have hgn:=hg g hb
  have ho: ∀k∈O0++blocks (f::L),k∈O0++blocks L∨w.heap.size≤k:=by
   intro k hk
   rw [e] at hk
   rcases List.mem_append.1 hk with h1 | h1
   · exact .inl (List.mem_append_left _ h1)
   ·
    rcases List.mem_cons.1 h1 with rfl | h1
    · exact .inr hgn
    · exact .inl (List.mem_append_right _ h1)
  refine ⟨h.fr.trans' hf (fun _ _ h=>h.elim),h.lt0,?_,?_,fun f' hm=>?_⟩
  ·
   rw [e]
   refine List.nodup_cons.2 ⟨fun hin=>?_,h.nd⟩
   have:=hlt g (List.mem_append_right _ hin)
   omega
  ·
   intro k hk
   rw [e] at hk
   rcases List.mem_cons.1 hk with rfl | h1
   · exact .inl (Nat.le_trans h.fr.size hgn)
   · exact h.fresh k h1
  ·
   rcases List.mem_cons.1 hm with rfl | hm
   · exact hh _ ho
   · exact Fact.step hf (fun _ h=>h.elim) ho (h.all f' hm) (fun _ _ h=>h)

theorem Cx.turn (h:Cx I O0 w0 w L) {i:Nat} {f f':Fact} (hi:L[i]? =some f) (hf:Fr (fun k=>f.blk=some k) w w') (hg:f'.blk=f.blk∨f'.blk=some w.heap.size∨f'.blk=none)
  (hh: ∀O:List Nat,(∀k∈O,k∈O0++blocks L∨w.heap.size≤k)→f'.holds O w'):Cx I O0 w0 w' (L.set i f'):=by
 have hlt:=h.lt
 have hmem: ∀k,f.blk=some k→k∈blocks L:=fun k hk=>List.mem_filterMap.2 ⟨f,List.mem_of_getElem? hi,hk⟩
 have hS: ∀k,f.blk=some k→k∈O0++blocks L:=fun k hk=>List.mem_append_right _ (hmem k hk)
 -- the blocks of the new list
 have hsub: ∀k∈blocks (L.set i f'),k∈blocks L∨k=w.heap.size:=by
  intro k hk
  obtain ⟨a,ha,hb⟩:=List.mem_filterMap.1 hk
  rcases List.mem_or_eq_of_mem_set ha with h1 | h1
  · exact .inl (List.mem_filterMap.2 ⟨a,h1,hb⟩)
  ·
   subst h1
   rcases hg with hg | hg | hg
   · exact .inl (hmem k (by rw [←hg]; exact hb))
   · rw [hb] at hg; injection hg with hg; exact .inr hg
   · rw [hb] at hg; cases hg
 have ho: ∀k∈O0++blocks (L.set i f'),k∈O0++blocks L∨w.heap.size≤k:=by
  intro k hk
  rcases List.mem_append.1 hk with h1 | h1
  · exact .inl (List.mem_append_left _ h1)
  ·
   rcases hsub k h1 with h2 | h2
   · exact .inl (List.mem_append_right _ h2)
   · exact .inr (by omega)
 have hnd:(blocks (L.set i f')).Nodup:=by
  have hlt': ∀k∈blocks L,k<w.heap.size:=fun k hk=>hlt k (List.mem_append_right _ hk)
  have hn:=h.nd
  clear ho hsub hmem hS hh hlt h hf
  induction L generalizing i with
  | nil=>simp at hi
  | cons a L ih=>
   have hnL:(blocks L).Nodup:=by
    unfold blocks at hn⊢
    rw [List.filterMap_cons] at hn
    split at hn
    · exact hn
    · exact (List.nodup_cons.1 hn).2
   have hltL: ∀k∈blocks L,k<w.heap.size:=fun k hk=>hlt' k (by
    unfold blocks at hk⊢
    rw [List.filterMap_cons]
    split
    · exact hk
    · exact List.mem_cons_of_mem _ hk)
   cases i with
   | zero=>
    simp at hi
    subst hi
    rcases hg with hg | hg | hg
    · unfold blocks at hn⊢; rw [List.set_cons_zero,List.filterMap_cons,hg]; rw [List.filterMap_cons] at hn; exact hn
    ·
     unfold blocks at hnL hltL⊢
     rw [List.set_cons_zero,List.filterMap_cons,hg]
     exact List.nodup_cons.2 ⟨fun hin=>by have:=hltL _ hin; omega,hnL⟩
    ·
     unfold blocks at hnL⊢
     rw [List.set_cons_zero,List.filterMap_cons,hg]
     exact hnL
   | succ i=>
    have ih':=ih (i:=i) (by simpa using hi) hltL hnL
    unfold blocks at ih' hn hlt'⊢
    rw [List.set_cons_succ,List.filterMap_cons]
    cases ha:a.blk with
    | none=>exact ih'
    | some g=>
     rw [List.filterMap_cons,ha] at hn hlt'
     refine List.nodup_cons.2 ⟨fun hin=>?_,ih'⟩
     obtain ⟨b,hb1,hb2⟩:=List.mem_filterMap.1 hin
     rcases List.mem_or_eq_of_mem_set hb1 with h1 | h1
     · exact (List.nodup_cons.1 hn).1 (List.mem_filterMap.2 ⟨b,h1,hb2⟩)
     ·
      subst h1
      rcases hg with hg | hg | hg
      ·
       rw [hg] at hb2
       exact (List.nodup_cons.1 hn).1 (List.mem_filterMap.2 ⟨f,List.mem_of_getElem? (by simpa using hi),hb2⟩)
      ·
       rw [hb2] at hg; injection hg with hg
       have:=hlt' g (by simp)
       omega
      · rw [hb2] at hg; cases hg
 refine ⟨?_,h.lt0,hnd,?_,?_⟩
 ·
  refine h.fr.trans' hf fun k hk hS'=>?_
  rcases h.fresh k (hmem k hS') with h1 | h1
  · omega
  · exact h1
 ·
  intro k hk
  rcases hsub k hk with h1 | h1
  · exact h.fresh k h1
  · exact .inl (by rw [h1]; exact h.fr.size)
 ·
  intro a ha
  obtain ⟨j,hj⟩:=List.mem_iff_getElem?.1 ha
  by_cases hij:i=j
  ·
   subst hij
   have hlt'':i<L.length:=(List.getElem?_eq_some_iff.1 hi).1
   rw [List.getElem?_set_self hlt''] at hj
   injection hj with hj
   subst hj
   exact hh _ ho
  ·
   rw [List.getElem?_set_ne hij] at hj
   exact Fact.step hf hS ho (h.at_ hj) fun g hb hg'=>nd_other h.nd hi hj hij hg' hb

theorem blocks_set_none {i:Nat} {f':Fact} (hb:f'.blk=none):(blocks (L.set i f')).Sublist (blocks L):=by
 induction L generalizing i with
 | nil=>exact List.Sublist.refl _
 | cons a L ih=>
  cases i with
  | zero=>
   unfold blocks
   rw [List.set_cons_zero,List.filterMap_cons,List.filterMap_cons,hb]
   cases a.blk with
   | none=>exact List.Sublist.refl _
   | some g=>exact List.sublist_cons_self _ _
  | succ i=>
   have:=ih (i:=i)
   unfold blocks at this⊢
   rw [List.set_cons_succ,List.filterMap_cons,List.filterMap_cons]
   cases a.blk with
   | none=>exact this
   | some g=>exact this.cons_cons g

theorem Cx.freeze (h:Cx I O0 w0 w L) {i:Nat} {e:TypeId} {s:Sh} {v:Value} {xs:List s.T} (hi:L[i]? =some (.own e s v xs)) (hv: ∀g,blkOf v=some g→w0.heap.size≤g):Cx I O0 w0 w (L.set i (.ro (.sl s) [v] xs)):=by
 have hs:(blocks (L.set i (.ro (.sl s) [v] xs))).Sublist (blocks L):=blocks_set_none rfl
 have hne: ∀k∈blocks (L.set i (.ro (.sl s) [v] xs)),blkOf v≠some k:=by
  intro k hk
  obtain ⟨a,ha,hb⟩:=List.mem_filterMap.1 hk
  obtain ⟨j,hj⟩:=List.mem_iff_getElem?.1 ha
  by_cases hij:i=j
  ·
   subst hij
   rw [List.getElem?_set_self (List.getElem?_eq_some_iff.1 hi).1] at hj
   injection hj with hj
   subst hj
   cases hb
  ·
   rw [List.getElem?_set_ne hij] at hj
   exact fun hv'=>nd_other h.nd hj hi (Ne.symm hij) hb hv'
 have ho: ∀k∈O0++blocks (L.set i (.ro (.sl s) [v] xs)),k∈O0++blocks L∨w.heap.size≤k:=fun k hk=>.inl (by
  rcases List.mem_append.1 hk with h1 | h1
  · exact List.mem_append_left _ h1
  · exact List.mem_append_right _ (hs.subset h1))
 refine ⟨h.fr,h.lt0,hs.nodup h.nd,fun k hk=>h.fresh k (hs.subset hk),fun f hm=>?_⟩
 rcases List.mem_or_eq_of_mem_set hm with h1 | h1
 · exact Fact.step (Fr.refl (fun _=>False) w) (fun _ h=>h.elim) ho (h.all f h1) (fun _ _ h=>h)
 ·
  subst h1
  refine Own.freeze (h.at_ hi) ho fun g hg hin=>?_
  rcases List.mem_append.1 hin with h2 | h2
  · have:=h.lt0 g h2; have:=hv g hg; omega
  · exact hne g h2 hg

theorem Cx.own_new (h:Cx (fun _=>False) O0 w0 w L) {i:Nat} {e:TypeId} {s:Sh} {v:Value} {xs:List s.T} (hi:L[i]? =some (.own e s v xs)): ∀g,blkOf v=some g→w0.heap.size≤g:=fun g hg=>
 (h.fresh g (List.mem_filterMap.2 ⟨_,List.mem_of_getElem? hi,hg⟩)).resolve_right id

theorem Cx.sel (h:Cx I O0 w0 w L) (is:List Nat) (hn:is.Nodup):Cx I O0 w0 w (is.filterMap (L[·]?)):=by
 have hmem: ∀f∈is.filterMap (L[·]?),f∈L:=fun f hf=>by
  obtain ⟨j,_,hj⟩:=List.mem_filterMap.1 hf
  exact List.mem_of_getElem? hj
 have hb: ∀k∈blocks (is.filterMap (L[·]?)),k∈blocks L:=fun k hk=>by
  obtain ⟨f,hf,hb⟩:=List.mem_filterMap.1 hk
  exact List.mem_filterMap.2 ⟨f,hmem f hf,hb⟩
 have ho: ∀k∈O0++blocks (is.filterMap (L[·]?)),k∈O0++blocks L∨w.heap.size≤k:=fun k hk=>.inl (by
  rcases List.mem_append.1 hk with h1 | h1
  · exact List.mem_append_left _ h1
  · exact List.mem_append_right _ (hb k h1))
 refine ⟨h.fr,h.lt0,?_,fun k hk=>h.fresh k (hb k hk),fun f hf=>Fact.step (Fr.refl (fun _=>False) w) (fun _ h=>h.elim) ho (h.all f (hmem f hf)) (fun _ _ h=>h)⟩
 have hnd:=h.nd
 clear hmem hb ho h
 induction is with
 | nil=>exact List.nodup_nil
 | cons i is ih=>
  have hn':=List.nodup_cons.1 hn
  have ih':=ih hn'.2
  unfold blocks at ih'⊢
  rw [List.filterMap_cons]
  cases hi:L[i]? with
  | none=>exact ih'
  | some f=>
   simp only
   rw [List.filterMap_cons]
   cases hb:f.blk with
   | none=>exact ih'
   | some g=>
    simp only
    refine List.nodup_cons.2 ⟨fun hin=>?_,ih'⟩
    obtain ⟨f',hf',hb'⟩:=List.mem_filterMap.1 hin
    obtain ⟨j,hj,hj'⟩:=List.mem_filterMap.1 hf'
    exact nd_other hnd hi hj' (fun e=>hn'.1 (by rw [e]; exact hj)) hb hb'

/-! Operations on the context. -/
def Op (P:Program) (ρ:Operand→Value) (o:Oper) (w:World) (R:Value→World→Prop):Prop:= ∃v w',(execOp ρ o).run P w=.ok (.value v) w'∧R v w'
def Sk (P:Program) (ρ:Operand→Value) (o:Oper) (w:World) (R:World→Prop):Prop:= ∃w',(execOp ρ o).run P w=.ok .skip w'∧R w'
def Cl (P:Program) (ρ:Operand→Value) (o:Oper) (w:World) (R:Value→World→Prop):Prop:= ∃f args,(execOp ρ o).run P w=.ok (.enter f args) w∧Calls P f args w fun e w'=> ∃v,e=.returned v∧R v w'

variable {P : Program} {ρ : Operand → Value} {d : Option Tmp} {ty : TypeId} {pos : String} {af : Array Edge} {gd : Option (Nat × Bool)} {x y : Operand}

theorem Cx.box (h:Cx I O0 w0 w L) {e:TypeId} {v:Value} (hx:ρ x=v) {cs:List Value} (hv:v.cells=cs.toArray):
  Op P ρ ⟨d,.box e x,ty,pos,af,gd⟩ w fun v w'=> ∃g,v=.pointer (some ⟨g,0,none⟩)∧Cx I O0 w0 w' (.box g e cs::L)∧Fr (fun _=>False) w w'∧w.heap.size≤g:=
 ⟨_,_,op_box hx hv,_,rfl,h.new (Fr.alloc w _ _) (f:=.box w.heap.size e cs) (fun g hg=>by injection hg with hg; omega) (fun _ _=>Blk.new w e cs),Fr.alloc w _ _,Nat.le_refl _⟩
theorem Cx.alloc (h:Cx I O0 w0 w L) {e:TypeId} {z:Value} (hz: ∀w,(zeroValue e).run P w=.ok z w) {cs:List Value} (hv:z.cells=cs.toArray):
  Op P ρ ⟨d,.alloc e,ty,pos,af,gd⟩ w fun v w'=> ∃g,v=.pointer (some ⟨g,0,none⟩)∧Cx I O0 w0 w' (.box g e cs::L)∧Fr (fun _=>False) w w'∧w.heap.size≤g:=
 ⟨_,_,op_alloc hz hv,_,rfl,h.new (Fr.alloc w _ _) (f:=.box w.heap.size e cs) (fun g hg=>by injection hg with hg; omega) (fun _ _=>Blk.new w e cs),Fr.alloc w _ _,Nat.le_refl _⟩
theorem Cx.setf (h:Cx I O0 w0 w L) {i:Nat} {g k:Nat} {e te:TypeId} {cs:List Value} {u v:Value} (hi:L[i]? =some (.box g te cs)) (hs: ∀w,(sizeOf e).run P w=.ok 1 w) (h1:v.oneCell'=true) (hx:ρ x=.pointer (some ((⟨g,0,none⟩:Addr).add k))) (hy:ρ y=v) (hu:cs[k]? =some u):
  Sk P ρ ⟨d,.store e x y,ty,pos,af,gd⟩ w fun w'=>Cx I O0 w0 w' (L.set i (.box g te (cs.set k v)))∧Fr (fun k=>some g=some k) w w':=by
 have hb:Blk w g te cs:=h.at_ hi
 have hf:Fr (fun k=>some g=some k) w (w.setCell ((⟨g,0,none⟩:Addr).add k) v):=Fr.setCell (S:=fun k=>some g=some k) w (.inl (by rw [add_block])) v
 exact ⟨_,st_fld hb hs h1 hx hy hu,h.turn hi hf (.inl rfl) (fun _ _=>hb.set k v),hf⟩
theorem Cx.seta (h:Cx I O0 w0 w L) {i:Nat} {g:Nat} {e te:TypeId} {ti:TypeInfo} {cs ds:List Value} (hi:L[i]? =some (.box g te cs)) (ht:P.info? e=some ti) (hs:ti.size=ds.length) (hl:cs.length=ds.length) (h1:ds.all (·.oneCell')=true) (hx:ρ x=.pointer (some ⟨g,0,none⟩)) (hy:ρ y=.agg ds.toArray):
  Sk P ρ ⟨d,.store e x y,ty,pos,af,gd⟩ w fun w'=>Cx I O0 w0 w' (L.set i (.box g te ds))∧Fr (fun k=>some g=some k) w w':=by
 have hb:Blk w g te cs:=h.at_ hi
 have hf:Fr (fun k=>some g=some k) w (w.setRow g ds.toArray):=Fr.setRow (S:=fun k=>some g=some k) w (.inl rfl) _
 exact ⟨_,st_blk hb ht hs hl h1 hx hy,h.turn hi hf (.inl rfl) (fun _ _=>hb.setAll ds),hf⟩
theorem Cx.nil (h:Cx I O0 w0 w L) (e:TypeId) (s:Sh):Cx I O0 w0 w (.own e s (.slice none 0 0) []::L):=
 h.new (Fr.refl _ w) (fun g hg=>by cases hg) fun O _=>Own.nil O w e s
theorem own_blk {O:List Nat} {w:World} {e:TypeId} {s:Sh} {v:Value} {xs:List s.T} {G:Option Nat} (h:Own O w e s v xs G):G=blkOf v:=by
 obtain ⟨cs,h1,_⟩:=h
 rcases h1.2 with ⟨h0,_,h2⟩ | ⟨g,o,cap,cur,h0,h2,_⟩
 · rw [h0,h2]; rfl
 · rw [h0,h2]; rfl

theorem Elems.stay {O O':List Nat} {w:World} {s:Sh} {cs:List Value} {xs:List s.T} (h:Elems O w s cs xs) (ho: ∀k∈O',k∈O∨w.heap.size≤k):Elems O' w s cs xs:=⟨h.1,fun i x hx=>Rep.sub ho (h.2 i x hx)⟩

theorem Rep.cells {O:List Nat} {w:World} {s:Sh}: ∀{xs:List s.T} {ad:Addr},(∀i x,xs[i]? =some x→∃cs',(∀j u,cs'[j]? =some u→w.cell? (ad.add (i*s.n+j))=some u)∧Rep O w s cs' x)→
  ∃cs,(∀j u,cs[j]? =some u→w.cell? (ad.add j)=some u)∧Elems O w s cs xs
 | [],_,_=>⟨[],by simp,by simp,by simp⟩
 | x::xs,ad,h=>by
  obtain ⟨c0,h0,r0⟩:=h 0 x rfl
  obtain ⟨cs,h1,r1,r2⟩:=Rep.cells (xs:=xs) (ad:=ad.add s.n) (w:=w) (O:=O) (s:=s) fun i y hy=>by
   obtain ⟨c,hc,hr⟩:=h (i+1) y (by simpa using hy)
   exact ⟨c,fun j u hu=>by rw [add_add]; have:=hc j u hu; rwa [show (i+1)*s.n+j=s.n+(i*s.n+j) by rw [Nat.succ_mul]; omega] at this,hr⟩
  have hl:=r0.len
  refine ⟨c0++cs,fun j u hu=>?_,by rw [List.length_append,hl,r1,List.length_cons,Nat.succ_mul]; omega,fun i y hy=>?_⟩
  ·
   rcases Nat.lt_or_ge j s.n with hj | hj
   ·
    rw [List.getElem?_append_left (by omega)] at hu
    have:=h0 j u hu
    rwa [Nat.zero_mul,Nat.zero_add] at this
   ·
    rw [List.getElem?_append_right (by omega),hl] at hu
    have:=h1 _ u hu
    rwa [add_add,show s.n+(j-s.n)=j by omega] at this
  ·
   cases i with
   | zero=>
    simp at hy
    subst hy
    rw [Nat.zero_mul,List.drop_zero,List.take_append_of_le_length (by omega),List.take_of_length_le (by omega)]
    exact r0
   | succ i=>
    have:=r2 i y (by simpa using hy)
    rw [Nat.succ_mul,Nat.add_comm,←hl,←List.drop_drop,List.drop_append,List.drop_eq_nil_of_le (Nat.le_refl _),List.nil_append,Nat.sub_self,List.drop_zero,hl]
    exact this

theorem Rep.src {O:List Nat} {w:World} {s:Sh} {A:Option Addr} {m c:Nat} {xs:List s.T} (h:Rep O w (.sl s) [.slice A m c] xs): ∃news,Src w s.n A m news∧xs.length=m∧Elems O w s news xs:=by
 obtain ⟨A',c',h1,h2,h3,h4⟩:=h
 injection h1 with h1
 injection h1 with hA hm hc
 subst hA hm hc
 rcases Nat.eq_zero_or_pos xs.length with h0 | h0
 ·
  have:xs=[]:=List.eq_nil_of_length_eq_zero h0
  subst this
  exact ⟨[],⟨by simp,fun h=>absurd h (by simp)⟩,rfl,by simp,by simp⟩
 ·
  obtain ⟨ad,hA,_,hi⟩:=h4 h0
  obtain ⟨cs,hc,he⟩:=Rep.cells hi
  exact ⟨cs,⟨he.1,fun _=>⟨ad,hA,hc⟩⟩,rfl,he⟩
theorem Own.src {O:List Nat} {w:World} {e:TypeId} {s:Sh} {A:Option Addr} {m c:Nat} {xs:List s.T} {G:Option Nat} (h:Own O w e s (.slice A m c) xs G): ∃news,Src w s.n A m news∧xs.length=m∧Elems O w s news xs:=by
 have hf:=h.form
 obtain ⟨A',c',hv,_⟩:=hf
 injection hv with _ hm _
 obtain ⟨cs,h1,h2⟩:=h
 refine ⟨cs,⟨by rw [h1.1,hm],fun hp=>?_⟩,hm.symm,h2⟩
 rcases h1.2 with ⟨h0,h00,_⟩ | ⟨g,o,cap,cur,h0,_⟩
 · omega
 ·
  injection h0 with hA _ _
  exact ⟨_,hA,fun j u hu=>h1.cell (by rw [hA]) hu⟩

theorem Cx.app (h:Cx I O0 w0 w L) {i:Nat} {t t2 e e2:TypeId} {ti:TypeInfo} {z v:Value} {s:Sh} {xs:List s.T} (hi:L[i]? =some (.own e s v xs)) (ht:P.underlying t=some (.slice e)) (ht2:P.underlying t2=some (.slice e2))
  (hti:P.info? e=some ti) (hz:ti.zero=some z) (hzs:z.cells.size=s.n) (hsz:ti.size=s.n) {A:Option Addr} {m c:Nat} {ys:List s.T}
  (hs: ∃news,Src w s.n A m news∧ys.length=m∧Elems (O0++blocks L) w s news ys) (hx:ρ x=v) (hy:ρ y=.slice A m c)
  (hb:xs.length+m≤1099511627776) (hby:ti.bytes≤64):
  Op P ρ ⟨d,.call { callee:=.builtin .append,args:=#[x,y],argTypes:=#[t,t2] },ty,pos,af,gd⟩ w fun v' w'=> ∃A' c',v'=.slice A' (xs++ys).length c'∧(xs++ys).length≤c'∧c'≤9223372036854775807∧Cx I O0 w0 w' (L.set i (.own e s (.slice A' (xs++ys).length c') (xs++ys)))∧Fr (fun k=>blkOf v=some k) w w'∧(blkOf (.slice A' (xs++ys).length c')=blkOf v∨blkOf (.slice A' (xs++ys).length c')=some w.heap.size):=by
 obtain ⟨news,hs1,hs2,hs3⟩:=hs
 have hown:Own (O0++blocks L) w e s v xs (blkOf v):=h.at_ hi
 have hmem: ∀g,blkOf v=some g→g∈O0++blocks L:=fun g hg=>List.mem_append_right _ (List.mem_filterMap.2 ⟨_,List.mem_of_getElem? hi,hg⟩)
 have hbb:(xs.length+m)*ti.bytes≤140737488355328:=Nat.le_trans (Nat.mul_le_mul_left _ hby) (by omega)
 have key:=fun (O':List Nat) (hO: ∀k∈O',k∈O0++blocks L∨w.heap.size≤k)=>append_run (P:=P) (O:=O0++blocks L) (O':=O') (w:=w) (ty:=ty) (c:=c) ht ht2 hti hz hzs hsz hown hmem hO hs1 hs2 hs3 (by omega) hbb
 obtain ⟨v',w',G',hr,ho,hf,hg⟩:=key [] (fun _ h=>by cases h)
 obtain ⟨A',c',hv',hl1,hl2⟩:=ho.form
 have hG:=own_blk ho
 have hbk:blkOf v'=blkOf v∨blkOf v'=some w.heap.size:=by
  rcases hg with hg | hg
  · exact .inl (by rw [←hG,hg])
  · exact .inr (by rw [←hG,hg])
 refine ⟨v',w',op_append hx hy hr,A',c',hv',hl1,hl2,?_,hf,by rw [←hv']; exact hbk⟩
 subst hv'
 refine h.turn hi hf ?_ fun O hO=>?_
 ·
  rcases hg with hg | hg
  · exact .inl (by show blkOf _=blkOf _; rw [←hG,hg])
  · exact .inr (.inl (by show blkOf _=_; rw [←hG,hg]))
 ·
  obtain ⟨v2,w2,G2,hr2,ho2,_,_⟩:=key O hO
  rw [hr] at hr2
  injection hr2 with e1 e2
  subst e1 e2
  have:=own_blk ho2
  subst this
  exact ho2

theorem Cx.make (h:Cx I O0 w0 w L) {t e:TypeId} {ti:TypeInfo} {z:Value} {s:Sh} (ht:P.underlying t=some (.slice e)) (hti:P.info? e=some ti) (hz:ti.zero=some z) (hzs:z.cells.toList=s.zc) (hsz:ti.size=s.n) {n:Int}
  (hx:ρ x=.int .i64 n) (hy:ρ y=.int .i64 n) (h0:0≤n) (hb:n≤1099511627776) (hby:ti.bytes≤64):
  Op P ρ ⟨d,.makeSlice t x y,ty,pos,af,gd⟩ w fun v w'=> ∃A c,v=.slice A (List.replicate n.toNat s.zero).length c∧(List.replicate n.toNat s.zero).length≤c∧c≤9223372036854775807∧Cx I O0 w0 w' (.own e s (.slice A (List.replicate n.toNat s.zero).length c) (List.replicate n.toNat s.zero)::L)∧Fr (fun _=>False) w w'∧(∀g,blkOf (.slice A (List.replicate n.toNat s.zero).length c)=some g→w.heap.size≤g):=by
 have hbb:(ti.bytes:Int)*n≤281474976710656:=by
  have:(ti.bytes:Int)*n≤64*n:=Int.mul_le_mul_of_nonneg_right (by omega) h0
  omega
 have key:=fun (O:List Nat)=>make_run (P:=P) (O':=O) (w:=w) (s:=s) ht hti hz hzs hsz (n:=n) h0 (by omega) hbb
 obtain ⟨w',hr,ho,hf⟩:=key []
 obtain ⟨A,c,hv,hl1,hl2⟩:=ho.form
 have hnew: ∀g,blkOf (.slice A (List.replicate n.toNat s.zero).length c)=some g→w.heap.size≤g:=fun g hg=>by
  have hG:=own_blk ho
  rw [hv] at hG
  have:some g=some w.heap.size:=hg.symm.trans hG.symm
  injection this with this
  omega
 refine ⟨_,w',op_make hx hy hr,A,c,hv,hl1,hl2,h.new hf hnew (fun O hO=>?_),hf,hnew⟩
 ·
  obtain ⟨w2,hr2,ho2,_⟩:=key O
  rw [hr] at hr2
  injection hr2 with _ e2
  subst e2
  rw [hv] at ho2
  have:=own_blk ho2
  rw [this] at ho2
  exact ho2

theorem Cx.lit (h:Cx I O0 w0 w L) {t e:TypeId} {ti:TypeInfo} {z:Value} {s:Sh} {n:Nat} {vs:List Value} {ps:Array (Nat×Operand)} (ht:P.underlying t=some (.slice e)) (hti:P.info? e=some ti) (hz:ti.zero=some z) (hsz:ti.size=s.n)
  (hn:vs.length*s.n≤16777216) (hnv:n=vs.length) (hp:ps.toList.map (fun p=>(p.1,ρ p.2))=lits 0 vs) (hv: ∀v∈vs,v.cells.size=s.n) {xs:List s.T} (hx:xs.length=vs.length) (hE:Elems (O0++blocks L) w s (vs.flatMap (·.cells.toList)) xs):
  Op P ρ ⟨d,.buildSlice t n ps,ty,pos,af,gd⟩ w fun v w'=> ∃A c,v=.slice A xs.length c∧xs.length≤c∧c≤9223372036854775807∧Cx I O0 w0 w' (.own e s (.slice A xs.length c) xs::L)∧Fr (fun _=>False) w w'∧(∀g,blkOf (.slice A xs.length c)=some g→w.heap.size≤g):=by
 subst hnv
 have key:=fun (O:List Nat) (hO: ∀k∈O,k∈O0++blocks L∨w.heap.size≤k)=>lit_run (P:=P) (O:=O) (w:=w) (ps:=ps.map fun (i,x)=>(i,ρ x)) ht hti hz hsz hn (by rw [Array.toList_map]; exact hp) hv hx (hE.stay hO)
 obtain ⟨cs,hr,ho⟩:=key [] (fun _ h=>by cases h)
 have hfr:=Fr.alloc w (fun _=>False) (.cells cs e)
 have hf:=ho.form
 refine ⟨_,_,op_lit hr,some ⟨w.heap.size,0,none⟩,vs.length,by rw [hx],by omega,by obtain ⟨A,c,h1,h2,h3⟩:=hf; injection h1 with _ _ h1; omega,?_,hfr,?_⟩
 rotate_left
 ·
  intro g hg
  have h1:some w.heap.size=some g:=hg
  injection h1 with h1
  omega
 refine h.new hfr (fun g hg=>?_) (fun O hO=>?_)
 ·
  have h1:some w.heap.size=some g:=hg
  injection h1 with h1
  omega
 ·
  obtain ⟨cs2,hr2,ho2⟩:=key O hO
  rw [hr] at hr2
  injection hr2 with _ e2
  rw [←e2] at ho2
  rw [hx]
  exact ho2

theorem Cx.put (h:Cx I O0 w0 w L) {i:Nat} {e te:TypeId} {s:Sh} {A:Option Addr} {ad:Addr} {m c:Nat} {xs:List s.T} (hi:L[i]? =some (.own te s (.slice A m c) xs)) (hn:s.n=1) (hs: ∀w,(sizeOf e).run P w=.ok 1 w)
  {k:Nat} (hk:k<xs.length) {a:s.T} {u:Value} (hu:Rep (O0++blocks L) w s [u] a) (hA:A=some ad) (hx:ρ x=.pointer (some (ad.add (k*s.n)))) (hy:ρ y=u):
  Sk P ρ ⟨d,.store e x y,ty,pos,af,gd⟩ w fun w'=>Cx I O0 w0 w' (L.set i (.own te s (.slice A m c) (xs.set k a)))∧Fr (fun k=>blkOf (.slice A m c)=some k) w w':=by
 have hown:Own (O0++blocks L) w te s (.slice A m c) xs (blkOf (.slice A m c)):=h.at_ hi
 have hmem: ∀g,blkOf (.slice A m c)=some g→g∈O0++blocks L:=fun g hg=>List.mem_append_right _ (List.mem_filterMap.2 ⟨_,List.mem_of_getElem? hi,hg⟩)
 obtain ⟨ad',hA',⟨o,hc⟩,hf,ho,hfr⟩:=store_run hn hown hmem hk hu
 have:ad'=ad:=by rw [hA] at hA'; injection hA' with hA'; exact hA'.symm
 subst this
 have h1:u.oneCell'=true:=hu.one u (by simp)
 refine ⟨_,st_one hs h1 hx hy hc hf,h.turn hi hfr (.inl rfl) fun O hO=>?_,hfr⟩
 have:=own_blk ho
 refine (Own.step (O:=O0++blocks L) (S:=fun _=>False) ho (Fr.refl _ _) (fun _ h=>h.elim) (fun k hk=>?_) (fun _ _ h=>h))
 rcases hO k hk with h2 | h2
 · exact .inl h2
 · exact .inr (by simpa using h2)

/-! Steps in the two walks. -/
section
variable {ops : Array Oper} {K : Env → World → Prop} {o : Oper} {rest : List Oper} {C : Frm} {E : Env}
theorem lex.op {R:Value→World→Prop} (h:Op P E.ev o w R) (hk: ∀v w',R v w'→lex P ops K rest (E.put o.dst v) w') (hg:o.guard=none:=by rfl):lex P ops K (o::rest) E w:=by
 obtain ⟨v,w',hr,hR⟩:=h
 exact lex.val hr (hk v w' hR) hg
theorem lex.sk {R:World→Prop} (h:Sk P E.ev o w R) (hk: ∀w',R w'→lex P ops K rest (E.put o.dst undef) w') (hg:o.guard=none:=by rfl):lex P ops K (o::rest) E w:=by
 obtain ⟨w',hr,hR⟩:=h
 exact lex.skp hr (hk w' hR) hg
theorem lex.gcl {R:Value→World→Prop} (hw:wantE ops E o=true) (h:Cl P E.ev o w R) (hk: ∀v w',R v w'→lex P ops K rest (E.put o.dst v) w'):lex P ops K (o::rest) E w:=by
 obtain ⟨f,args,hr,hc⟩:=h
 exact lex.gcall hw hr hc fun e w' ⟨v,he,hR⟩=>⟨v,he,hk v w' hR⟩
theorem lex.cl {R:Value→World→Prop} (h:Cl P E.ev o w R) (hk: ∀v w',R v w'→lex P ops K rest (E.put o.dst v) w') (hg:o.guard=none:=by rfl):lex P ops K (o::rest) E w:=
 lex.gcl (by unfold wantE Region.wanted; rw [hg]) h hk
theorem mixE.gop {R:Value→World→Prop} (hk0:kdS C.S o=.soft) (hw:wantE ops E o=true) (hc:C.c w) (h:Op P E.ev o w R) (hk: ∀v w',R v w'→C.c w'∧mixE P ops C K rest (E.put o.dst v) w'):mixE P ops C K (o::rest) E w:=by
 obtain ⟨v,w',hr,hR⟩:=h
 exact mixE.gsoft hk0 hw hc hr (hk v w' hR).1 (hk v w' hR).2
theorem mixE.op {R:Value→World→Prop} (hc:C.c w) (h:Op P E.ev o w R) (hk: ∀v w',R v w'→C.c w'∧mixE P ops C K rest (E.put o.dst v) w') (hg:o.guard=none:=by rfl) (hk0:kdS C.S o=.soft:=by rfl):mixE P ops C K (o::rest) E w:=
 mixE.gop hk0 (by unfold wantE Region.wanted; rw [hg]) hc h hk
theorem mixE.sk {R:World→Prop} (hd:C.d w) (h:Sk P E.ev o w R) (hk: ∀w',R w'→C.d w'∧mixE P ops C K rest (E.put o.dst undef) w') (hg:o.guard=none:=by rfl) (hk0:kdS C.S o=.hard:=by rfl):mixE P ops C K (o::rest) E w:=by
 obtain ⟨w',hr,hR⟩:=h
 exact mixE.skp hd hr (hk w' hR).1 (hk w' hR).2 hg hk0
theorem mixE.gcl {R:Value→World→Prop} (hk0:kdS C.S o=.soft) (hw:wantE ops E o=true) (hc0:C.c w) (h:Cl P E.ev o w R) (hk: ∀v w',R v w'→C.c w'∧mixE P ops C K rest (E.put o.dst v) w'):mixE P ops C K (o::rest) E w:=by
 obtain ⟨f,args,hr,hc⟩:=h
 exact mixE.gcall hk0 hw hc0 hr hc fun e w' ⟨v,he,hR⟩=>⟨v,he,hk v w' hR⟩
theorem mixE.cl {R:Value→World→Prop} (hc0:C.c w) (h:Cl P E.ev o w R) (hk: ∀v w',R v w'→C.c w'∧mixE P ops C K rest (E.put o.dst v) w') (hg:o.guard=none:=by rfl) (hk0:kdS C.S o=.soft:=by rfl):mixE P ops C K (o::rest) E w:=
 mixE.gcl hk0 (by unfold wantE Region.wanted; rw [hg]) hc0 h hk
