import Derived.Test.YtpnppjlnfhlmpaaGreatCall
import Derived.Shelf.Spec.SlicesInsert
import Derived.Shelf.Spec.SlicesInsertGrow
import Derived.Shelf.Slices.Delete
set_option linter.all false
namespace Go.Proofs.YtpnppjlnfhlmpaaGreat
namespace Ev
section
variable {I : Nat → Prop} {O0 : List Nat} {w0 w w' : World} {L : List Fact}
theorem Fr.putObj (w:World) {S:Nat→Prop} {g:Nat} (hp:S g) (o:Obj):Fr S w (w.putObj g o):=
  ⟨rfl,rfl,rfl,by simp,fun i hi hn=>World.putObj_heap_other (fun e=>by subst e; exact hn hp),Nat.le_refl _⟩
theorem Cx.obj (h:Cx I O0 w0 w L) (o:Obj):Cx I O0 w0 (w.alloc o) (.obj w.heap.size o::L):=
  h.new (Fr.alloc w _ _) (f:=.obj w.heap.size o) (fun g hg=>by injection hg with hg; omega) fun _ _=>World.alloc_heap_new w o
theorem Cx.setObj (h:Cx I O0 w0 w L) {i g:Nat} {o:Obj} (hi:L[i]? =some (.obj g o)) (o':Obj):Cx I O0 w0 (w.putObj g o') (L.set i (.obj g o')):=by
  have hb:w.heap[g]? =some o:=h.at_ hi
  exact h.turn hi (Fr.putObj (S:=fun k=>some g=some k) w rfl o') (.inl rfl) fun O _=>World.putObj_heap_same (Array.getElem?_eq_some_iff.1 hb).1
theorem Cx.ob (h:Cx I O0 w0 w L) {i g:Nat} {o:Obj} (hi:L[i]? =some (.obj g o)):w.heap[g]? =some o:=h.at_ hi
theorem Cx.drop1 {f:Fact} (h:Cx I O0 w0 w (f::L)):Cx I O0 w0 w L:=by
  have hs: ∀k∈blocks L,k∈blocks (f::L):=fun k hk=>by
    obtain ⟨a,ha,hb⟩:=List.mem_filterMap.1 hk
    exact List.mem_filterMap.2 ⟨a,List.mem_cons_of_mem _ ha,hb⟩
  refine ⟨h.fr,h.lt0,?_,fun k hk=>h.fresh k (hs k hk),fun a ha=>Fact.step (Fr.refl (fun _=>False) w) (fun _ h=>h.elim) (fun k hk=>?_) (h.all a (List.mem_cons_of_mem _ ha)) (fun _ _ h=>h)⟩
  · have hn:=h.nd
    unfold blocks at hn⊢
    rw [List.filterMap_cons] at hn
    split at hn
    · exact hn
    · exact (List.nodup_cons.1 hn).2
  · rcases List.mem_append.1 hk with h1 | h1
    · exact .inl (List.mem_append_left _ h1)
    · exact .inl (List.mem_append_right _ (hs k h1))
end
end Ev
end Go.Proofs.YtpnppjlnfhlmpaaGreat

set_option linter.all false
namespace Go.Proofs.YtpnppjlnfhlmpaaGreat
namespace Ev
open Go.RowKit Go.Shelf
section
variable {w : World} {g : Nat} {e : TypeId}

theorem setCells_row: ∀(vs:List Value) (o:Nat) (w:World) (cur:Array Value),w.heap[g]? =some (.cells cur e (0,0))→
    ∃cur',(w.setCells g o vs).heap[g]? =some (.cells cur' e (0,0))∧cur'.size=cur.size∧∀k,k<cur.size→cur'[k]? =if o≤k∧k<o+vs.length then vs[k-o]? else cur[k]?
  | [],o,w,cur,h=>⟨cur,h,rfl,fun k _=>by rw [if_neg (by simp)]⟩
  | v::r,o,w,cur,h=>by
    have h1:(w.setCell ⟨g,o,.none⟩ v).heap[g]? =some (.cells (cur.setIfInBounds o v) e (0,0)):=by
      rw [setCell_eq_setRow w g o cur e (0,0) v h]; exact setRow_heap w g cur _ e _ h
    obtain ⟨cur',h2,h3,h4⟩:=setCells_row r (o+1) _ _ h1
    refine ⟨cur',h2,by simpa using h3,fun k hk=>?_⟩
    rw [h4 k (by simpa using hk)]
    by_cases hko:k=o
    · subst hko
      rw [if_neg (by omega),if_pos (by simp),Nat.sub_self]
      simp [hk]
    · by_cases h5:o+1≤k∧k<o+1+r.length
      · rw [if_pos h5,if_pos (by simp; omega),show k-o=(k-(o+1))+1 by omega,List.getElem?_cons_succ]
      · rw [if_neg h5,if_neg (by simp; omega),Array.getElem?_setIfInBounds_ne (fun h=>hko h.symm)]

theorem Fr.setCells {S:Nat→Prop}: ∀(vs:List Value) (o:Nat) (w:World),(S g∨w.heap.size≤g)→Fr S w (w.setCells g o vs)
  | [],_,w,_=>Fr.refl S w
  | v::r,o,w,h=>by
    have h1:Fr S w (w.setCell ⟨g,o,Option.none⟩ v):=Fr.setCell (p:=⟨g,o,Option.none⟩) w h v
    refine h1.trans (Fr.setCells r (o+1) _ ?_)
    rcases h with h | h
    · exact .inl h
    · exact .inr (by simpa using h)

theorem own_row {cur:Array Value} {o n cap:Nat} {xs:List Value} (hb:w.heap[g]? =some (.cells cur e (0,0))) (hn:n≤cap) (hc:cap≤9223372036854775807) (hs:o+cap≤cur.size) (hl:xs.length=n)
    (hx: ∀j,j<n→cur[o+j]? =xs[j]?):OwnC w e 1 (.slice (some ⟨g,o,none⟩) n cap) n xs (some g):=by
  refine ⟨by rw [hl,Nat.mul_one],.inr ⟨g,o,cap,cur,rfl,rfl,hb,hn,hc,by rw [Nat.mul_one]; exact hs,?_⟩⟩
  apply List.ext_getElem?
  intro j
  rw [Nat.mul_one]
  rcases Nat.lt_or_ge j n with hj | hj
  · rw [List.getElem?_take_of_lt hj,List.getElem?_drop,←hx j hj]; simp
  · rw [List.getElem?_eq_none (by rw [List.length_take]; omega),List.getElem?_eq_none (by omega)]

theorem elems_ints {O:List Nat} {cs:List Value} {xs:List Int} (h:Elems O w (.int .i64) cs xs):cs=xs.map (Value.int .i64)∧∀x∈xs,IntKind.i64.wrap x=x:=by
  obtain ⟨hl,h⟩:=h
  simp only [Sh.n,Nat.mul_one] at hl h
  have key: ∀i x,xs[i]? =some x→cs[i]? =some (Value.int .i64 x)∧IntKind.i64.wrap x=x:=fun i x hx=>by
    obtain ⟨h1,h2⟩:=h i x hx
    refine ⟨?_,h2⟩
    have:((cs.drop i).take 1)[0]? =some (Value.int .i64 x):=by rw [h1]; rfl
    rw [List.getElem?_take_of_lt (by omega),List.getElem?_drop] at this
    simpa using this
  refine ⟨List.ext_getElem? fun i=>?_,fun x hx=>?_⟩
  · rw [List.getElem?_map]
    rcases Nat.lt_or_ge i xs.length with hi | hi
    · rw [(key i _ (List.getElem?_eq_getElem hi)).1,List.getElem?_eq_getElem hi]; rfl
    · rw [List.getElem?_eq_none hi,List.getElem?_eq_none (by omega)]; rfl
  · obtain ⟨i,hi⟩:=List.mem_iff_getElem?.1 hx
    exact (key i x hi).2
theorem ints_elems {O:List Nat} {xs:List Int} (h: ∀x∈xs,IntKind.i64.wrap x=x):Elems O w (.int .i64) (xs.map (Value.int .i64)) xs:=by
  refine ⟨by simp [Sh.n],fun i x hx=>⟨?_,h x (List.mem_of_getElem? hx)⟩⟩
  simp only [Sh.n,Nat.mul_one]
  apply List.ext_getElem?
  intro j
  cases j with
  | zero=>rw [List.getElem?_take_of_lt (by omega),List.getElem?_drop,List.getElem?_map]; simp [hx]
  | succ j=>rw [List.getElem?_eq_none (by rw [List.length_take]; omega)]; rfl

theorem own_ints {O:List Nat} {v:Value} {xs:List Int} {G:Option Nat} (h:Own O w e (.int .i64) v xs G):(∀x∈xs,IntKind.i64.wrap x=x)∧
    ((v=.slice none 0 0∧xs=[]∧G=none)∨∃g o cap cur,v=.slice (some ⟨g,o,none⟩) xs.length cap∧G=some g∧w.heap[g]? =some (.cells cur e (0,0))∧xs.length≤cap∧cap≤9223372036854775807∧o+cap≤cur.size∧
      ∀j,j<xs.length→cur[o+j]? =(xs.map (Value.int .i64))[j]?):=by
  obtain ⟨cs,h1,h2⟩:=h
  obtain ⟨rfl,h3⟩:=elems_ints h2
  refine ⟨h3,?_⟩
  rcases h1.2 with ⟨h4,h5,h6⟩ | ⟨g,o,cap,cur,h4,h5,h6,h7,h8,h9,h10⟩
  · exact .inl ⟨h4,List.eq_nil_of_length_eq_zero h5,h6⟩
  · simp only [Sh.n,Nat.mul_one] at h9 h10
    refine .inr ⟨g,o,cap,cur,h4,h5,h6,h7,h8,h9,fun j hj=>?_⟩
    rw [←h10,List.getElem?_take_of_lt hj,List.getElem?_drop]; simp

theorem cx_row {O0:List Nat} {w':World} {S:Nat→Prop} (hO: ∀k∈O0,k<w.heap.size) (hf:Fr S w w') {v:Value} {xs:List Int} {G:Nat} (hv:blkOf v=some G) (hG:w.heap.size≤G∨S G)
    (hown:OwnC w' e 1 v xs.length (xs.map (Value.int .i64)) (some G)) (hw: ∀x∈xs,IntKind.i64.wrap x=x):Cx S O0 w w' [.own e (.int .i64) v xs]:=by
  have hb:blocks [.own e (.int .i64) v xs]=[G]:=by simp [blocks,Fact.blk,hv]
  refine ⟨hf,hO,by rw [hb]; simp,fun k hk=>?_,fun f hm=>?_⟩
  · rw [hb] at hk; simp at hk; subst hk; exact hG
  · simp at hm; subst hm
    show Own _ w' e (.int .i64) v xs (blkOf v)
    rw [hv]
    exact ⟨_,hown,ints_elems hw⟩
end
theorem own_lt {w:World} {e:TypeId} {g:Nat} {cur:Array Value} (h:w.heap[g]? =some (.cells cur e (0,0))):g<w.heap.size:=(Array.getElem?_eq_some_iff.1 h).1
theorem cell_of_row {w:World} {e:TypeId} {g k:Nat} {cur:Array Value} (h:w.heap[g]? =some (.cells cur e (0,0))):w.cell? ⟨g,k,none⟩=cur[k]? :=by simp [World.cell?,h]
theorem frozen_of_row {w:World} {e:TypeId} {g k:Nat} {cur:Array Value} (h:w.heap[g]? =some (.cells cur e (0,0))):w.frozen? ⟨g,k,none⟩=false:=by simp [World.frozen?,h]
end Ev
end Go.Proofs.YtpnppjlnfhlmpaaGreat

namespace Go.Proofs.YtpnppjlnfhlmpaaGreat
namespace Ev
section
variable {P : Program} {ρ : Operand → Value} {d : Option Tmp} {t : TypeId} {pos : String} {af : Array Edge} {g : Option (Nat × Bool)} {x : Operand}
theorem pu_nilp {a:Addr} (h:ρ x=.pointer (some a)):Pu P ρ ⟨d,.nilCheck x,t,pos,af,g⟩ (.pointer (some a)):=fun w=>by
  unfold Yv; simp [execOp,h]
theorem blk_own {e e':TypeId} {s s':Sh} {A:Option Addr} {m c m' c':Nat} {xs:List s.T} {ys:List s'.T} {g:Nat} (h:(Fact.own e s (.slice A m c) xs).blk=some g):(Fact.own e' s' (.slice A m' c') ys).blk=some g:=
  (blk_sl (A:=A) (m:=m') (c:=c') (m':=m) (c':=c)).trans (show blkOf (.slice A m c)=some g from h)
end
end Ev
end Go.Proofs.YtpnppjlnfhlmpaaGreat

set_option linter.all false
namespace Go.Proofs.YtpnppjlnfhlmpaaGreat
namespace Ev
open Go.RowKit Go.Shelf Go.Sort
