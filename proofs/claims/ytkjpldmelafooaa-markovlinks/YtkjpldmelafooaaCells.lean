import Derived.Test.YtkjpldmelafooaaCall
import Derived.Shelf.Spec.SlicesInsert
set_option linter.all false
namespace Go.Proofs.Ytkjpldmelafooaa
namespace Ev
open Go.RowKit Go.Shelf
section
variable {w : World} {g : Nat} {e : TypeId}

theorem qhj: ∀(vs:List Value) (o:Nat) (w:World) (cur:Array Value),w.heap[g]? =some (.cells cur e (0,0))→
    ∃cur',(w.setCells g o vs).heap[g]? =some (.cells cur' e (0,0))∧cur'.size=cur.size∧∀k,k<cur.size→cur'[k]? =if o≤k∧k<o+vs.length then vs[k-o]? else cur[k]?
  | [],o,w,cur,h=>⟨cur,h,rfl,fun k _=>by rw [if_neg (by simp)]⟩
  | v::r,o,w,cur,h=>by
    have h1:(w.setCell ⟨g,o,.none⟩ v).heap[g]? =some (.cells (cur.setIfInBounds o v) e (0,0)):=by
      rw [setCell_eq_setRow w g o cur e (0,0) v h]; exact setRow_heap w g cur _ e _ h
    obtain ⟨cur',h2,h3,h4⟩:=qhj r (o+1) _ _ h1
    refine ⟨cur',h2,by simpa using h3,fun k hk=>?_⟩
    rw [h4 k (by simpa using hk)]
    by_cases hko:k=o
    · subst hko
      rw [if_neg (by omega),if_pos (by simp),Nat.sub_self]
      simp [hk]
    · by_cases h5:o+1≤k∧k<o+1+r.length
      · rw [if_pos h5,if_pos (by simp; omega),show k-o=(k-(o+1))+1 by omega,List.getElem?_cons_succ]
      · rw [if_neg h5,if_neg (by simp; omega),Array.getElem?_setIfInBounds_ne (fun h=>hko h.symm)]

theorem Fr.setCells {S:Nat→Prop}: ∀(vs:List Value) (o:Nat) (w:World),(S g∨w.heap.size≤g)→Fr S w (w.setCells g o vs)
  | [],_,w,_=>Fr.refl S w
  | v::r,o,w,h=>by
    have h1:Fr S w (w.setCell ⟨g,o,Option.none⟩ v):=Fr.setCell (p:=⟨g,o,Option.none⟩) w h v
    refine h1.trans (Fr.setCells r (o+1) _ ?_)
    rcases h with h | h
    · exact .inl h
    · exact .inr (by simpa using h)

theorem own_row {cur:Array Value} {o n cap:Nat} {xs:List Value} (hb:w.heap[g]? =some (.cells cur e (0,0))) (hn:n≤cap) (hc:cap≤9223372036854775807) (hs:o+cap≤cur.size) (hl:xs.length=n)
    (hx: ∀j,j<n→cur[o+j]? =xs[j]?):OwnC w e 1 (.slice (some ⟨g,o,none⟩) n cap) n xs (some g):=by
  refine ⟨by rw [hl,Nat.mul_one],.inr ⟨g,o,cap,cur,rfl,rfl,hb,hn,hc,by rw [Nat.mul_one]; exact hs,?_⟩⟩
  apply List.ext_getElem?
  intro j
  rw [Nat.mul_one]
  rcases Nat.lt_or_ge j n with hj | hj
  · rw [List.getElem?_take_of_lt hj,List.getElem?_drop,←hx j hj]; simp
  · rw [List.getElem?_eq_none (by rw [List.length_take]; omega),List.getElem?_eq_none (by omega)]

theorem elems_ints {O:List Nat} {cs:List Value} {xs:List Int} (h:Elems O w (.int .i64) cs xs):cs=xs.map (Value.int .i64)∧∀x∈xs,IntKind.i64.wrap x=x:=by
  obtain ⟨hl,h⟩:=h
  simp only [Sh.n,Nat.mul_one] at hl h
  have key: ∀i x,xs[i]? =some x→cs[i]? =some (Value.int .i64 x)∧IntKind.i64.wrap x=x:=fun i x hx=>by
    obtain ⟨h1,h2⟩:=h i x hx
    refine ⟨?_,h2⟩
    have:((cs.drop i).take 1)[0]? =some (Value.int .i64 x):=by rw [h1]; rfl
    rw [List.getElem?_take_of_lt (by omega),List.getElem?_drop] at this
    simpa using this
  refine ⟨List.ext_getElem? fun i=>?_,fun x hx=>?_⟩
  · rw [List.getElem?_map]
    rcases Nat.lt_or_ge i xs.length with hi | hi
    · rw [(key i _ (List.getElem?_eq_getElem hi)).1,List.getElem?_eq_getElem hi]; rfl
    · rw [List.getElem?_eq_none hi,List.getElem?_eq_none (by omega)]; rfl
  · obtain ⟨i,hi⟩:=List.mem_iff_getElem?.1 hx
    exact (key i x hi).2
theorem ints_elems {O:List Nat} {xs:List Int} (h: ∀x∈xs,IntKind.i64.wrap x=x):Elems O w (.int .i64) (xs.map (Value.int .i64)) xs:=by
  refine ⟨by simp [Sh.n],fun i x hx=>⟨?_,h x (List.mem_of_getElem? hx)⟩⟩
  simp only [Sh.n,Nat.mul_one]
  apply List.ext_getElem?
  intro j
  cases j with
  | zero=>rw [List.getElem?_take_of_lt (by omega),List.getElem?_drop,List.getElem?_map]; simp [hx]
  | succ j=>rw [List.getElem?_eq_none (by rw [List.length_take]; omega)]; rfl

theorem own_ints {O:List Nat} {v:Value} {xs:List Int} {G:Option Nat} (h:Own O w e (.int .i64) v xs G):(∀x∈xs,IntKind.i64.wrap x=x)∧
    ((v=.slice none 0 0∧xs=[]∧G=none)∨∃g o cap cur,v=.slice (some ⟨g,o,none⟩) xs.length cap∧G=some g∧w.heap[g]? =some (.cells cur e (0,0))∧xs.length≤cap∧cap≤9223372036854775807∧o+cap≤cur.size∧
      ∀j,j<xs.length→cur[o+j]? =(xs.map (Value.int .i64))[j]?):=by
  obtain ⟨cs,h1,h2⟩:=h
  obtain ⟨rfl,h3⟩:=elems_ints h2
  refine ⟨h3,?_⟩
  rcases h1.2 with ⟨h4,h5,h6⟩ | ⟨g,o,cap,cur,h4,h5,h6,h7,h8,h9,h10⟩
  · exact .inl ⟨h4,List.eq_nil_of_length_eq_zero h5,h6⟩
  · simp only [Sh.n,Nat.mul_one] at h9 h10
    refine .inr ⟨g,o,cap,cur,h4,h5,h6,h7,h8,h9,fun j hj=>?_⟩
    rw [←h10,List.getElem?_take_of_lt hj,List.getElem?_drop]; simp

theorem cx_row {O0:List Nat} {w':World} {S:Nat→Prop} (hO: ∀k∈O0,k<w.heap.size) (hf:Fr S w w') {v:Value} {xs:List Int} {G:Nat} (hv:blkOf v=some G) (hG:w.heap.size≤G∨S G)
    (hown:OwnC w' e 1 v xs.length (xs.map (Value.int .i64)) (some G)) (hw: ∀x∈xs,IntKind.i64.wrap x=x):Cx S O0 w w' [.own e (.int .i64) v xs]:=by
  have hb:blocks [.own e (.int .i64) v xs]=[G]:=by simp [blocks,Fact.blk,hv]
  refine ⟨hf,hO,by rw [hb]; simp,fun k hk=>?_,fun f hm=>?_⟩
  · rw [hb] at hk; simp at hk; subst hk; exact hG
  · simp at hm; subst hm
    show Own _ w' e (.int .i64) v xs (blkOf v)
    rw [hv]
    exact ⟨_,hown,ints_elems hw⟩
end
theorem drew_fr {w w':World} {S:Nat→Prop} (h:Fr S w.drew w'):Fr S w w':=(Fr.drew w S).trans h

theorem own_lt {w:World} {e:TypeId} {g:Nat} {cur:Array Value} (h:w.heap[g]? =some (.cells cur e (0,0))):g<w.heap.size:=(Array.getElem?_eq_some_iff.1 h).1
theorem cell_of_row {w:World} {e:TypeId} {g k:Nat} {cur:Array Value} (h:w.heap[g]? =some (.cells cur e (0,0))):w.cell? ⟨g,k,none⟩=cur[k]? :=by simp [World.cell?,h]
theorem frozen_of_row {w:World} {e:TypeId} {g k:Nat} {cur:Array Value} (h:w.heap[g]? =some (.cells cur e (0,0))):w.frozen? ⟨g,k,none⟩=false:=by simp [World.frozen?,h]
