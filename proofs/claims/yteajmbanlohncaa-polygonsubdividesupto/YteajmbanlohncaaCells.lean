import Derived.Test.YteajmbanlohncaaCall
import Derived.Shelf.Spec.SlicesInsert
set_option linter.unusedVariables false
namespace Go.Proofs.Yteajmbanlohncaa
namespace Ev
open Go.RowKit Go.Shelf
section
variable {w : World} {g : Nat} {e : TypeId}

theorem setCells_row: ∀(vs:List Value) (o:Nat) (w:World) (cur:Array Value),w.heap[g]? =some (.cells cur e (0,0))→
    ∃cur',(w.setCells g o vs).heap[g]? =some (.cells cur' e (0,0))∧cur'.size=cur.size∧∀k,k<cur.size→cur'[k]? =if o≤k∧k<o+vs.length then vs[k-o]? else cur[k]?
  | [],o,w,cur,h=>⟨cur,h,rfl,fun k _=>by rw [if_neg (by simp)]⟩
  | v::r,o,w,cur,h=>by
    have h1:(w.setCell ⟨g,o,.none⟩ v).heap[g]? =some (.cells (cur.setIfInBounds o v) e (0,0)):=by
      rw [setCell_eq_setRow w g o cur e (0,0) v h]; exact setRow_heap w g cur _ e _ h
    obtain ⟨cur',h2,h3,h4⟩:=setCells_row r (o+1) _ _ h1
    refine ⟨cur',h2,by simpa using h3,fun k hk=>?_⟩
    rw [h4 k (by simpa using hk)]
    by_cases hko:k=o
    · subst hko
      rw [if_neg (by omega),if_pos (by simp),Nat.sub_self]
      simp [hk]
    · by_cases h5:o+1≤k∧k<o+1+r.length
      · rw [if_pos h5,if_pos (by simp; omega),show k-o=(k-(o+1))+1 by omega,List.getElem?_cons_succ]
      · rw [if_neg h5,if_neg (by simp; omega),Array.getElem?_setIfInBounds_ne (fun h=>hko h.symm)]

theorem Fr.setCells {S:Nat→Prop}: ∀(vs:List Value) (o:Nat) (w:World),(S g∨w.heap.size≤g)→Fr S w (w.setCells g o vs)
  | [],_,w,_=>Fr.refl S w
  | v::r,o,w,h=>by
    have h1:Fr S w (w.setCell ⟨g,o,Option.none⟩ v):=Fr.setCell (p:=⟨g,o,Option.none⟩) w h v
    refine h1.trans (Fr.setCells r (o+1) _ ?_)
    rcases h with h | h
    · exact .inl h
    · exact .inr (by simpa using h)

end
theorem own_lt {w:World} {e:TypeId} {g:Nat} {cur:Array Value} (h:w.heap[g]? =some (.cells cur e (0,0))):g<w.heap.size:=(Array.getElem?_eq_some_iff.1 h).1
theorem cell_of_row {w:World} {e:TypeId} {g k:Nat} {cur:Array Value} (h:w.heap[g]? =some (.cells cur e (0,0))):w.cell? ⟨g,k,none⟩=cur[k]? :=by simp [World.cell?,h]
theorem frozen_of_row {w:World} {e:TypeId} {g k:Nat} {cur:Array Value} (h:w.heap[g]? =some (.cells cur e (0,0))):w.frozen? ⟨g,k,none⟩=false:=by simp [World.frozen?,h]
end Ev
end Go.Proofs.Yteajmbanlohncaa
