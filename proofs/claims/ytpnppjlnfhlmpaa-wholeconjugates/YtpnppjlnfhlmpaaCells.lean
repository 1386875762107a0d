import Derived.Test.YtpnppjlnfhlmpaaCall
import Derived.Shelf.Spec.SlicesInsert
set_option linter.all false
namespace Go.Proofs.Ytpnppjlnfhlmpaa
namespace Ev
open Go.RowKit Go.Shelf
section
variable {w : World} {g : Nat} {e : TypeId}

end
theorem own_lt {w:World} {e:TypeId} {g:Nat} {cur:Array Value} (h:w.heap[g]? =some (.cells cur e (0,0))):g<w.heap.size:=(Array.getElem?_eq_some_iff.1 h).1
theorem cell_of_row {w:World} {e:TypeId} {g k:Nat} {cur:Array Value} (h:w.heap[g]? =some (.cells cur e (0,0))):w.cell? ⟨g,k,none⟩=cur[k]? :=by simp [World.cell?,h]
theorem frozen_of_row {w:World} {e:TypeId} {g k:Nat} {cur:Array Value} (h:w.heap[g]? =some (.cells cur e (0,0))):w.frozen? ⟨g,k,none⟩=false:=by simp [World.frozen?,h]
