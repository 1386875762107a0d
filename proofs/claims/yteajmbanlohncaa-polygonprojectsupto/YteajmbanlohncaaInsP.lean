import Derived.Test.YteajmbanlohncaaIns
import Derived.Lib.AppendZerosOnto
import Derived.Lib.Overlaps
import Derived.Laws.IdiomCopy
set_option linter.unusedVariables false
namespace Go.Proofs.Yteajmbanlohncaa
namespace Ev
open Go.RowKit Go.Shelf Go.Sort
section
variable {P : Program} {w : World} {tS e : TypeId} {sz : Nat}
end
section
variable {P : Program} {w : World} {tS tI e : TypeId} {ti : TypeInfo} {z : Value} {s : Sh} (ht : P.underlying tS = some (.slice e)) (htI : P.underlying tI = some (.int .i64)) (hti : P.info? e = some ti) (hz : ti.zero = some z) (hzs : z.cells.size = s.n) (hsz : ti.size = s.n) (hby : ti.bytes ≤ 64)
include ht hti hsz
include htI hz hzs hby in
end
section
variable {P : Program} {ρ : Operand → Value} {d : Option Tmp} {ty : TypeId} {pos : String} {af : Array Edge} {gd : Option (Nat × Bool)} {x lo : Operand} {w : World}
end
end Ev
end Go.Proofs.Yteajmbanlohncaa
