import Derived.Test.YtkjpldmelafooaaCall
import Derived.Test.YtkjpldmelafooaaMore
import Derived.Test.YtkjpldmelafooaaNest
import Derived.Test.YtkjpldmelafooaaObj
set_option linter.all false
namespace Go.Proofs.Ytkjpldmelafooaa
namespace Ev

section
variable {P : Program} {N : Nat} {nrm rt : Asn} {ex : List (Nat × Asn)} {E : Env} {w : World}
/-! Functions that leave with marks. -/
/-! Calls of yield. -/
