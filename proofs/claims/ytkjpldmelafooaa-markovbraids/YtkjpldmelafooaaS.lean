/- The mode of orders. -/
import Derived.Test.YtkjpldmelafooaaF
import Derived.Test.YtkjpldmelafooaaProg
set_option linter.unusedVariables false
set_option linter.unusedSimpArgs false
namespace Go.Proofs.Ytkjpldmelafooaa
open Ev
theorem mixed : Try.prog.follows .mixedOrders = true := by decide +kernel
end Go.Proofs.Ytkjpldmelafooaa
