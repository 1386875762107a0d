/- The mode of orders. -/
import Derived.Test.YtlkmcbgkohpmiaaF
import Derived.Test.YtlkmcbgkohpmiaaProg
set_option linter.unusedVariables false
set_option linter.unusedSimpArgs false
namespace Go.Proofs.Ytlkmcbgkohpmiaa
open Ev
theorem mixed : Try.prog.follows .mixedOrders = true := by decide +kernel
end Go.Proofs.Ytlkmcbgkohpmiaa
