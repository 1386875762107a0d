/- The mode of orders. -/
import Derived.Test.YtkeaonceaaafcaaF
import Derived.Test.YtkeaonceaaafcaaProg
set_option linter.unusedVariables false
set_option linter.unusedSimpArgs false
namespace Go.Proofs.Ytkeaonceaaafcaa
open Ev
theorem mixed : Try.prog.follows .mixedOrders = true := by decide +kernel
end Go.Proofs.Ytkeaonceaaafcaa
