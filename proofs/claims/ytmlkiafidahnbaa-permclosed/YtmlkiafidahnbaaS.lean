/- The mode of orders. -/
import Derived.Test.YtmlkiafidahnbaaF
import Derived.Test.YtmlkiafidahnbaaProg
set_option linter.unusedVariables false
set_option linter.unusedSimpArgs false
namespace Go.Proofs.Ytmlkiafidahnbaa
open Ev
theorem mixed : Try.prog.follows .mixedOrders = true := by decide +kernel
end Go.Proofs.Ytmlkiafidahnbaa
