/- The examples of layer 30 hold. -/
import Derived.Test.YtmlkiafidahnbaaPLib
set_option linter.unusedVariables false
namespace Go.Proofs.Ytmlkiafidahnbaa
open Ev
set_option maxRecDepth 100000 in
theorem awake30 : F.law30_awake 200000000 = some true := by decide +kernel
set_option maxRecDepth 100000 in
theorem awake30g (m : Nat) : F.law30_awake (m + 60) = some true := by kernel_rfl
end Go.Proofs.Ytmlkiafidahnbaa
