/- The example of layer 44 holds. -/
import Derived.Test.YticemffhlapnnaaPLib
set_option linter.unusedVariables false
namespace Go.Proofs.Yticemffhlapnnaa
open Ev
set_option maxRecDepth 100000 in
theorem awake44 : F.law44_awake 200000000 = some true := by decide +kernel
end Go.Proofs.Yticemffhlapnnaa
