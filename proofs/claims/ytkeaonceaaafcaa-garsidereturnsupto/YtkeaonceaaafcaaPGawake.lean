/- The examples of the chapter. -/
import Derived.Test.YtkeaonceaaafcaaF
set_option linter.unusedVariables false
namespace Go.Proofs.Ytkeaonceaaafcaa
open Ev
namespace Gar
set_option maxRecDepth 100000 in
theorem awake34 : F.law34_awake 300000000 = some true := by decide +kernel
end Gar
end Go.Proofs.Ytkeaonceaaafcaa
