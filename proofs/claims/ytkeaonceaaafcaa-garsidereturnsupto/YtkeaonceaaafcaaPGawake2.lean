/- The examples of the chapter, with more fuel. -/
import Derived.Test.YtkeaonceaaafcaaF
set_option linter.unusedVariables false
namespace Go.Proofs.Ytkeaonceaaafcaa
open Ev
namespace Gar
set_option maxRecDepth 100000 in
theorem awakeBig : F.law34_awake 10000000000 = some true := by decide +kernel
end Gar
end Go.Proofs.Ytkeaonceaaafcaa
