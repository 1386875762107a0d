/- A list is like itself. -/
import Derived.Test.YticemffhlapnnaaPLoop
set_option linter.unusedVariables false
set_option linter.unusedSimpArgs false
namespace Go.Proofs.Yticemffhlapnnaa
namespace Gl
open Ev
end Gl
end Go.Proofs.Yticemffhlapnnaa
