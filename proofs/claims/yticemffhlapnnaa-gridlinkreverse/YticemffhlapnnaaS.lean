import Derived.Test.YticemffhlapnnaaF
import Derived.Test.YticemffhlapnnaaProg
set_option linter.unusedVariables false
set_option linter.unusedSimpArgs false
namespace Go.Proofs.Yticemffhlapnnaa
open Ev
theorem mixed:Try.prog.follows .mixedOrders=true:=by decide+kernel
end Go.Proofs.Yticemffhlapnnaa
