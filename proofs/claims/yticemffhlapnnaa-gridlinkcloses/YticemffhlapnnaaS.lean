import Derived.Test.YticemffhlapnnaaF
import Derived.Test.YticemffhlapnnaaProg
set_option linter.all false
namespace Go.Proofs.Yticemffhlapnnaa
open Ev
theorem mixed:Try.prog.follows .mixedOrders=true:=by decide+kernel
