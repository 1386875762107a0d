import Derived.Test.YteajmbanlohncaaF
import Derived.Test.YteajmbanlohncaaProg
set_option linter.unusedVariables false
set_option linter.unusedSimpArgs false
namespace Go.Proofs.Yteajmbanlohncaa
open Ev
theorem mixed:Try.prog.follows .mixedOrders=true:=by decide+kernel
end Go.Proofs.Yteajmbanlohncaa
