import Derived.Test.YtlkmcbgkohpmiaaF
import Derived.Test.YtlkmcbgkohpmiaaProg
set_option linter.all false
namespace Go.Proofs.Ytlkmcbgkohpmiaa
open Ev
theorem mixed:Try.prog.follows .mixedOrders=true:=by decide+kernel
