import Derived.Test.YtpnppjlnfhlmpaaF
import Derived.Test.YtpnppjlnfhlmpaaProg
set_option linter.all false
namespace Go.Proofs.Ytpnppjlnfhlmpaa
open Ev
theorem mixed:Try.prog.follows .mixedOrders=true:=by decide+kernel
