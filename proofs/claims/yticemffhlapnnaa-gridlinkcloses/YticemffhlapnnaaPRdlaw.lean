import Derived.Test.YticemffhlapnnaaPLoop
import Derived.Test.YticemffhlapnnaaPRdia1
set_option linter.all false
namespace Go.Proofs.Yticemffhlapnnaa
namespace Gl
open Ev
end Gl
end Go.Proofs.Yticemffhlapnnaa

set_option linter.all false
namespace Go.Proofs.Yticemffhlapnnaa
namespace Gl
open Ev Gar Pg
