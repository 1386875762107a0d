import Derived.Test.YteajmbanlohncaaCells
import Derived.Shelf.Spec.SlicesInsert
import Derived.Shelf.Spec.SlicesInsertGrow
import Derived.Shelf.Slices.Delete
set_option linter.unusedVariables false
namespace Go.Proofs.Yteajmbanlohncaa
namespace Ev
open Go.RowKit Go.Shelf Go.Sort

end Ev
end Go.Proofs.Yteajmbanlohncaa
