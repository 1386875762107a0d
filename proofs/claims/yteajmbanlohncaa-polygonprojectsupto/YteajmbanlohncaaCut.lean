import Derived.Test.YteajmbanlohncaaNest
set_option linter.unusedVariables false
namespace Go.Proofs.Yteajmbanlohncaa
namespace Ev
section
variable {P : Program} {I : Nat → Prop} {O0 : List Nat} {w0 w : World} {L : List Fact}
end
end Ev
end Go.Proofs.Yteajmbanlohncaa
