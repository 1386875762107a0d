import Derived.Test.YteajmbanlohncaaEv
set_option linter.unusedVariables false
namespace Go.Proofs.Yteajmbanlohncaa
namespace Ev
section
variable {P : Program} {ops : Array Oper} {C : Frm} {K : Act → World → Prop}
end
end Ev
end Go.Proofs.Yteajmbanlohncaa
