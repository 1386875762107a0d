import Derived.Test.YteajmbanlohncaaCall
namespace Go.Proofs.Yteajmbanlohncaa
namespace Ev
section
variable {P : Program} {ρ : Operand → Value} {d : Option Tmp} {t : TypeId} {pos : String} {af : Array Edge} {g : Option (Nat × Bool)} {x : Operand}
end
end Ev
end Go.Proofs.Yteajmbanlohncaa
