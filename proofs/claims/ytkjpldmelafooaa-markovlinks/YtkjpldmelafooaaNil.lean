import Derived.Test.YtkjpldmelafooaaCall
namespace Go.Proofs.Ytkjpldmelafooaa
namespace Ev
section
variable {P : Program} {ρ : Operand → Value} {d : Option Tmp} {t : TypeId} {pos : String} {af : Array Edge} {g : Option (Nat × Bool)} {x : Operand}
