import Derived.Test.YtkjpldmelafooaaRange
set_option linter.all false
namespace Go.Proofs.Ytkjpldmelafooaa
namespace Ev
section
variable {I : Nat → Prop} {O0 : List Nat} {w0 w w' : World} {L M T : List Fact}
end

section
variable {P : Program} {N : Nat} {nrm rt : Asn} {ex : List (Nat × Asn)} {E : Env} {w : World}
end
section
variable {P : Program} {ρ : Operand → Value} {d : Option Tmp} {ty : TypeId} {pos : String} {af : Array Edge} {gd : Option (Nat × Bool)} {x y : Operand}
