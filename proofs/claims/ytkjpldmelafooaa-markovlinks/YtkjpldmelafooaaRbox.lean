import Derived.Test.YtkjpldmelafooaaMap
import Derived.Test.YtkjpldmelafooaaNil
set_option linter.all false
namespace Go.Proofs.Ytkjpldmelafooaa
namespace Ev
section
variable {I : Nat → Prop} {O0 : List Nat} {w0 w w' : World} {L : List Fact} {g : Nat} {t : TypeId} {cs : List Value}
end
section
variable {P : Program} {ρ : Operand → Value} {d : Option Tmp} {ty : TypeId} {pos : String} {af : Array Edge} {gd : Option (Nat × Bool)} {x y z : Operand} {w w' : World}
theorem check_intn (n:Nat) {kt:TypeId} (hk:P.underlying kt=some (.int .i64)) (w:World) (emp:Bool) (k:Int):(Instr.checkKey emp (n+1) kt (.int .i64 k)).run P w=.ok () w:=by
  simp [Instr.checkKey,run_underlying hk]
theorem check_int {kt:TypeId} (hk:P.underlying kt=some (.int .i64)) (w:World) (emp:Bool) (k:Int):(Instr.checkKey emp 10000 kt (.int .i64 k)).run P w=.ok () w:=check_intn 9999 hk w emp k
variable {I : Nat → Prop} {O0 : List Nat} {w0 : World} {L : List Fact} {t kt ve : TypeId}
