import Derived.Test.YtlkmcbgkohpmiaaArr
import Derived.Test.YtlkmcbgkohpmiaaObj
import Derived.Laws.IdiomMaps
set_option linter.all false
namespace Go.Proofs.Ytlkmcbgkohpmiaa
namespace Ev
section
variable {P : Program} {kt e ve t : TypeId} {it : TypeInfo}
variable {ρ : Operand → Value} {d : Option Tmp} {ty : TypeId} {pos : String} {af : Array Edge} {gd : Option (Nat × Bool)} {x y z : Operand}
variable {I : Nat → Prop} {O0 : List Nat} {w0 w : World} {L : List Fact}
def nok (o:Option Int):Option Unit:=match o with | none=>some () | some _=>none
theorem nok_some {o:Option Int} {u:Unit} (h:nok o=some u):o=none:=by
  cases o with
  | none=>rfl
  | some _=>cases h
