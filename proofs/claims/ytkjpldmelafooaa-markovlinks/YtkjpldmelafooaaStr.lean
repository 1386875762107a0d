import Derived.Test.YtkjpldmelafooaaArr
import Derived.Test.YtkjpldmelafooaaObj
import Derived.Laws.IdiomMaps
set_option linter.all false
namespace Go.Proofs.Ytkjpldmelafooaa
namespace Ev
def b8 (n:Int):UInt8:=UInt8.ofNat n.toNat
def bA (xs:List Int):ByteArray:=⟨(xs.map b8).toArray⟩
section
variable {P : Program} {ρ : Operand → Value} {d : Option Tmp} {ty t1 t2 : TypeId} {pos : String} {af : Array Edge} {gd : Option (Nat × Bool)} {x y z : Operand} {w : World}
theorem pu_shr {s1 s2:TypeId} {k2:IntKind} {a b q:Int} (hx:ρ x=.int .i64 a) (hy:ρ y=.int k2 b) (h0:0≤b) (h1:b.toNat≤64) (hq:2 ^ b.toNat=q):Pu P ρ ⟨d,.binOp .shr s1 x y s2,ty,pos,af,gd⟩ (.int .i64 (a/ q)):=fun w=>by
  unfold Yv
  have hb:min b.toNat (IntKind.i64.bits)=b.toNat:=Nat.min_eq_left h1
  subst hq
  simp [execOp,hx,hy,go_sem,Op.shift,hb,show¬b<0 by omega]
def w8 (a:Int):Int:=a%256
variable {I : Nat → Prop} {O0 : List Nat} {w0 : World} {L : List Fact} {t kt ve : TypeId}
