import Derived.Test.YtpnppjlnfhlmpaaGreatCall
import Derived.Laws.StructEq
import Derived.KernelRfl
set_option linter.all false
namespace Go.Proofs.YtpnppjlnfhlmpaaGreat
namespace Ev
section
variable {P : Program} {ρ : Operand → Value} {d : Option Tmp} {t : TypeId} {pos : String} {af : Array Edge} {g : Option (Nat × Bool)} {x y c : Operand} {v : Value} {w : World} {a b : Int}
theorem qgt {fn:Fn} {ca:Array Operand} {l:List Value} (h:ca.toList.map ρ=l):Pu P ρ ⟨d,.makeFunc fn #[] ca,t,pos,af,g⟩ (.func fn #[] l.toArray):=fun w=>by
  have e:ca.map ρ=l.toArray:=Array.ext' (by rw [Array.toList_map]; exact h)
  unfold Yv; simp [execOp,Instr.makeFunc,e]
theorem m2_nil:([]:List Operand).map ρ=[]:=rfl
theorem qcg {l:List Operand} {vs:List Value} (h:ρ x=v) (k:l.map ρ=vs):(x::l).map ρ=v::vs:=by rw [List.map_cons,h,k]
theorem map_of {l:List Operand} {vs:List Value} (h:l.map ρ=vs):l.map ρ=vs:=h
theorem Wc.fresh {r:Option Nat} {m:Bool} {N:Nat} {nrm rt:Asn} {ex:List (Nat×Asn)} {E:Env} {c:Code} (h: ∀E2:Nat→Value,E2=E.f→WcM r m P N c nrm rt ex ⟨E2,E.ms⟩ w):WcM r m P N c nrm rt ex E w:=h E.f rfl
theorem small_u8 {a:Int} (h:IntKind.u8.wrap a=a):I64 a:=by unfold I64; simp [IntKind.wrap,IntKind.signed,IntKind.bits] at h; omega
def wr (z:Int):Int:=IntKind.i64.wrap z
/-! Structs compared. -/
