import Derived.Test.YtkjpldmelafooaaArr
import Derived.Test.YtkjpldmelafooaaObj
import Derived.Laws.IdiomMaps
set_option linter.all false
namespace Go.Proofs.Ytkjpldmelafooaa
namespace Ev
def kv2 (k:Int×Int):Value:=.agg #[.int .i64 k.1,.int .i64 k.2]
section
variable {P : Program} {kt e ve t : TypeId} {it : TypeInfo}
theorem eq2 (w:World) (hu:P.underlying kt=some (.array 2 e)) (hi:P.info? e=some it) (hc:P.cellsOf e=1) (he:P.underlying e=some (.int .i64)) (ha: ∀w,(isAgg e).run P w=.ok false w) (k k':Int×Int):
    (Op.equal kt (kv2 k) (kv2 k')).run P w=.ok (decide (k=k')) w:=by
  have h1:=run_equalIn_array (P:=P) w 9999 #[.int .i64 k.1,.int .i64 k.2] #[.int .i64 k'.1,.int .i64 k'.2] hu hi
  rw [hc,show List.range 2=[0,1] from rfl,eqI_cons (k:=9998) (j:=0) he ha (a:=k.1) (b:=k'.1) rfl rfl (fun w=>eqI_cons (k:=9998) (j:=1) he ha (a:=k.2) (b:=k'.2) rfl rfl (fun w=>eqI_nil w) w) w] at h1
  unfold Op.equal kv2
  rw [show Op.maxDepth=9999+1 from rfl,h1]
  congr 1
  obtain ⟨a,b⟩:=k
  obtain ⟨a',b'⟩:=k'
  simp only [Prod.mk.injEq]
  by_cases e1:a=a'<;>by_cases e2:b=b'<;>simp [e1,e2]
theorem check2n (n:Nat) (w:World) (emp:Bool) (hu:P.underlying kt=some (.array 2 e)) (hs: ∀w,(sizeOf e).run P w=.ok 1 w) (he:P.underlying e=some (.int .i64)) (ha: ∀w,(isAgg e).run P w=.ok false w) (k:Int×Int):
    (Instr.checkKey emp (n+2) kt (kv2 k)).run P w=.ok () w:=by
  have h1: ∀(w:World) (z:Int),(Instr.checkKey emp (n+1) e (.int .i64 z)).run P w=.ok () w:=fun w z=>by
    simp [Instr.checkKey,run_underlying he]
  unfold kv2
  rw [Instr.checkKey]
  simp only [Sem.run_bind,run_underlying hu,Result.andThen_ok]
  simp [Std.Legacy.Range.forIn_eq_forIn_range',Std.Legacy.Range.size,List.range',hs,part,ha,h1]
theorem check2 (w:World) (emp:Bool) (hu:P.underlying kt=some (.array 2 e)) (hs: ∀w,(sizeOf e).run P w=.ok 1 w) (he:P.underlying e=some (.int .i64)) (ha: ∀w,(isAgg e).run P w=.ok false w) (k:Int×Int):
    (Instr.checkKey emp 10000 kt (kv2 k)).run P w=.ok () w:=check2n 9998 w emp hu hs he ha k
variable {ρ : Operand → Value} {d : Option Tmp} {ty : TypeId} {pos : String} {af : Array Edge} {gd : Option (Nat × Bool)} {x y z : Operand}
variable {I : Nat → Prop} {O0 : List Nat} {w0 w : World} {L : List Fact}
