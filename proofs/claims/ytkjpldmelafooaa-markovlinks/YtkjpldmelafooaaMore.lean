import Derived.Test.YtkjpldmelafooaaCall
import Derived.Laws.StructEq
import Derived.KernelRfl
set_option linter.all false
namespace Go.Proofs.Ytkjpldmelafooaa
namespace Ev
section
variable {P : Program} {ρ : Operand → Value} {d : Option Tmp} {t : TypeId} {pos : String} {af : Array Edge} {g : Option (Nat × Bool)} {x y c : Operand} {v : Value} {w : World} {a b : Int}
theorem qgw {fn:Fn} {ca:Array Operand} {l:List Value} (h:ca.toList.map ρ=l):Pu P ρ ⟨d,.makeFunc fn #[] ca,t,pos,af,g⟩ (.func fn #[] l.toArray):=fun w=>by
  have e:ca.map ρ=l.toArray:=Array.ext' (by rw [Array.toList_map]; exact h)
  unfold Yv; simp [execOp,Instr.makeFunc,e]
theorem m2_nil:([]:List Operand).map ρ=[]:=rfl
theorem m2_cons {l:List Operand} {vs:List Value} (h:ρ x=v) (k:l.map ρ=vs):(x::l).map ρ=v::vs:=by rw [List.map_cons,h,k]
theorem map_of {l:List Operand} {vs:List Value} (h:l.map ρ=vs):l.map ρ=vs:=h
theorem Wc.fresh {r:Option Nat} {m:Bool} {N:Nat} {nrm rt:Asn} {ex:List (Nat×Asn)} {E:Env} {c:Code} (h: ∀E2:Nat→Value,E2=E.f→WcM r m P N c nrm rt ex ⟨E2,E.ms⟩ w):WcM r m P N c nrm rt ex E w:=h E.f rfl
def wr (z:Int):Int:=IntKind.i64.wrap z
/-! Structs compared. -/
theorem eqF_nil {k:Nat} {xs ys:Array Value} (w:World):(Op.eqFields k xs ys []).run P w=.ok true w:=by simp [Op.eqFields]
theorem part_one {t:TypeId} {xs:Array Value} {o:Nat} {v:Value} (ha: ∀w,(isAgg t).run P w=.ok false w) (h:xs[o]? =some v) (w:World):(part t xs o).run P w=.ok v w:=by
  simp [part,ha,h]
theorem eqF_cons {f:Field} {fs:List Field} {k:Nat} {kd:IntKind} {xs ys:Array Value} {a b:Int} {q:Bool} (hn:f.name≠ "_") (hu:P.underlying f.type=some (.int kd)) (ha: ∀w,(isAgg f.type).run P w=.ok false w)
    (hx:xs[f.offset]? =some (.int kd a)) (hy:ys[f.offset]? =some (.int kd b)) (h: ∀w,(Op.eqFields (k+1) xs ys fs).run P w=.ok q w) (w:World):(Op.eqFields (k+1) xs ys (f::fs)).run P w=.ok (decide (a=b)&&q) w:=by
  simp only [Op.eqFields,if_pos hn,Sem.run_bind,part_one ha hx,part_one ha hy,Result.andThen_ok,run_equalIn_int w k f.type kd kd a b hu]
  by_cases e:a=b
  · simp [e,h]
  · simp [e]
theorem pu_eqls {t1 t2:TypeId} {xs ys:Array Value} {fs:Array Field} {q:Bool} (ht:P.underlying t1=some (.struct fs)) (hp:P.stoodInHeld t1=false) (hm:P.eqGuardType P.depth t1=false) (hx:ρ x=.agg xs) (hy:ρ y=.agg ys)
    (h: ∀w,(Op.eqFields 9999 xs ys fs.toList).run P w=.ok q w):Pu P ρ ⟨d,.binOp .eql t1 x y t2,t,pos,af,g⟩ (.bool q):=fun w=>by
  have hf:P.fieldsOf t1=fs:=by simp [Program.fieldsOf,ht]
  have h1:=run_equalIn_struct w 9999 t1 xs ys (by rw [hf]; exact ht) hp
  rw [hf,h] at h1
  unfold Yv
  simp [execOp,hx,hy,run_eqGuard_agg w .eql t1 x y xs ys hm,run_eql_struct,h1]
theorem pu_neqs {t1 t2:TypeId} {xs ys:Array Value} {fs:Array Field} {q:Bool} (ht:P.underlying t1=some (.struct fs)) (hp:P.stoodInHeld t1=false) (hm:P.eqGuardType P.depth t1=false) (hx:ρ x=.agg xs) (hy:ρ y=.agg ys)
    (h: ∀w,(Op.eqFields 9999 xs ys fs.toList).run P w=.ok q w):Pu P ρ ⟨d,.binOp .neq t1 x y t2,t,pos,af,g⟩ (.bool (!q)):=fun w=>by
  have hf:P.fieldsOf t1=fs:=by simp [Program.fieldsOf,ht]
  have h1:=run_equalIn_struct w 9999 t1 xs ys (by rw [hf]; exact ht) hp
  rw [hf,h] at h1
  unfold Yv
  simp [execOp,hx,hy,run_eqGuard_agg w .neq t1 x y xs ys hm,run_neq_struct,h1]
end
theorem gcomm0 {α β γ:Type} (o1:Option α) (o2:Option β) (f:α→β→Option γ):(o1.bind fun u=>o2.bind fun v=>f u v)=o2.bind fun v=>o1.bind fun u=>f u v:=by cases o1<;>cases o2<;>rfl
