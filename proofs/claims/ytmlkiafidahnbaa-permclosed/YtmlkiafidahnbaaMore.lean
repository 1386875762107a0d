/- Closures that hold variables; sums that wrap. -/
import Derived.Test.YtmlkiafidahnbaaCall
import Derived.Laws.StructEq
import Derived.KernelRfl
set_option linter.unusedVariables false
namespace Go.Proofs.Ytmlkiafidahnbaa
namespace Ev
section
variable {P : Program} {ρ : Operand → Value} {d : Option Tmp} {t : TypeId} {pos : String} {af : Array Edge} {g : Option (Nat × Bool)} {x y c : Operand} {v : Value} {w : World} {a b : Int}
theorem pu_funcc {fn : Fn} {ca : Array Operand} {l : List Value} (h : ca.toList.map ρ = l) : Pu P ρ ⟨d, .makeFunc fn #[] ca, t, pos, af, g⟩ (.func fn #[] l.toArray) := fun w => by
  have e : ca.map ρ = l.toArray := Array.ext' (by rw [Array.toList_map]; exact h)
  unfold Yv; simp [execOp, Instr.makeFunc, e]
theorem m2_nil : ([] : List Operand).map ρ = [] := rfl
theorem m2_cons {l : List Operand} {vs : List Value} (h : ρ x = v) (k : l.map ρ = vs) : (x :: l).map ρ = v :: vs := by rw [List.map_cons, h, k]
theorem map_of {l : List Operand} {vs : List Value} (h : l.map ρ = vs) : l.map ρ = vs := h
theorem mapc_of {l : List Operand} {ca : Array Value} {as vs : List Value} (h : l.map ρ = as) (e : as ++ ca.toList = vs) : (#[] : Array Value).toList ++ l.map ρ ++ ca.toList = vs := by
  rw [h]; simpa using e
theorem Wc.fresh {r : Option Nat} {m : Bool} {N : Nat} {nrm rt : Asn} {ex : List (Nat × Asn)} {E : Env} {c : Code} (h : ∀ E2 : Nat → Value, E2 = E.f → WcM r m P N c nrm rt ex ⟨E2, E.ms⟩ w) : WcM r m P N c nrm rt ex E w := h E.f rfl
theorem small_u8 {a : Int} (h : IntKind.u8.wrap a = a) : I64 a := by unfold I64; simp [IntKind.wrap, IntKind.signed, IntKind.bits] at h; omega
theorem small_u16 {a : Int} (h : IntKind.u16.wrap a = a) : I64 a := by unfold I64; simp [IntKind.wrap, IntKind.signed, IntKind.bits] at h; omega
theorem small_u32 {a : Int} (h : IntKind.u32.wrap a = a) : I64 a := by unfold I64; simp [IntKind.wrap, IntKind.signed, IntKind.bits] at h; omega
theorem small_i8 {a : Int} (h : IntKind.i8.wrap a = a) : I64 a := by unfold I64; simp [IntKind.wrap, IntKind.signed, IntKind.bits] at h; omega
theorem small_i16 {a : Int} (h : IntKind.i16.wrap a = a) : I64 a := by unfold I64; simp [IntKind.wrap, IntKind.signed, IntKind.bits] at h; omega
theorem small_i32 {a : Int} (h : IntKind.i32.wrap a = a) : I64 a := by unfold I64; simp [IntKind.wrap, IntKind.signed, IntKind.bits] at h; omega
theorem pu_remk {P : Program} {ρ : Operand → Value} {d : Option Tmp} {t t1 t2 : TypeId} {pos : String} {af : Array Edge} {g : Option (Nat × Bool)} {x y : Operand} {a b : Int} {k : IntKind} (h0 : b ≠ 0) (hx : ρ x = .int k a) (hy : ρ y = .int k b) : Pu P ρ ⟨d, .binOp .rem t1 x y t2, t, pos, af, g⟩ (.int k (a.tmod b)) := fun w => by
  unfold Yv; simp [execOp, hx, hy, go_sem, Op.intDiv, h0]
theorem tmod_small {a b : Int} (h : 0 ≤ a) : 0 ≤ a.tmod b ∧ a.tmod b ≤ a := by
  have h1 := Int.tmod_nonneg b h
  have h2 := Int.natAbs_tmod a b
  have h3 : (a.tmod b).natAbs ≤ a.natAbs := by rw [h2]; exact Nat.mod_le _ _
  omega
theorem wrap_rem_u8 {a b : Int} (h : IntKind.u8.wrap a = a) : IntKind.u8.wrap (a.tmod b) = a.tmod b := by
  simp [IntKind.wrap, IntKind.signed, IntKind.bits] at h ⊢
  have := tmod_small (a := a) (b := b) (by omega)
  omega
theorem wrap_rem_u16 {a b : Int} (h : IntKind.u16.wrap a = a) : IntKind.u16.wrap (a.tmod b) = a.tmod b := by
  simp [IntKind.wrap, IntKind.signed, IntKind.bits] at h ⊢
  have := tmod_small (a := a) (b := b) (by omega)
  omega
theorem wrap_rem_u32 {a b : Int} (h : IntKind.u32.wrap a = a) : IntKind.u32.wrap (a.tmod b) = a.tmod b := by
  simp [IntKind.wrap, IntKind.signed, IntKind.bits] at h ⊢
  have := tmod_small (a := a) (b := b) (by omega)
  omega
/-- Sums that wrap. -/
def wr (z : Int) : Int := IntKind.i64.wrap z
theorem I64_wr (z : Int) : I64 (wr z) := by unfold wr; rw [IntKind.wrap_i64]; unfold I64; omega
theorem wr_of {z : Int} (h : -9223372036854775808 ≤ z ∧ z ≤ 9223372036854775807) : wr z = z := I64.wrap h
theorem pu_addw {t1 t2 : TypeId} (hx : ρ x = .int .i64 a) (hy : ρ y = .int .i64 b) : Pu P ρ ⟨d, .binOp .add t1 x y t2, t, pos, af, g⟩ (.int .i64 (wr (a + b))) := fun w => by
  unfold Yv; simp [execOp, hx, hy, go_sem, Op.intArith, wr]
theorem pu_subw {t1 t2 : TypeId} (hx : ρ x = .int .i64 a) (hy : ρ y = .int .i64 b) : Pu P ρ ⟨d, .binOp .sub t1 x y t2, t, pos, af, g⟩ (.int .i64 (wr (a - b))) := fun w => by
  unfold Yv; simp [execOp, hx, hy, go_sem, Op.intArith, wr]
theorem pu_mulw {t1 t2 : TypeId} (hx : ρ x = .int .i64 a) (hy : ρ y = .int .i64 b) : Pu P ρ ⟨d, .binOp .mul t1 x y t2, t, pos, af, g⟩ (.int .i64 (wr (a * b))) := fun w => by
  unfold Yv; simp [execOp, hx, hy, go_sem, Op.intArith, wr]
theorem pu_negw {t1 : TypeId} (hx : ρ x = .int .i64 a) : Pu P ρ ⟨d, .unOp .neg t1 x, t, pos, af, g⟩ (.int .i64 (wr (-a))) := fun w => by
  unfold Yv; simp [execOp, hx, go_sem, Op.intArith, wr]
/-! Structs compared. -/
theorem eqF_nil {k : Nat} {xs ys : Array Value} (w : World) : (Op.eqFields k xs ys []).run P w = .ok true w := by simp [Op.eqFields]
theorem part_one {t : TypeId} {xs : Array Value} {o : Nat} {v : Value} (ha : ∀ w, (isAgg t).run P w = .ok false w) (h : xs[o]? = some v) (w : World) : (part t xs o).run P w = .ok v w := by
  simp [part, ha, h]
theorem eqF_cons {f : Field} {fs : List Field} {k : Nat} {kd : IntKind} {xs ys : Array Value} {a b : Int} {q : Bool} (hn : f.name ≠ "_") (hu : P.underlying f.type = some (.int kd)) (ha : ∀ w, (isAgg f.type).run P w = .ok false w)
    (hx : xs[f.offset]? = some (.int kd a)) (hy : ys[f.offset]? = some (.int kd b)) (h : ∀ w, (Op.eqFields (k + 1) xs ys fs).run P w = .ok q w) (w : World) : (Op.eqFields (k + 1) xs ys (f :: fs)).run P w = .ok (decide (a = b) && q) w := by
  simp only [Op.eqFields, if_pos hn, Sem.run_bind, part_one ha hx, part_one ha hy, Result.andThen_ok, run_equalIn_int w k f.type kd kd a b hu]
  by_cases e : a = b
  · simp [e, h]
  · simp [e]
theorem eqF_consb {f : Field} {fs : List Field} {k : Nat} {xs ys : Array Value} {a b : Bool} {q : Bool} (hn : f.name ≠ "_") (hu : P.underlying f.type = some .bool) (ha : ∀ w, (isAgg f.type).run P w = .ok false w)
    (hx : xs[f.offset]? = some (.bool a)) (hy : ys[f.offset]? = some (.bool b)) (h : ∀ w, (Op.eqFields (k + 1) xs ys fs).run P w = .ok q w) (w : World) : (Op.eqFields (k + 1) xs ys (f :: fs)).run P w = .ok ((a == b) && q) w := by
  simp only [Op.eqFields, if_pos hn, Sem.run_bind, part_one ha hx, part_one ha hy, Result.andThen_ok, run_equalIn_bool' w k f.type a b hu]
  cases a <;> cases b <;> simp [h]
theorem pu_eqls {t1 t2 : TypeId} {xs ys : Array Value} {fs : Array Field} {q : Bool} (ht : P.underlying t1 = some (.struct fs)) (hp : P.stoodInHeld t1 = false) (hm : P.eqGuardType P.depth t1 = false) (hx : ρ x = .agg xs) (hy : ρ y = .agg ys)
    (h : ∀ w, (Op.eqFields 9999 xs ys fs.toList).run P w = .ok q w) : Pu P ρ ⟨d, .binOp .eql t1 x y t2, t, pos, af, g⟩ (.bool q) := fun w => by
  have hf : P.fieldsOf t1 = fs := by simp [Program.fieldsOf, ht]
  have h1 := run_equalIn_struct w 9999 t1 xs ys (by rw [hf]; exact ht) hp
  rw [hf, h] at h1
  unfold Yv
  simp [execOp, hx, hy, run_eqGuard_agg w .eql t1 x y xs ys hm, run_eql_struct, h1]
theorem pu_neqs {t1 t2 : TypeId} {xs ys : Array Value} {fs : Array Field} {q : Bool} (ht : P.underlying t1 = some (.struct fs)) (hp : P.stoodInHeld t1 = false) (hm : P.eqGuardType P.depth t1 = false) (hx : ρ x = .agg xs) (hy : ρ y = .agg ys)
    (h : ∀ w, (Op.eqFields 9999 xs ys fs.toList).run P w = .ok q w) : Pu P ρ ⟨d, .binOp .neq t1 x y t2, t, pos, af, g⟩ (.bool (!q)) := fun w => by
  have hf : P.fieldsOf t1 = fs := by simp [Program.fieldsOf, ht]
  have h1 := run_equalIn_struct w 9999 t1 xs ys (by rw [hf]; exact ht) hp
  rw [hf, h] at h1
  unfold Yv
  simp [execOp, hx, hy, run_eqGuard_agg w .neq t1 x y xs ys hm, run_neq_struct, h1]
end
theorem gcomm0 {α β γ : Type} (o1 : Option α) (o2 : Option β) (f : α → β → Option γ) : (o1.bind fun u => o2.bind fun v => f u v) = o2.bind fun v => o1.bind fun u => f u v := by cases o1 <;> cases o2 <;> rfl
theorem gcomm1 {δ α β γ : Type} (o : Option δ) (o1 : δ → Option α) (o2 : δ → Option β) (f : δ → α → β → Option γ) : (o.bind fun a => (o1 a).bind fun u => (o2 a).bind fun v => f a u v) = o.bind fun a => (o2 a).bind fun v => (o1 a).bind fun u => f a u v := by
  cases o with
  | none => rfl
  | some a => exact gcomm0 _ _ _
theorem gcomm2 {ε δ α β γ : Type} (p : Option ε) (o : ε → Option δ) (o1 : ε → δ → Option α) (o2 : ε → δ → Option β) (f : ε → δ → α → β → Option γ) : (p.bind fun e => (o e).bind fun a => (o1 e a).bind fun u => (o2 e a).bind fun v => f e a u v) = p.bind fun e => (o e).bind fun a => (o2 e a).bind fun v => (o1 e a).bind fun u => f e a u v := by
  cases p with
  | none => rfl
  | some a => exact gcomm1 _ _ _ _
theorem gcomm3 {ζ ε δ α β γ : Type} (q : Option ζ) (p : ζ → Option ε) (o : ζ → ε → Option δ) (o1 : ζ → ε → δ → Option α) (o2 : ζ → ε → δ → Option β) (f : ζ → ε → δ → α → β → Option γ) : (q.bind fun z => (p z).bind fun e => (o z e).bind fun a => (o1 z e a).bind fun u => (o2 z e a).bind fun v => f z e a u v) = q.bind fun z => (p z).bind fun e => (o z e).bind fun a => (o2 z e a).bind fun v => (o1 z e a).bind fun u => f z e a u v := by
  cases q with
  | none => rfl
  | some a => exact gcomm2 _ _ _ _ _
end Ev
end Go.Proofs.Ytmlkiafidahnbaa
