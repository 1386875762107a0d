/- Maps from pairs of ints to ints. -/
import Derived.Test.YtmlkiafidahnbaaArr
import Derived.Test.YtmlkiafidahnbaaObj
import Derived.Laws.IdiomMaps
set_option linter.unusedVariables false
namespace Go.Proofs.Ytmlkiafidahnbaa
namespace Ev
def kv2 (k : Int × Int) : Value := .agg #[.int .i64 k.1, .int .i64 k.2]
def ents : List ((Int × Int) × Int) → Nat → List MapEntry
  | [], _ => []
  | p :: r, i => { key := kv2 p.1, val := .int .i64 p.2, born := i } :: ents r (i + 1)
def mget : List ((Int × Int) × Int) → Int × Int → Option Int
  | [], _ => none
  | p :: r, k => if k = p.1 then some p.2 else mget r k
theorem ents_len : ∀ (m : List ((Int × Int) × Int)) (i : Nat), (ents m i).length = m.length
  | [], _ => rfl
  | _ :: r, i => by simp [ents, ents_len r]
theorem ents_snoc : ∀ (m : List ((Int × Int) × Int)) (i : Nat) (p : (Int × Int) × Int), ents (m ++ [p]) i = ents m i ++ [{ key := kv2 p.1, val := .int .i64 p.2, born := i + m.length }]
  | [], i, p => by simp [ents]
  | q :: r, i, p => by simp [ents, ents_snoc r (i + 1) p, Nat.add_assoc, Nat.add_comm 1]
section
variable {P : Program} {kt e ve t : TypeId} {it : TypeInfo}
theorem eq2 (w : World) (hu : P.underlying kt = some (.array 2 e)) (hi : P.info? e = some it) (hc : P.cellsOf e = 1) (he : P.underlying e = some (.int .i64)) (ha : ∀ w, (isAgg e).run P w = .ok false w) (k k' : Int × Int) :
    (Op.equal kt (kv2 k) (kv2 k')).run P w = .ok (decide (k = k')) w := by
  have h1 := run_equalIn_array (P := P) w 9999 #[.int .i64 k.1, .int .i64 k.2] #[.int .i64 k'.1, .int .i64 k'.2] hu hi
  rw [hc, show List.range 2 = [0, 1] from rfl, eqI_cons (k := 9998) (j := 0) he ha (a := k.1) (b := k'.1) rfl rfl (fun w => eqI_cons (k := 9998) (j := 1) he ha (a := k.2) (b := k'.2) rfl rfl (fun w => eqI_nil w) w) w] at h1
  unfold Op.equal kv2
  rw [show Op.maxDepth = 9999 + 1 from rfl, h1]
  congr 1
  obtain ⟨a, b⟩ := k
  obtain ⟨a', b'⟩ := k'
  simp only [Prod.mk.injEq]
  by_cases e1 : a = a' <;> by_cases e2 : b = b' <;> simp [e1, e2]
theorem check2n (n : Nat) (w : World) (emp : Bool) (hu : P.underlying kt = some (.array 2 e)) (hs : ∀ w, (sizeOf e).run P w = .ok 1 w) (he : P.underlying e = some (.int .i64)) (ha : ∀ w, (isAgg e).run P w = .ok false w) (k : Int × Int) :
    (Instr.checkKey emp (n + 2) kt (kv2 k)).run P w = .ok () w := by
  have h1 : ∀ (w : World) (z : Int), (Instr.checkKey emp (n + 1) e (.int .i64 z)).run P w = .ok () w := fun w z => by
    simp [Instr.checkKey, run_underlying he]
  unfold kv2
  rw [Instr.checkKey]
  simp only [Sem.run_bind, run_underlying hu, Result.andThen_ok]
  simp [Std.Legacy.Range.forIn_eq_forIn_range', Std.Legacy.Range.size, List.range', hs, part, ha, h1]
theorem check2 (w : World) (emp : Bool) (hu : P.underlying kt = some (.array 2 e)) (hs : ∀ w, (sizeOf e).run P w = .ok 1 w) (he : P.underlying e = some (.int .i64)) (ha : ∀ w, (isAgg e).run P w = .ok false w) (k : Int × Int) :
    (Instr.checkKey emp 10000 kt (kv2 k)).run P w = .ok () w := check2n 9998 w emp hu hs he ha k
theorem ask2 (w : World) (hu : P.underlying kt = some (.array 2 e)) (hi : P.info? e = some it) (hc : P.cellsOf e = 1) (he : P.underlying e = some (.int .i64)) (ha : ∀ w, (isAgg e).run P w = .ok false w) (k : Int × Int) :
    ∀ (m : List ((Int × Int) × Int)) (i j : Nat), (∃ q, (Instr.findAsking kt (kv2 k) (ents m i) j).run P w = .ok (some (q, .int .i64 ((mget m k).getD 0))) w ∧ mget m k ≠ none) ∨ ((Instr.findAsking kt (kv2 k) (ents m i) j).run P w = .ok none w ∧ mget m k = none)
  | [], i, j => .inr ⟨by simp [ents, Instr.findAsking], rfl⟩
  | p :: r, i, j => by
    unfold ents Instr.findAsking mget
    simp only [Sem.run_bind, eq2 w hu hi hc he ha, Result.andThen_ok]
    by_cases h : k = p.1
    · rw [if_pos h]
      exact .inl ⟨j, by simp [h], by simp⟩
    · rw [if_neg h]
      have := ask2 w hu hi hc he ha k r (i + 1) (j + 1)
      simpa [h] using this
theorem find2 (w : World) (hu : P.underlying kt = some (.array 2 e)) (hi : P.info? e = some it) (hc : P.cellsOf e = 1) (he : P.underlying e = some (.int .i64)) (ha : ∀ w, (isAgg e).run P w = .ok false w) (k : Int × Int) (m : List ((Int × Int) × Int)) :
    (∃ q, (Instr.findKey kt (kv2 k) (ents m 0)).run P w = .ok (some (q, .int .i64 ((mget m k).getD 0))) w ∧ mget m k ≠ none) ∨ ((Instr.findKey kt (kv2 k) (ents m 0)).run P w = .ok none w ∧ mget m k = none) := by
  cases m with
  | nil => exact .inr ⟨by simp [Instr.findKey, run_underlying hu, ents, Instr.findNow], rfl⟩
  | cons p r =>
    have h := ask2 w hu hi hc he ha k (p :: r) 0 0
    have e1 : (Instr.findKey kt (kv2 k) (ents (p :: r) 0)).run P w = (Instr.findAsking kt (kv2 k) (ents (p :: r) 0) 0).run P w := by
      simp [Instr.findKey, run_underlying hu, ents, Instr.findNow, Instr.sameNow]
    rw [e1]
    exact h
variable {ρ : Operand → Value} {d : Option Tmp} {ty : TypeId} {pos : String} {af : Array Edge} {gd : Option (Nat × Bool)} {x y z : Operand}
variable {I : Nat → Prop} {O0 : List Nat} {w0 w : World} {L : List Fact}
/-- A map as it lies in memory. -/
def mobj (m : List ((Int × Int) × Int)) : Obj := .map (ents m 0).toArray m.length
theorem Cx.mkmap (h : Cx I O0 w0 w L) : Op P ρ ⟨d, .makeMap t none, ty, pos, af, gd⟩ w fun v w' => ∃ g, v = .map (some g) ∧ Cx I O0 w0 w' (.obj g (mobj []) :: L) ∧ Fr (fun _ => False) w w' := by
  refine ⟨.map (some w.heap.size), w.alloc (mobj []), ?_, w.heap.size, rfl, h.obj (mobj []), Fr.alloc w _ _⟩
  simp [execOp, Instr.makeMap]
  rfl
theorem lk2 {g : Nat} {m : List ((Int × Int) × Int)} {k : Int × Int} (hm : w.heap[g]? = some (mobj m)) (ht : P.underlying t = some (.map kt ve)) (hz : ∀ w, (zeroValue ve).run P w = .ok (.int .i64 0) w)
    (hu : P.underlying kt = some (.array 2 e)) (hi : P.info? e = some it) (hc : P.cellsOf e = 1) (hs : ∀ w, (sizeOf e).run P w = .ok 1 w) (he : P.underlying e = some (.int .i64)) (ha : ∀ w, (isAgg e).run P w = .ok false w) (hx : ρ x = .map (some g)) (hy : ρ y = .agg #[.int .i64 k.1, .int .i64 k.2]) :
    Yv P ρ ⟨d, .lookup t x y true, ty, pos, af, gd⟩ w (.tuple #[.int .i64 ((mget m k).getD 0), .bool (mget m k).isSome]) := by
  unfold Yv
  have hy2 : ρ y = kv2 k := hy
  have hg := MapKept.run_getObj_map (P := P) (r := g) (show w.heap[g]? = some (.map (ents m 0).toArray m.length) from hm)
  have hk := fun b => check2 (P := P) w b hu hs he ha k
  rcases find2 w hu hi hc he ha k m with ⟨q, h1, h2⟩ | ⟨h1, h2⟩
  · have h3 : (mget m k).isSome = true := Option.isSome_iff_ne_none.2 h2
    simp [execOp, hx, hy2, Instr.lookup, run_underlying ht, hg, hk, h1, Result.andThen, h3]
  · simp [execOp, hx, hy2, Instr.lookup, run_underlying ht, hg, hk, h1, Result.andThen, hz, h2]
theorem Cx.mput (h : Cx I O0 w0 w L) {i g : Nat} {m : List ((Int × Int) × Int)} {k : Int × Int} {v : Int} (hi' : L[i]? = some (.obj g (mobj m))) (hn : mget m k = none) (ht : P.underlying t = some (.map kt ve))
    (hu : P.underlying kt = some (.array 2 e)) (hi : P.info? e = some it) (hc : P.cellsOf e = 1) (hs : ∀ w, (sizeOf e).run P w = .ok 1 w) (he : P.underlying e = some (.int .i64)) (ha : ∀ w, (isAgg e).run P w = .ok false w) (hx : ρ x = .map (some g)) (hy : ρ y = .agg #[.int .i64 k.1, .int .i64 k.2]) (hz : ρ z = .int .i64 v) :
    Sk P ρ ⟨d, .mapUpdate t x y z, ty, pos, af, gd⟩ w fun w' => Cx I O0 w0 w' (L.set i (.obj g (mobj (m ++ [(k, v)])))) ∧ Fr (fun b => some g = some b) w w' := by
  have hm : w.heap[g]? = some (mobj m) := h.ob hi'
  have hg := MapKept.run_getObj_map (P := P) (r := g) (show w.heap[g]? = some (.map (ents m 0).toArray m.length) from hm)
  have hy2 : ρ y = kv2 k := hy
  have hk := fun b => check2 (P := P) w b hu hs he ha k
  have e1 : mobj (m ++ [(k, v)]) = .map ((ents m 0).toArray.push { key := kv2 k, val := .int .i64 v, born := m.length }) (m.length + 1) := by
    unfold mobj
    rw [ents_snoc]
    simp
  refine ⟨w.putObj g (mobj (m ++ [(k, v)])), ?_, h.setObj hi' _, Fr.putObj (S := fun b => some g = some b) w rfl _⟩
  rcases find2 w hu hi hc he ha k m with ⟨q, h1, h2⟩ | ⟨h1, h2⟩
  · exact absurd hn h2
  · rw [e1]
    have hset : ∀ o : Obj, (Go.setObj g o).run P w = .ok () (w.putObj g o) := fun o => by
      have hm' : w.heap[g]? = some (.map (ents m 0).toArray m.length) := hm
      simp [Go.setObj, Sem.run, hm', World.putObj]
    simp [execOp, hx, hy2, hz, Instr.mapUpdate, run_underlying ht, hg, hk, h1, Result.andThen, hset]
def nok (o : Option Int) : Option Unit := match o with | none => some () | some _ => none
theorem nok_some {o : Option Int} {u : Unit} (h : nok o = some u) : o = none := by
  cases o with
  | none => rfl
  | some _ => cases h
end
end Ev
end Go.Proofs.Ytmlkiafidahnbaa
