/- The plain laws of PermTells and PermGroup. -/
import Derived.Test.YtmlkiafidahnbaaPPtells
set_option linter.unusedVariables false
set_option linter.unusedSimpArgs false
namespace Go.Proofs.Ytmlkiafidahnbaa
open Ev
namespace Gar
theorem cyc_small {N : Nat} {f g : Nat → Nat} (h : Pm N f g) : ∀ c ∈ cyc N f N, c.length ≤ N := fun c hc => (cyc_len h N (Nat.le_refl N) c hc).2
theorem type_len {N : Nat} {f g : Nat → Nat} (h : Pm N f g) : (dsc (lens (cyc N f N)) N).length ≤ N := by
  have hc := (cyc_dec h N (Nat.le_refl N)).2.2
  have hle := cyc_len h N (Nat.le_refl N)
  rw [(dsc_perm fun x hx => by
    obtain ⟨c, hc, rfl⟩ := List.mem_map.1 hx
    have := hle c hc
    omega : (dsc (lens (cyc N f N)) N).Perm _).length_eq]
  unfold lens
  rw [List.length_map]
  exact hc
theorem tells_j0 {p : List Int} (hp : p.length ≤ 30) {b : Bool} (hb : F.perm_Valid 200000000 p = some b) : F.law30_PermTells_j0 200000000 p b = some true := by
  unfold F.law30_PermTells_j0
  rcases perm_cases (p := p) 200000000 (by omega) (by decide) with ⟨h1, f, g, hpm, he⟩ | ⟨h1, _⟩
  · rw [hb] at h1
    obtain rfl := Option.some.inj h1
    rw [Bool.not_true, cond_false]
    generalize hN : p.length = N at hpm he hp
    subst he
    have hcl := cyc_dec hpm N (Nat.le_refl N)
    rw [permInverse hpm _ (by omega) (by omega), Option.bind_some, refInverse hpm _ (by omega) (by omega), Option.bind_some, equalQ _ (by simp; omega) (by simp; omega), Option.bind_some, decide_eq_true rfl, cond_true,
      cycles_eq hpm (by omega) _ (by omega), Option.bind_some, refCycles_eq hpm (by omega) _ (by omega), Option.bind_some, refLists _ (by omega) (fun x hx => by have := cyc_small hpm x hx; omega) (by decide) (by omega), Option.bind_some, decide_eq_true rfl, cond_true,
      type_eq hpm (by omega) _ (by decide), Option.bind_some, refType_eq hpm (by omega) _ (by decide), Option.bind_some, equalZ _ (by have := type_len hpm; omega) (by have := type_len hpm; omega), Option.bind_some, decide_eq_true rfl, cond_true,
      sign_eq hpm (by omega) _ (by decide), Option.bind_some, refSign_eq (by omega) _ (by decide), Option.bind_some, decide_eq_true rfl]
  · rw [hb] at h1
    obtain rfl := Option.some.inj h1
    obtain ⟨k1, k2, k3, k4⟩ := bad_all (p := p) 200000000 hb (by decide)
    rw [k1, k2, k3, k4]
    rfl
theorem tells_bad {p q : List Int} (hp : p.length ≤ 30) {b : Bool} (hb : F.perm_Valid 200000000 p = some b) : F.law30_PermTells_j1 200000000 p q b ([], 1) true = some true := by
  unfold F.law30_PermTells_j1
  show F.law30_PermTells_j0 200000000 p b = some true
  exact tells_j0 hp hb
end Gar
open Gar in
theorem law30_PermTells_true (x0 x1 : List Int) (o0 : Ev.Sh.ok (.sl (.int .i64)) x0) (o1 : Ev.Sh.ok (.sl (.int .i64)) x1) : ∃ n, F.law30_PermTells n x0 x1 = some true := by
  refine ⟨200000000, ?_⟩
  unfold F.law30_PermTells
  rw [awake30, Option.bind_some, Bool.not_true, cond_false]
  by_cases h1 : 30 < (x0.length : Int)
  · rw [decide_eq_true h1]; rfl
  rw [decide_eq_false h1, cond_false]
  by_cases h2 : 30 < (x1.length : Int)
  · rw [decide_eq_true h2]; rfl
  rw [decide_eq_false h2, cond_false]
  rcases perm_cases (p := x0) 200000000 (by omega) (by decide) with ⟨hv, f, g, hpm, he⟩ | ⟨hv, _⟩
  · rw [ref_valid _ (by omega) (by decide) hv, Option.bind_some, hv, Option.bind_some]
    rw [show (!(true == true)) = false from rfl, cond_false]
    rcases perm_cases (p := x1) 200000000 (by omega) (by decide) with ⟨hw, f', g', hpm', he'⟩ | ⟨hw, _⟩
    · by_cases hl : x0.length = x1.length
      · rw [← hl] at hpm' he'
        generalize hN : x0.length = N at hpm he hpm' he' hl h1
        have hm : F.perm_Mul 200000000 x0 x1 = some (li N (fun k => f' (f k)), 0) := by rw [he, he']; exact mul_eq hpm hpm' _ (by omega) (by omega)
        have hrm : F.ref30_Mul 200000000 x0 x1 = some (li N (fun k => f' (f k))) := by rw [he, he']; exact refMul_eq hpm hpm' _ (by omega) (by omega)
        rw [hm, Option.bind_some, Bool.not_true, cond_false, ref_valid _ (by omega) (by decide) hw, Option.bind_some, Bool.not_true, cond_false, ← hl, decide_eq_true (by omega), Bool.not_true]
        unfold F.law30_PermTells_j1
        rw [cond_false, decide_eq_true rfl, Bool.not_true, cond_false, hrm, Option.bind_some, equalQ _ (by simp; omega) (by simp; omega), Option.bind_some, decide_eq_true rfl, Bool.not_true, cond_false]
        exact tells_j0 (by omega) hv
      · rw [mul_bad _ (by omega) (by omega) (by decide) (fun h => hl h.2.2), Option.bind_some, Bool.not_true, cond_false, ref_valid _ (by omega) (by decide) hw, Option.bind_some, Bool.not_true, cond_false, decide_eq_false (by omega), Bool.not_false]
        exact tells_bad (by omega) hv
    · rw [mul_bad _ (by omega) (by omega) (by decide) (fun h => by have := h.2.1; rw [hw] at this; cases this), Option.bind_some, Bool.not_true, cond_false, ref_valid _ (by omega) (by decide) hw, Option.bind_some, Bool.not_false, cond_true]
      exact tells_bad (by omega) hv
  · rw [ref_valid _ (by omega) (by decide) hv, Option.bind_some, hv, Option.bind_some]
    rw [show (!(false == false)) = false from rfl, cond_false, mul_bad _ (by omega) (by omega) (by decide) (fun h => by have := h.1; rw [hv] at this; cases this), Option.bind_some, Bool.not_false, cond_true]
    exact tells_bad (by omega) hv
end Go.Proofs.Ytmlkiafidahnbaa
