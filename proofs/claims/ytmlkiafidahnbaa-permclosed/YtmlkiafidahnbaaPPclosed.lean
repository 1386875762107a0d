/- PermClosed: the classes of at most five points, one by one. -/
import Derived.Test.YtmlkiafidahnbaaPPperm
import Derived.Test.YtmlkiafidahnbaaPPawake
set_option linter.unusedVariables false
set_option linter.unusedSimpArgs false
namespace Go.Proofs.Ytmlkiafidahnbaa
open Ev Gar
/-- The points, the type, and the permutations of each class. -/
def clsTab : List (Int × List Int × List (List Int)) := [
  (1, [1], [[0]]),
  (2, [2], [[1,0]]),
  (2, [1,1], [[0,1]]),
  (3, [3], [[1,2,0],[2,0,1]]),
  (3, [2,1], [[0,2,1],[1,0,2],[2,1,0]]),
  (3, [1,1,1], [[0,1,2]]),
  (4, [4], [[1,2,3,0],[1,3,0,2],[2,0,3,1],[2,3,1,0],[3,0,1,2],[3,2,0,1]]),
  (4, [3,1], [[0,2,3,1],[0,3,1,2],[1,2,0,3],[1,3,2,0],[2,0,1,3],[2,1,3,0],[3,0,2,1],[3,1,0,2]]),
  (4, [2,2], [[1,0,3,2],[2,3,0,1],[3,2,1,0]]),
  (4, [2,1,1], [[0,1,3,2],[0,2,1,3],[0,3,2,1],[1,0,2,3],[2,1,0,3],[3,1,2,0]]),
  (4, [1,1,1,1], [[0,1,2,3]]),
  (5, [5], [[1,2,3,4,0],[1,2,4,0,3],[1,3,0,4,2],[1,3,4,2,0],[1,4,0,2,3],[1,4,3,0,2],[2,0,3,4,1],[2,0,4,1,3],[2,3,1,4,0],[2,3,4,0,1],[2,4,1,0,3],[2,4,3,1,0],[3,0,1,4,2],[3,0,4,2,1],[3,2,0,4,1],[3,2,4,1,0],[3,4,0,1,2],[3,4,1,2,0],[4,0,1,2,3],[4,0,3,1,2],[4,2,0,1,3],[4,2,3,0,1],[4,3,0,2,1],[4,3,1,0,2]]),
  (5, [4,1], [[0,2,3,4,1],[0,2,4,1,3],[0,3,1,4,2],[0,3,4,2,1],[0,4,1,2,3],[0,4,3,1,2],[1,2,3,0,4],[1,2,4,3,0],[1,3,0,2,4],[1,3,2,4,0],[1,4,0,3,2],[1,4,2,0,3],[2,0,3,1,4],[2,0,4,3,1],[2,1,3,4,0],[2,1,4,0,3],[2,3,1,0,4],[2,4,1,3,0],[3,0,1,2,4],[3,0,2,4,1],[3,1,0,4,2],[3,1,4,2,0],[3,2,0,1,4],[3,4,2,1,0],[4,0,1,3,2],[4,0,2,1,3],[4,1,0,2,3],[4,1,3,0,2],[4,2,0,3,1],[4,3,2,0,1]]),
  (5, [3,2], [[1,0,3,4,2],[1,0,4,2,3],[1,2,0,4,3],[1,3,4,0,2],[1,4,3,2,0],[2,0,1,4,3],[2,3,0,4,1],[2,3,4,1,0],[2,4,0,1,3],[2,4,3,0,1],[3,0,4,1,2],[3,2,1,4,0],[3,2,4,0,1],[3,4,0,2,1],[3,4,1,0,2],[4,0,3,2,1],[4,2,1,0,3],[4,2,3,1,0],[4,3,0,1,2],[4,3,1,2,0]]),
  (5, [3,1,1], [[0,1,3,4,2],[0,1,4,2,3],[0,2,3,1,4],[0,2,4,3,1],[0,3,1,2,4],[0,3,2,4,1],[0,4,1,3,2],[0,4,2,1,3],[1,2,0,3,4],[1,3,2,0,4],[1,4,2,3,0],[2,0,1,3,4],[2,1,3,0,4],[2,1,4,3,0],[3,0,2,1,4],[3,1,0,2,4],[3,1,2,4,0],[4,0,2,3,1],[4,1,0,3,2],[4,1,2,0,3]]),
  (5, [2,2,1], [[0,2,1,4,3],[0,3,4,1,2],[0,4,3,2,1],[1,0,2,4,3],[1,0,3,2,4],[1,0,4,3,2],[2,1,0,4,3],[2,3,0,1,4],[2,4,0,3,1],[3,1,4,0,2],[3,2,1,0,4],[3,4,2,0,1],[4,1,3,2,0],[4,2,1,3,0],[4,3,2,1,0]]),
  (5, [2,1,1,1], [[0,1,2,4,3],[0,1,3,2,4],[0,1,4,3,2],[0,2,1,3,4],[0,3,2,1,4],[0,4,2,3,1],[1,0,2,3,4],[2,1,0,3,4],[3,1,2,0,4],[4,1,2,3,0]]),
  (5, [1,1,1,1,1], [[0,1,2,3,4]])]
def closedB (l : List (List Int)) : Option Bool := (F.perm_Conjugation 200000000 l).bind fun y => cond (decide (y.2 = 0)) (cond (decide ((y.1.length : Int) = (l.length : Int))) (F.quandle_Valid 200000000 y.1) (some false)) (some false)
set_option maxRecDepth 100000 in
theorem tab_class : ∀ q ∈ clsTab, F.perm_Class 200000000 q.1 q.2.1 = some (q.2.2, 0) := by decide +kernel
set_option maxRecDepth 100000 in
theorem tab_closed : ∀ q ∈ clsTab, q.2.2 ≠ [] ∧ (q.2.2.length ≤ 24 → closedB q.2.2 = some true) := by decide +kernel
set_option maxRecDepth 100000 in
theorem tab_type : ∀ q ∈ clsTab, ∀ p ∈ q.2.2, (p.length : Int) = q.1 ∧ F.perm_Type 200000000 p = some q.2.1 ∧ F.slices_ContainsFunc_Perm_Perm_law30_PermClosed_c1 200000000 q.2.2 p = some true := by decide +kernel
/-- All lists of n numbers below m. -/
def tup (m : Nat) : Nat → List (List Int)
  | 0 => [[]]
  | n + 1 => (tup m n).flatMap fun t => (List.range m).map fun (a : Nat) => (a : Int) :: t
theorem mem_tup (m : Nat) : ∀ (p : List Int), (∀ x ∈ p, 0 ≤ x ∧ x < (m : Int)) → p ∈ tup m p.length
  | [], _ => by simp [tup]
  | a :: t, h => by
    have ih := mem_tup m t fun x hx => h x (List.mem_cons_of_mem _ hx)
    have ha := h a List.mem_cons_self
    rw [List.length_cons]
    unfold tup
    exact List.mem_flatMap.2 ⟨t, ih, List.mem_map.2 ⟨a.toNat, List.mem_range.2 (by omega), by rw [Int.toNat_of_nonneg ha.1]⟩⟩
set_option maxRecDepth 100000 in
theorem tup_tab : ∀ n ∈ [1, 2, 3, 4, 5], ∀ p ∈ tup n n, p.Nodup → ∃ q ∈ clsTab, p ∈ q.2.2 := by decide +kernel
theorem all_tab {p : List Int} (h : IsP p) (h1 : 1 ≤ p.length) (h5 : p.length ≤ 5) : ∃ q ∈ clsTab, p ∈ q.2.2 := by
  have hm : p.length ∈ [1, 2, 3, 4, 5] := by
    have : p.length = 1 ∨ p.length = 2 ∨ p.length = 3 ∨ p.length = 4 ∨ p.length = 5 := by omega
    rcases this with e | e | e | e | e <;> rw [e] <;> decide
  exact tup_tab p.length hm p (mem_tup p.length p h.rng) h.nodup
theorem law30_PermClosed_true (x0 : List Int) (o0 : Ev.Sh.ok (.sl (.int .i64)) x0) : ∃ n, F.law30_PermClosed n x0 = some true := by
  refine ⟨200000000, ?_⟩
  unfold F.law30_PermClosed
  rw [awake30, Option.bind_some, Bool.not_true, cond_false]
  by_cases h1 : (x0.length : Int) < 1
  · rw [decide_eq_true h1]; rfl
  rw [decide_eq_false h1, cond_false]
  by_cases h5 : (5 : Int) < x0.length
  · rw [decide_eq_true h5]; rfl
  rw [decide_eq_false h5, cond_false]
  obtain ⟨r, hr, hv⟩ := permValid (p := x0) 200000000 (by omega) (by omega)
  rw [hr, Option.bind_some]
  cases r with
  | false => rfl
  | true =>
    obtain ⟨q, hq, hp⟩ := all_tab (hv.1 rfl) (by omega) (by omega)
    obtain ⟨t1, t2, t3⟩ := tab_type q hq x0 hp
    obtain ⟨c1, c2⟩ := tab_closed q hq
    have hcl := tab_class q hq
    have hl : 0 < q.2.2.length := List.length_pos_iff.2 c1
    rw [Bool.not_true, cond_false, t2, Option.bind_some, t1, hcl, Option.bind_some]
    dsimp only
    rw [decide_eq_true rfl, Bool.not_true, cond_false, decide_eq_false (by omega), cond_false]
    unfold F.law30_PermClosed_j0
    by_cases h24 : (24 : Int) < q.2.2.length
    · rw [decide_eq_true h24, cond_true]
      dsimp only
      rw [decide_eq_true rfl, cond_true, decide_eq_true (by omega)]
    · rw [decide_eq_false h24, cond_false]
      have hb := c2 (by omega)
      unfold closedB at hb
      cases hc : F.perm_Conjugation 200000000 q.2.2 with
      | none => rw [hc] at hb; cases hb
      | some y =>
        rw [hc, Option.bind_some] at hb
        rw [Option.bind_some]
        by_cases e0 : y.2 = 0
        · rw [decide_eq_true e0, cond_true] at hb ⊢
          by_cases e1 : (y.1.length : Int) = (q.2.2.length : Int)
          · rw [decide_eq_true e1, cond_true] at hb ⊢
            rw [hb, Option.bind_some, cond_true, t3]; rfl
          · rw [decide_eq_false e1] at hb; cases hb
        · rw [decide_eq_false e0] at hb; cases hb
end Go.Proofs.Ytmlkiafidahnbaa
