/- What markov.Apply answers, in plain words. -/
import Derived.Test.YtkjpldmelafooaaPMbase
set_option linter.unusedVariables false
set_option linter.unusedSimpArgs false
namespace Go.Proofs.Ytkjpldmelafooaa
open Ev
abbrev Ans := Int × List Int × Int × Int × Int × Int
def er (e : Int) : Ans := (0, [], 0, 0, 0, e)
def fin (s : Int) (w : List Int) (k g a : Int) : Ans := if 10 < s then er 5 else if 200 < w.length then er 5 else (s, w, k, g, a, 0)
def isL (s g : Int) : Prop := g ≠ 0 ∧ -s < g ∧ g < s
instance (s g : Int) : Decidable (isL s g) := inferInstanceAs (Decidable (_ ∧ _ ∧ _))
def ab (x : Int) : Int := max x (-x)
def ok3 (s : Int) (w : List Int) : Bool := decide (2 ≤ s) && (decide (1 ≤ w.length) && (decide (ab (w.getD (w.length - 1) 0) = s - 1) && (w.take (w.length - 1)).all fun x => !decide (ab x = s - 1)))
theorem ok3_iff {s : Int} {w : List Int} : ok3 s w = true ↔ 2 ≤ s ∧ 1 ≤ w.length ∧ ab (w.getD (w.length - 1) 0) = s - 1 ∧ ∀ x ∈ w.take (w.length - 1), ab x ≠ s - 1 := by
  simp only [ok3, Bool.and_eq_true, decide_eq_true_eq, List.all_eq_true, Bool.not_eq_true', decide_eq_false_iff_not, ne_eq]
/-- The braid after a step, the inverse step, the error. -/
def stepS (s : Int) (w : List Int) (k g a : Int) : Ans :=
  if okB s w = false then er 1
  else if k < 1 then er 11 else if 7 < k then er 11
  else if k = 1 then
    if isL s g ∧ (a = 0 ∨ a = 1) then
      if a = 0 then fin s (g :: (w ++ [-g])) 1 (-g) 1
      else if 2 ≤ w.length ∧ w[0]? = some (-g) ∧ w[w.length - 1]? = some g then fin s ((w.drop 1).take (w.length - 2)) 1 (-g) 0 else er 6
    else er 2
  else if k = 2 then
    if (g = 1 ∨ g = -1) ∧ a = 0 then fin (s + 1) (w ++ [g * s]) 3 0 0 else er 2
  else if k = 3 then
    if g = 0 ∧ a = 0 then
      if ok3 s w = true then
        fin (s - 1) (w.take (w.length - 1)) 2 (if (w.getD (w.length - 1) 0) < 0 then -1 else 1) 0
      else er 6
    else er 2
  else if k = 6 then
    if isL s g ∧ 0 ≤ a ∧ a ≤ w.length then fin s (w.take a.toNat ++ [g, -g] ++ w.drop a.toNat) 7 0 a else er 2
  else if g = 0 ∧ 0 ≤ a ∧ a < w.length then
    if k = 4 then
      if a + 1 < w.length ∧ 2 ≤ ab (ab (w.getD a.toNat 0) - ab (w.getD (a.toNat + 1) 0)) then fin s (w.take a.toNat ++ [w.getD (a.toNat + 1) 0, w.getD a.toNat 0] ++ w.drop (a.toNat + 2)) 4 g a else er 6
    else if k = 5 then
      if a + 2 < w.length ∧ w.getD (a.toNat + 2) 0 = w.getD a.toNat 0 ∧ (0 < w.getD a.toNat 0 ↔ 0 < w.getD (a.toNat + 1) 0) ∧ ab (w.getD a.toNat 0 - w.getD (a.toNat + 1) 0) = 1 then
        fin s (w.take a.toNat ++ [w.getD (a.toNat + 1) 0, w.getD a.toNat 0, w.getD (a.toNat + 1) 0] ++ w.drop (a.toNat + 3)) 5 g a
      else er 6
    else
      if a + 1 < w.length ∧ w.getD (a.toNat + 1) 0 = - w.getD a.toNat 0 then fin s (w.take a.toNat ++ w.drop (a.toNat + 2)) 6 (w.getD a.toNat 0) a else er 6
  else er 2

theorem fin_eq {s : Int} {w : List Int} {k g a : Int} : (cond (decide (10 < s)) (some (0, [], 0, 0, 0, 5)) (cond (decide ((200 : Int) < (w.length : Int))) (some (0, [], 0, 0, 0, 5)) (some (s, w, k, g, a, 0))) : Option Ans) = some (fin s w k g a) := by
  unfold fin er
  by_cases h1 : 10 < s
  · simp [h1]
  · by_cases h2 : 200 < w.length
    · have : (200 : Int) < (w.length : Int) := by omega
      simp [h1, h2, this]
    · have : ¬ (200 : Int) < (w.length : Int) := by omega
      simp [h1, h2, this]
theorem getD_of {w : List Int} {k : Nat} (h : k < w.length) : w[k]? = some (w.getD k 0) := by
  rw [List.getElem?_eq_getElem h, List.getD_eq_getElem?_getD, List.getElem?_eq_getElem h]; rfl
theorem clone_eq {w : List Int} (n : Nat) (h : w.length ≤ 1000) : F.slices_Clone_Lint_int n w = some w := by
  unfold F.slices_Clone_Lint_int
  rw [lim_ok (by simp; omega)]; simp
theorem size_eq {x : Int} (n : Nat) (h : -1000 ≤ x ∧ x ≤ 1000) : F.markov_size n x = some (ab x) := by
  unfold F.markov_size
  rw [chk_ok (by omega) (by omega)]; rfl
/-- Two neighbours change places. -/
theorem set2 {w : List Int} {p : Nat} (h : p + 1 < w.length) (x y : Int) : (w.set p x).set (p + 1) y = w.take p ++ [x, y] ++ w.drop (p + 2) := by
  apply List.ext_getElem?
  intro j
  rw [List.append_assoc, List.getElem?_set, List.getElem?_set]
  have hl : (w.take p).length = p := by rw [List.length_take]; omega
  by_cases h1 : j < p
  · rw [if_neg (by omega), if_neg (by omega), List.getElem?_append_left (by omega), List.getElem?_take_of_lt h1]
  · rw [List.getElem?_append_right (by omega), hl]
    by_cases h2 : j = p
    · subst h2; rw [if_neg (by omega), if_pos rfl, if_pos (by omega)]; simp
    · by_cases h3 : j = p + 1
      · subst h3; rw [if_pos rfl, if_pos (by simpa using h)]; simp
      · rw [if_neg (by omega), if_neg (by omega)]
        obtain ⟨m, rfl⟩ : ∃ m, j = p + 2 + m := ⟨j - (p + 2), by omega⟩
        rw [show p + 2 + m - p = m + 2 by omega]
        simp [List.getElem?_drop]
theorem set3 {w : List Int} {p : Nat} (h : p + 2 < w.length) (x y z : Int) : ((w.set p x).set (p + 1) y).set (p + 2) z = w.take p ++ [x, y, z] ++ w.drop (p + 3) := by
  rw [set2 (w := w) (p := p) (by omega) x y]
  apply List.ext_getElem?
  intro j
  have hl : (w.take p).length = p := by rw [List.length_take]; omega
  have hl2 : (w.take p ++ [x, y]).length = p + 2 := by simp [hl]
  rw [List.getElem?_set, List.append_assoc (w.take p) [x, y], List.append_assoc (w.take p) [x, y, z]]
  by_cases h1 : j < p
  · rw [if_neg (by omega), List.getElem?_append_left (by omega), List.getElem?_append_left (by omega)]
  · by_cases h2 : j = p + 2
    · subst h2
      rw [if_pos rfl, if_pos (by simp [hl]; omega), List.getElem?_append_right (by omega), hl]
      simp
    · rw [if_neg (by omega), List.getElem?_append_right (l₁ := w.take p) (l₂ := [x, y] ++ w.drop (p + 2)) (by omega), List.getElem?_append_right (l₁ := w.take p) (l₂ := [x, y, z] ++ w.drop (p + 3)) (by omega), hl]
      by_cases h3 : j = p
      · subst h3; simp
      · by_cases h4 : j = p + 1
        · subst h4; simp
        · obtain ⟨m, rfl⟩ : ∃ m, j = p + 3 + m := ⟨j - (p + 3), by omega⟩
          rw [show p + 3 + m - p = m + 1 + 1 + 1 by omega]
          simp only [List.cons_append, List.nil_append, List.getElem?_cons_succ, List.getElem?_drop]
          congr 1; omega
theorem inTable_eq {s : Int} {w : List Int} {k g a : Int} (n : Nat) (hs : 1 ≤ s ∧ s ≤ 10) (hk : 1 ≤ k ∧ k ≤ 7) : F.markov_inTable n s w k g a =
    some (if k = 1 then decide (isL s g ∧ (a = 0 ∨ a = 1)) else if k = 2 then decide ((g = 1 ∨ g = -1) ∧ a = 0) else if k = 3 then decide (g = 0 ∧ a = 0) else if k = 6 then decide (isL s g ∧ 0 ≤ a ∧ a ≤ w.length) else decide (g = 0 ∧ 0 ≤ a ∧ a < w.length)) := by
  have key : ∀ b, F.markov_inTable_j0 n w k g a b = some (if k = 1 then b && decide (a = 0 ∨ a = 1) else if k = 2 then decide ((g = 1 ∨ g = -1) ∧ a = 0) else if k = 3 then decide (g = 0 ∧ a = 0) else if k = 6 then b && decide (0 ≤ a ∧ a ≤ w.length) else decide (g = 0 ∧ 0 ≤ a ∧ a < w.length)) := by
    intro b
    unfold F.markov_inTable_j0
    by_cases k1 : k = 1
    · subst k1; cases b <;> by_cases a0 : a = 0 <;> simp [a0]
    · by_cases k2 : k = 2
      · subst k2; by_cases g1 : g = 1 <;> by_cases g2 : g = -1 <;> simp [g1, g2]
      · by_cases k3 : k = 3
        · subst k3; by_cases g0 : g = 0 <;> simp [g0]
        · by_cases k6 : k = 6
          · subst k6; cases b <;> by_cases a0 : 0 ≤ a <;> simp [a0]
          · by_cases g0 : g = 0 <;> by_cases a0 : 0 ≤ a <;> simp [k1, k2, k3, k6, g0, a0]
  unfold F.markov_inTable
  rw [chk_ok (by omega) (by omega)]
  simp only [Option.bind_some, key]
  unfold isL
  by_cases g0 : g = 0
  · simp [g0]
  · by_cases g1 : -s < g
    · by_cases g2 : g < s <;> simp [g0, g1, g2]
    · simp [g0, g1]
end Go.Proofs.Ytkjpldmelafooaa
