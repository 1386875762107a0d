/- The reference Apply answers stepS (part three). -/
import Derived.Test.YtkjpldmelafooaaPMref2
set_option linter.unusedVariables false
set_option linter.unusedSimpArgs false
namespace Go.Proofs.Ytkjpldmelafooaa
open Ev
section
variable {s : Int} {w : List Int} (n : Nat) (hs : 1 ≤ s ∧ s ≤ 10) (hw : w.length ≤ 200) (hv : ∀ x ∈ w, x ≠ 0 ∧ -s < x ∧ x < s)
include hv in
theorem val_w {k : Nat} (hk : k < w.length) : w.getD k 0 ≠ 0 ∧ -s < w.getD k 0 ∧ w.getD k 0 < s := by
  refine hv _ ?_
  rw [List.getD_eq_getElem?_getD, List.getElem?_eq_getElem hk]; exact List.getElem_mem hk
include hs hw hv
/-- Commute. -/
theorem ref_k4 (g a : Int) (b : Bool) : F.ref36_Apply_j1 n s w 4 g a b (decide (0 ≤ a ∧ a < w.length)) = some (if g = 0 ∧ 0 ≤ a ∧ a < w.length then
      (if a + 1 < w.length ∧ 2 ≤ ab (ab (w.getD a.toNat 0) - ab (w.getD (a.toNat + 1) 0)) then fin s (w.take a.toNat ++ [w.getD (a.toNat + 1) 0, w.getD a.toNat 0] ++ w.drop (a.toNat + 2)) 4 g a else er 6) else er 2) := by
  unfold F.ref36_Apply_j1
  rw [decide_eq_false (by decide : ¬ (4 : Int) = 1), cond_false, decide_eq_false (by decide : ¬ (4 : Int) = 2), cond_false, decide_eq_false (by decide : ¬ (4 : Int) = 3), cond_false, decide_eq_true (rfl : (4 : Int) = 4), cond_true]
  have h11 : ∀ t : Bool, t = decide (g = 0 ∧ 0 ≤ a ∧ a < w.length) → F.ref36_Apply_j11 n s w 4 g a t = some (if g = 0 ∧ 0 ≤ a ∧ a < w.length then
      (if a + 1 < w.length ∧ 2 ≤ ab (ab (w.getD a.toNat 0) - ab (w.getD (a.toNat + 1) 0)) then fin s (w.take a.toNat ++ [w.getD (a.toNat + 1) 0, w.getD a.toNat 0] ++ w.drop (a.toNat + 2)) 4 g a else er 6) else er 2) := by
    intro t ht
    unfold F.ref36_Apply_j11
    by_cases h : g = 0 ∧ 0 ≤ a ∧ a < w.length
    · rw [if_pos h]
      rw [decide_eq_true h] at ht; subst ht
      obtain ⟨hg, ha, hb⟩ := h
      rw [cond_true, wr_ok (z := a + 1) (by omega) (by omega)]
      unfold F.ref36_Apply_j12
      by_cases h1 : a + 1 < w.length
      · rw [decide_eq_true h1, cond_true, get_w hw (by omega) (by omega), Option.bind_some]
        have e1 : (a + 1).toNat = a.toNat + 1 := by omega
        have v1 := val_w hv (k := a.toNat) (by omega)
        have v2 := val_w hv (k := a.toNat + 1) (by omega)
        have b1 : 0 ≤ ab (w.getD a.toNat 0) ∧ ab (w.getD a.toNat 0) ≤ 10 := by unfold ab; omega
        have b2 : 0 ≤ ab (w.getD (a.toNat + 1) 0) ∧ ab (w.getD (a.toNat + 1) 0) ≤ 10 := by unfold ab; omega
        rw [absEq n (by omega), Option.bind_some, wr_ok (z := a + 1) (by omega) (by omega), get_w hw (by omega) (by omega), Option.bind_some, e1, absEq n (by omega), Option.bind_some, wr_ok (by omega) (by omega)]
        have key : ∀ c : Bool, F.ref36_Apply_j13 n s w 4 g a true c = some (if c = true then fin s (w.take a.toNat ++ [w.getD (a.toNat + 1) 0, w.getD a.toNat 0] ++ w.drop (a.toNat + 2)) 4 g a else er 6) := by
          intro c
          unfold F.ref36_Apply_j13
          rw [wr_ok (z := a + 1) (by omega) (by omega), get_w hw (by omega) (by omega), Option.bind_some, e1, get_w hw (by omega) (by omega), Option.bind_some, spliceEq n (by omega) (by simp) (by omega) (by omega) (by omega), Option.bind_some, j2, if_pos rfl]
          rfl
        by_cases h2 : 2 ≤ ab (w.getD a.toNat 0) - ab (w.getD (a.toNat + 1) 0)
        · rw [decide_eq_true h2, cond_true, key, if_pos rfl, if_pos ⟨h1, by unfold ab at *; omega⟩]
        · rw [decide_eq_false h2, cond_false, key]
          by_cases h3 : ab (w.getD a.toNat 0) - ab (w.getD (a.toNat + 1) 0) ≤ -2
          · rw [decide_eq_true h3, if_pos rfl, if_pos ⟨h1, by unfold ab at *; omega⟩]
          · rw [decide_eq_false h3, if_neg (by decide), if_neg (fun h => by have := h.2; unfold ab at *; omega)]
      · rw [decide_eq_false h1, cond_false, j2, if_pos rfl, if_neg (by decide), if_neg (fun h => h1 h.1)]
    · rw [if_neg h]
      rw [decide_eq_false h] at ht; subst ht
      rw [cond_false]
      unfold F.ref36_Apply_j12
      rw [cond_false, j2]; rfl
  by_cases h1 : g = 0
  · rw [decide_eq_true h1, cond_true]; exact h11 _ (by simp [h1])
  · rw [decide_eq_false h1, cond_false]; exact h11 _ (by simp [h1])
omit hw hv in
theorem sgn_iff {x y : Int} (hx : x ≠ 0 ∧ -s < x ∧ x < s) (hy : y ≠ 0 ∧ -s < y ∧ y < s) : (0 < x * y ↔ (0 < x ↔ 0 < y)) ∧ -1000 ≤ x * y ∧ x * y ≤ 1000 := by
  have hxr : x = -9 ∨ x = -8 ∨ x = -7 ∨ x = -6 ∨ x = -5 ∨ x = -4 ∨ x = -3 ∨ x = -2 ∨ x = -1 ∨ x = 1 ∨ x = 2 ∨ x = 3 ∨ x = 4 ∨ x = 5 ∨ x = 6 ∨ x = 7 ∨ x = 8 ∨ x = 9 := by omega
  rcases hxr with rfl | rfl | rfl | rfl | rfl | rfl | rfl | rfl | rfl | rfl | rfl | rfl | rfl | rfl | rfl | rfl | rfl | rfl <;> omega
/-- Triple. -/
theorem ref_k5 (g a : Int) (b : Bool) : F.ref36_Apply_j1 n s w 5 g a b (decide (0 ≤ a ∧ a < w.length)) = some (if g = 0 ∧ 0 ≤ a ∧ a < w.length then
      (if a + 2 < w.length ∧ w.getD (a.toNat + 2) 0 = w.getD a.toNat 0 ∧ (0 < w.getD a.toNat 0 ↔ 0 < w.getD (a.toNat + 1) 0) ∧ ab (w.getD a.toNat 0 - w.getD (a.toNat + 1) 0) = 1 then
        fin s (w.take a.toNat ++ [w.getD (a.toNat + 1) 0, w.getD a.toNat 0, w.getD (a.toNat + 1) 0] ++ w.drop (a.toNat + 3)) 5 g a
      else er 6) else er 2) := by
  unfold F.ref36_Apply_j1
  rw [decide_eq_false (by decide : ¬ (5 : Int) = 1), cond_false, decide_eq_false (by decide : ¬ (5 : Int) = 2), cond_false, decide_eq_false (by decide : ¬ (5 : Int) = 3), cond_false, decide_eq_false (by decide : ¬ (5 : Int) = 4), cond_false, decide_eq_true (rfl : (5 : Int) = 5), cond_true]
  have h14 : ∀ t : Bool, t = decide (g = 0 ∧ 0 ≤ a ∧ a < w.length) → F.ref36_Apply_j14 n s w 5 g a t = some (if g = 0 ∧ 0 ≤ a ∧ a < w.length then
      (if a + 2 < w.length ∧ w.getD (a.toNat + 2) 0 = w.getD a.toNat 0 ∧ (0 < w.getD a.toNat 0 ↔ 0 < w.getD (a.toNat + 1) 0) ∧ ab (w.getD a.toNat 0 - w.getD (a.toNat + 1) 0) = 1 then
        fin s (w.take a.toNat ++ [w.getD (a.toNat + 1) 0, w.getD a.toNat 0, w.getD (a.toNat + 1) 0] ++ w.drop (a.toNat + 3)) 5 g a
      else er 6) else er 2) := by
    intro t ht
    unfold F.ref36_Apply_j14
    by_cases h : g = 0 ∧ 0 ≤ a ∧ a < w.length
    · rw [if_pos h]
      rw [decide_eq_true h] at ht; subst ht
      obtain ⟨hg, ha, hb⟩ := h
      rw [cond_true, wr_ok (z := a + 2) (by omega) (by omega)]
      unfold F.ref36_Apply_j15
      by_cases h1 : a + 2 < w.length
      · rw [decide_eq_true h1, cond_true, get_w hw (by omega) (by omega), Option.bind_some, wr_ok (z := a + 1) (by omega) (by omega), get_w hw (by omega) (by omega), Option.bind_some, wr_ok (z := a + 2) (by omega) (by omega), get_w hw (by omega) (by omega), Option.bind_some]
        rw [show (a + 1).toNat = a.toNat + 1 by omega, show (a + 2).toNat = a.toNat + 2 by omega]
        have v1 := val_w hv (k := a.toNat) (by omega)
        have v2 := val_w hv (k := a.toNat + 1) (by omega)
        have key : ∀ c : Bool, F.ref36_Apply_j16 n s w 5 g a true (w.getD a.toNat 0) (w.getD (a.toNat + 1) 0) c = some (if c = true then fin s (w.take a.toNat ++ [w.getD (a.toNat + 1) 0, w.getD a.toNat 0, w.getD (a.toNat + 1) 0] ++ w.drop (a.toNat + 3)) 5 g a else er 6) := by
          intro c
          unfold F.ref36_Apply_j16
          rw [spliceEq n (by omega) (by simp) (by omega) (by omega) (by omega), Option.bind_some, j2, if_pos rfl]
          rfl
        obtain ⟨sg, p1, p2⟩ := sgn_iff hs v1 v2
        generalize w.getD a.toNat 0 = x at *
        generalize w.getD (a.toNat + 1) 0 = y at *
        by_cases h2 : w.getD (a.toNat + 2) 0 = x
        · rw [decide_eq_true h2, cond_true, wr_ok (z := x * y) (by omega) (by omega)]
          by_cases h3 : 0 < x * y
          · rw [decide_eq_true h3, cond_true, wr_ok (z := x - y) (by omega) (by omega)]
            by_cases h4 : x - y = 1
            · rw [decide_eq_true h4, cond_true, key, if_pos rfl, if_pos ⟨h1, h2, sg.1 h3, by unfold ab; omega⟩]
            · rw [decide_eq_false h4, cond_false, key, wr_ok (by omega) (by omega)]
              by_cases h5 : y - x = 1
              · rw [decide_eq_true h5, if_pos rfl, if_pos ⟨h1, h2, sg.1 h3, by unfold ab; omega⟩]
              · rw [decide_eq_false h5, if_neg (by decide), if_neg (fun h => by have := h.2.2.2; unfold ab at *; omega)]
          · rw [decide_eq_false h3, cond_false, key, if_neg (by decide), if_neg (fun h => h3 (sg.2 h.2.2.1))]
        · rw [decide_eq_false h2, cond_false, key, if_neg (by decide), if_neg (fun h => h2 h.2.1)]
      · rw [decide_eq_false h1, cond_false, j2, if_pos rfl, if_neg (by decide), if_neg (fun h => h1 h.1)]
    · rw [if_neg h]
      rw [decide_eq_false h] at ht; subst ht
      rw [cond_false]
      unfold F.ref36_Apply_j15
      rw [cond_false, j2]; rfl
  by_cases h1 : g = 0
  · rw [decide_eq_true h1, cond_true]; exact h14 _ (by simp [h1])
  · rw [decide_eq_false h1, cond_false]; exact h14 _ (by simp [h1])
omit hv in
/-- Insert. -/
theorem ref_k6 (g a : Int) (b p : Bool) (hb : b = true → g ≠ 0 ∧ -s < g ∧ g < s) : F.ref36_Apply_j1 n s w 6 g a b p = some (if b = true ∧ 0 ≤ a ∧ a ≤ w.length then fin s (w.take a.toNat ++ [g, -g] ++ w.drop a.toNat) 7 0 a else er 2) := by
  unfold F.ref36_Apply_j1
  rw [decide_eq_false (by decide : ¬ (6 : Int) = 1), cond_false, decide_eq_false (by decide : ¬ (6 : Int) = 2), cond_false, decide_eq_false (by decide : ¬ (6 : Int) = 3), cond_false, decide_eq_false (by decide : ¬ (6 : Int) = 4), cond_false, decide_eq_false (by decide : ¬ (6 : Int) = 5), cond_false, decide_eq_true (rfl : (6 : Int) = 6), cond_true]
  have h17 : ∀ t : Bool, t = decide (b = true ∧ 0 ≤ a ∧ a ≤ w.length) → F.ref36_Apply_j17 n s w g a t = some (if b = true ∧ 0 ≤ a ∧ a ≤ w.length then fin s (w.take a.toNat ++ [g, -g] ++ w.drop a.toNat) 7 0 a else er 2) := by
    intro t ht
    unfold F.ref36_Apply_j17
    by_cases h : b = true ∧ 0 ≤ a ∧ a ≤ w.length
    · rw [if_pos h]
      rw [decide_eq_true h] at ht; subst ht
      have := hb h.1
      rw [cond_true, wr_ok (by omega) (by omega), spliceEq n (by omega) (by simp) (by omega) (by omega) (by omega), Option.bind_some, j2, if_pos rfl, if_pos rfl]
      rfl
    · rw [if_neg h]
      rw [decide_eq_false h] at ht; subst ht
      rw [cond_false, j2]; rfl
  cases b
  · rw [cond_false]; exact h17 _ (by simp)
  · rw [cond_true]
    by_cases h1 : 0 ≤ a
    · rw [decide_eq_true h1, cond_true]; exact h17 _ (by simp [h1])
    · rw [decide_eq_false h1, cond_false]; exact h17 _ (by simp [h1])
/-- Delete. -/
theorem ref_k7 (g a : Int) (b : Bool) : F.ref36_Apply_j1 n s w 7 g a b (decide (0 ≤ a ∧ a < w.length)) = some (if g = 0 ∧ 0 ≤ a ∧ a < w.length then
      (if a + 1 < w.length ∧ w.getD (a.toNat + 1) 0 = - w.getD a.toNat 0 then fin s (w.take a.toNat ++ w.drop (a.toNat + 2)) 6 (w.getD a.toNat 0) a else er 6) else er 2) := by
  unfold F.ref36_Apply_j1
  rw [decide_eq_false (by decide : ¬ (7 : Int) = 1), cond_false, decide_eq_false (by decide : ¬ (7 : Int) = 2), cond_false, decide_eq_false (by decide : ¬ (7 : Int) = 3), cond_false, decide_eq_false (by decide : ¬ (7 : Int) = 4), cond_false, decide_eq_false (by decide : ¬ (7 : Int) = 5), cond_false, decide_eq_false (by decide : ¬ (7 : Int) = 6), cond_false, decide_eq_true (rfl : (7 : Int) = 7), cond_true]
  have h18 : ∀ t : Bool, t = decide (g = 0 ∧ 0 ≤ a ∧ a < w.length) → F.ref36_Apply_j18 n s w a t = some (if g = 0 ∧ 0 ≤ a ∧ a < w.length then
      (if a + 1 < w.length ∧ w.getD (a.toNat + 1) 0 = - w.getD a.toNat 0 then fin s (w.take a.toNat ++ w.drop (a.toNat + 2)) 6 (w.getD a.toNat 0) a else er 6) else er 2) := by
    intro t ht
    unfold F.ref36_Apply_j18
    by_cases h : g = 0 ∧ 0 ≤ a ∧ a < w.length
    · rw [if_pos h]
      rw [decide_eq_true h] at ht; subst ht
      obtain ⟨hg, ha, hb⟩ := h
      rw [cond_true, wr_ok (z := a + 1) (by omega) (by omega)]
      unfold F.ref36_Apply_j19
      by_cases h1 : a + 1 < w.length
      · rw [decide_eq_true h1, cond_true, get_w hw (by omega) (by omega), Option.bind_some, wr_ok (z := a + 1) (by omega) (by omega), get_w hw (by omega) (by omega), Option.bind_some, spliceEq n (by omega) (by simp) (by omega) (by omega) (by omega), Option.bind_some, Option.bind_some, j2, if_pos rfl]
        rw [show (a + 1).toNat = a.toNat + 1 by omega]
        have v2 := val_w hv (k := a.toNat + 1) (by omega)
        rw [wr_ok (by omega) (by omega)]
        by_cases h2 : w.getD a.toNat 0 = - w.getD (a.toNat + 1) 0
        · rw [decide_eq_true h2, if_pos rfl, if_pos ⟨h1, by omega⟩, List.append_nil]; rfl
        · rw [decide_eq_false h2, if_neg (by decide), if_neg (fun h => h2 (by omega))]
      · rw [decide_eq_false h1, cond_false, j2, if_pos rfl, if_neg (by decide), if_neg (fun h => h1 h.1)]
    · rw [if_neg h]
      rw [decide_eq_false h] at ht; subst ht
      rw [cond_false]
      unfold F.ref36_Apply_j19
      rw [cond_false, j2]; rfl
  by_cases h1 : g = 0
  · rw [decide_eq_true h1, cond_true]; exact h18 _ (by simp [h1])
  · rw [decide_eq_false h1, cond_false]; exact h18 _ (by simp [h1])
end
theorem ref_other {s : Int} {w : List Int} (n : Nat) {k g a : Int} (b p : Bool) (h : k < 1 ∨ 7 < k) : F.ref36_Apply_j1 n s w k g a b p = some (er 11) := by
  unfold F.ref36_Apply_j1
  rw [decide_eq_false (by omega : ¬ k = 1), cond_false, decide_eq_false (by omega : ¬ k = 2), cond_false, decide_eq_false (by omega : ¬ k = 3), cond_false, decide_eq_false (by omega : ¬ k = 4), cond_false, decide_eq_false (by omega : ¬ k = 5), cond_false, decide_eq_false (by omega : ¬ k = 6), cond_false, decide_eq_false (by omega : ¬ k = 7), cond_false]
  rfl
theorem refApply_eq {s : Int} {w : List Int} (n : Nat) (hn : w.length < n) (k g a : Int) : F.ref36_Apply n s w k g a = some (stepS s w k g a) := by
  unfold F.ref36_Apply
  rw [refValid n hn, Option.bind_some]
  unfold stepS
  cases hok : okB s w
  · rw [Bool.not_false, cond_true, if_pos rfl]; rfl
  rw [Bool.not_true, cond_false, if_neg (by decide)]
  obtain ⟨h1, h2, h3, hv⟩ := okB_iff.1 hok
  have e0 : ∀ b : Bool, F.ref36_Apply_j0 n s w k g a b = F.ref36_Apply_j1 n s w k g a b (decide (0 ≤ a ∧ a < w.length)) := by
    intro b
    unfold F.ref36_Apply_j0
    by_cases ha : 0 ≤ a
    · rw [decide_eq_true ha, cond_true]; congr 1; simp [ha]
    · rw [decide_eq_false ha, cond_false]; congr 1; simp [ha]
  have e1 : (cond (!(decide (g = 0))) (cond (decide (g < s)) (F.ref36_Apply_j0 n s w k g a (decide ((wr (-s)) < g))) (F.ref36_Apply_j0 n s w k g a false)) (F.ref36_Apply_j0 n s w k g a false)) = F.ref36_Apply_j1 n s w k g a (decide (isL s g)) (decide (0 ≤ a ∧ a < w.length)) := by
    rw [wr_ok (z := -s) (by omega) (by omega)]
    unfold isL
    by_cases g0 : g = 0
    · rw [decide_eq_true g0, Bool.not_true, cond_false, e0]; congr 1; simp [g0]
    · rw [decide_eq_false g0, Bool.not_false, cond_true]
      by_cases g1 : g < s
      · rw [decide_eq_true g1, cond_true, e0]; congr 1; simp [g0, g1]
      · rw [decide_eq_false g1, cond_false, e0]; congr 1; simp [g1]
  rw [e1]
  have hL : decide (isL s g) = true → g ≠ 0 ∧ -s < g ∧ g < s := fun h => of_decide_eq_true h
  by_cases k0 : k < 1
  · rw [if_pos k0, ref_other n _ _ (.inl k0)]
  rw [if_neg k0]
  by_cases k8 : 7 < k
  · rw [if_pos k8, ref_other n _ _ (.inr k8)]
  rw [if_neg k8]
  by_cases k1 : k = 1
  · subst k1; rw [if_pos rfl, ref_k1 n ⟨h1, h2⟩ h3 g a _ hL]; simp only [decide_eq_true_eq]
  rw [if_neg k1]
  by_cases k2 : k = 2
  · subst k2; rw [if_pos rfl, ref_k2 n ⟨h1, h2⟩ h3]
  rw [if_neg k2]
  by_cases k3 : k = 3
  · subst k3; rw [if_pos rfl, ref_k3 n ⟨h1, h2⟩ h3 g a _ _ (fun x hx => (hv x hx).2) hn]
  rw [if_neg k3]
  by_cases k6 : k = 6
  · subst k6; rw [if_pos rfl, ref_k6 n ⟨h1, h2⟩ h3 g a _ _ hL]; simp only [decide_eq_true_eq]
  rw [if_neg k6]
  by_cases k4 : k = 4
  · subst k4; rw [ref_k4 n ⟨h1, h2⟩ h3 hv]; simp only [if_true]
  by_cases k5 : k = 5
  · subst k5; rw [ref_k5 n ⟨h1, h2⟩ h3 hv, if_neg k4]; simp only [if_true]
  · obtain rfl : k = 7 := by omega
    rw [ref_k7 n ⟨h1, h2⟩ h3 hv, if_neg k4, if_neg k5]
end Go.Proofs.Ytkjpldmelafooaa
