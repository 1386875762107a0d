/- Steps played one after another. -/
import Derived.Test.YtkjpldmelafooaaPMinverse
set_option linter.unusedVariables false
set_option linter.unusedSimpArgs false
namespace Go.Proofs.Ytkjpldmelafooaa
open Ev
abbrev St := Int × (Int × Int)
/-- Braid, undoing steps (last first), how many were done, error. -/
def pl (s : Int) (w : List Int) : List St → Int × List Int × List St × Nat × Int
  | [] => (s, w, [], 0, 0)
  | x :: l =>
    let R := stepS s w x.1 x.2.1 x.2.2
    if R.2.2.2.2.2 = 0 then
      let r := pl R.1 R.2.1 l
      (r.1, r.2.1, r.2.2.1 ++ [(R.2.2.1, R.2.2.2.1, R.2.2.2.2.1)], r.2.2.2.1 + 1, r.2.2.2.2)
    else (s, w, [], 0, R.2.2.2.2.2)
theorem pl_len (l : List St) : ∀ (s : Int) (w : List Int), (pl s w l).2.2.1.length = (pl s w l).2.2.2.1 ∧ (pl s w l).2.2.2.1 ≤ l.length ∧ ((pl s w l).2.2.2.2 = 0 → (pl s w l).2.2.2.1 = l.length) := by
  induction l with
  | nil => intro s w; simp [pl]
  | cons x l ih =>
    intro s w
    simp only [pl]
    by_cases h : (stepS s w x.1 x.2.1 x.2.2).2.2.2.2.2 = 0
    · rw [if_pos h]
      obtain ⟨h1, h2, h3⟩ := ih (stepS s w x.1 x.2.1 x.2.2).1 (stepS s w x.1 x.2.1 x.2.2).2.1
      refine ⟨by simp [h1], by simp; omega, fun h' => by simp [h3 h']⟩
    · rw [if_neg h]
      exact ⟨rfl, Nat.zero_le _, fun h' => absurd h' h⟩
theorem pl_app (u v : List St) : ∀ (s : Int) (w : List Int), (pl s w u).2.2.2.2 = 0 → (pl s w (u ++ v)).1 = (pl (pl s w u).1 (pl s w u).2.1 v).1 ∧ (pl s w (u ++ v)).2.1 = (pl (pl s w u).1 (pl s w u).2.1 v).2.1 ∧ (pl s w (u ++ v)).2.2.2.2 = (pl (pl s w u).1 (pl s w u).2.1 v).2.2.2.2 := by
  induction u with
  | nil => intro s w h; exact ⟨rfl, rfl, rfl⟩
  | cons x u ih =>
    intro s w h
    simp only [List.cons_append, pl] at h ⊢
    by_cases h0 : (stepS s w x.1 x.2.1 x.2.2).2.2.2.2.2 = 0
    · rw [if_pos h0] at h
      rw [if_pos h0, if_pos h0]
      exact ih _ _ h
    · rw [if_neg h0] at h; exact absurd h h0
/-- The undoing steps lead back. -/
theorem pl_back (l : List St) : ∀ (s : Int) (w : List Int), (pl (pl s w l).1 (pl s w l).2.1 (pl s w l).2.2.1).1 = s ∧ (pl (pl s w l).1 (pl s w l).2.1 (pl s w l).2.2.1).2.1 = w ∧ (pl (pl s w l).1 (pl s w l).2.1 (pl s w l).2.2.1).2.2.2.2 = 0 := by
  induction l with
  | nil => intro s w; exact ⟨rfl, rfl, rfl⟩
  | cons x l ih =>
    intro s w
    simp only [pl]
    by_cases h0 : (stepS s w x.1 x.2.1 x.2.2).2.2.2.2.2 = 0
    · rw [if_pos h0]
      obtain ⟨i1, i2, i3⟩ := ih (stepS s w x.1 x.2.1 x.2.2).1 (stepS s w x.1 x.2.1 x.2.2).2.1
      obtain ⟨a1, a2, a3⟩ := pl_app _ [((stepS s w x.1 x.2.1 x.2.2).2.2.1, (stepS s w x.1 x.2.1 x.2.2).2.2.2.1, (stepS s w x.1 x.2.1 x.2.2).2.2.2.2.1)] _ _ i3
      rw [i1, i2] at a1 a2 a3
      have hu := (step_und h0).2
      simp only [pl] at a1 a2 a3
      rw [hu] at a1 a2 a3
      simp only [if_true] at a1 a2 a3
      exact ⟨a1, a2, a3⟩
    · rw [if_neg h0]; exact ⟨rfl, rfl, rfl⟩
end Go.Proofs.Ytkjpldmelafooaa
