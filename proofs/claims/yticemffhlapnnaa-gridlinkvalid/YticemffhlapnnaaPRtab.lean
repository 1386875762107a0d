/- Lists as tables of a function; the order of a list turned. -/
import Derived.Test.YticemffhlapnnaaPRcrs
import Derived.Test.YticemffhlapnnaaPRgc
set_option linter.unusedVariables false
set_option linter.unusedSimpArgs false
namespace Go.Proofs.Yticemffhlapnnaa
open Ev
namespace Gl
open Gar
def tab {α : Type} (N : Nat) (f : Nat → α) : List α := (List.range N).map f
section
variable {α : Type} {N : Nat} {f g : Nat → α}
theorem tab_len : (tab N f).length = N := by simp [tab]
theorem tab_at {k : Nat} (h : k < N) : (tab N f)[k]? = some (f k) := by simp [tab, h]
theorem tab_none {k : Nat} (h : N ≤ k) : (tab N f)[k]? = none := by simp [tab]; omega
theorem get_tab {z : Int} {k : Nat} (h0 : z = (k : Int)) (h1 : k < N) : Ev.get (tab N f) z = some (f k) := get_at h0 (tab_at h1)
theorem tab_ext (h : ∀ k, k < N → f k = g k) : tab N f = tab N g := List.map_congr_left fun k hk => h k (List.mem_range.1 hk)
theorem tab_set (k : Nat) (v : α) : (tab N f).set k v = tab N (fun j => if j = k then v else f j) := by
  apply List.ext_getElem?
  intro j
  rw [List.getElem?_set]
  by_cases h : k = j
  · subst h
    rw [if_pos rfl, tab_len]
    by_cases h1 : k < N
    · rw [if_pos h1, tab_at h1, if_pos rfl]
    · rw [if_neg h1, tab_none (by omega)]
  · rw [if_neg h]
    by_cases h1 : j < N
    · rw [tab_at h1, tab_at h1, if_neg (Ne.symm h)]
    · rw [tab_none (by omega), tab_none (by omega)]
theorem tab_rep (v : α) : List.replicate N v = tab N (fun _ => v) := by
  apply List.ext_getElem?
  intro j
  by_cases h : j < N
  · rw [tab_at h]; simp [h]
  · rw [tab_none (by omega)]; simp; omega
theorem tab_of (l : List α) (d : α) : l = tab l.length (fun k => l.getD k d) := by
  apply List.ext_getElem?
  intro j
  by_cases h : j < l.length
  · rw [tab_at h, List.getElem?_eq_getElem h, List.getD_eq_getElem?_getD, List.getElem?_eq_getElem h, Option.getD_some]
  · rw [tab_none (by omega), List.getElem?_eq_none (by omega)]
theorem tab_rev : (tab N f).reverse = tab N (fun k => f (N - 1 - k)) := by
  apply List.ext_getElem?
  intro j
  by_cases h : j < N
  · rw [List.getElem?_reverse (by rw [tab_len]; exact h), tab_len, tab_at h, tab_at (by omega)]
  · rw [tab_none (by omega), List.getElem?_eq_none (by rw [List.length_reverse, tab_len]; omega)]
end
theorem revPass (l : List (Int × Int)) (hl : l.length ≤ 100000) (n : Nat) (hn : l.length < n) : F.slices_Reverse_passage_passage n l = some l.reverse := by
  obtain ⟨N, f, rfl, hN⟩ : ∃ (N : Nat) (f : Nat → Int × Int), l = tab N f ∧ N = l.length := ⟨_, _, tab_of l (0, 0), rfl⟩
  rw [tab_rev]
  rw [tab_len] at hl hn
  unfold F.slices_Reverse_passage_passage
  rw [tab_len, chk_ok (by omega) (by omega), Option.bind_some]
  have := count_loop (body := F.slices_Reverse_passage_passage_b0 n) (fun k => ((k : Int), (N : Int) - 1 - (k : Int), tab N (fun x => if x < k ∨ N < x + k + 1 then f (N - 1 - x) else f x))) (N / 2) (r := (((N / 2 : Nat) : Int), (N : Int) - 1 - ((N / 2 : Nat) : Int), tab N fun x => f (N - 1 - x))) (fun k hk => by
    unfold F.slices_Reverse_passage_passage_b0
    dsimp only
    have e1 : (N : Int) - 1 - (k : Int) = ((N - 1 - k : Nat) : Int) := by omega
    rw [decide_eq_true (by omega), cond_true, get_tab e1 (by omega), Option.bind_some, get_tab rfl (by omega), Option.bind_some, Option.bind_some]
    rw [show (k : Int).toNat = k by omega, show ((N : Int) - 1 - (k : Int)).toNat = N - 1 - k by omega, if_neg (by omega), if_neg (by omega), tab_set, get_tab e1 (by omega), Option.bind_some, chk_ok (by omega) (by omega), Option.bind_some, chk_ok (by omega) (by omega), Option.bind_some, tab_set]
    rw [show (N : Int) - 1 - (k : Int) - 1 = (N : Int) - 1 - ((k + 1 : Nat) : Int) by omega]
    congr 4
    apply tab_ext
    intro x hx
    by_cases e1 : x = N - 1 - k
    · subst e1; rw [if_pos rfl, if_pos (by omega), show N - 1 - (N - 1 - k) = k by omega]
    · rw [if_neg e1]
      by_cases e2 : x = k
      · subst e2; rw [if_pos rfl, if_pos (by omega)]
      · rw [if_neg e2]
        by_cases e3 : x < k ∨ N < x + k + 1
        · rw [if_pos e3, if_pos (by omega)]
        · rw [if_neg e3, if_neg (by omega)]) (by
    unfold F.slices_Reverse_passage_passage_b0
    dsimp only
    rw [decide_eq_false (by omega), cond_false]
    congr 4
    apply tab_ext
    intro x hx
    by_cases e3 : x < N / 2 ∨ N < x + N / 2 + 1
    · rw [if_pos e3]
    · rw [if_neg e3]; congr 1; omega) n (by omega)
  have e0 : tab N f = tab N (fun x => if x < 0 ∨ N < x + 0 + 1 then f (N - 1 - x) else f x) := tab_ext fun x hx => (if_neg (by omega)).symm
  rw [e0, show ((0 : Int), (N : Int) - 1, tab N (fun x => if x < 0 ∨ N < x + 0 + 1 then f (N - 1 - x) else f x)) = ((((0 : Nat)) : Int), (N : Int) - 1 - (((0 : Nat)) : Int), tab N (fun x => if x < 0 ∨ N < x + 0 + 1 then f (N - 1 - x) else f x)) by simp, this, Option.bind_some]
/-- The places from a to b, b left out. -/
def segk (a b k : Nat) : List Nat := (List.range k).map fun t => if a < b then a + t else a - t
def seg (a b : Nat) : List Nat := segk a b (max a b - min a b)
theorem segk_succ (a b k : Nat) : segk a b (k + 1) = segk a b k ++ [if a < b then a + k else a - k] := by simp [segk, List.range_succ]
theorem range_add (a b : Nat) : List.range (a + b) = List.range a ++ (List.range b).map fun t => a + t := List.range_add
/-- What lies strictly between two places, in the order from a to b. -/
theorem seg_filter {P : Nat → Bool} {a b n : Nat} (hab : a ≠ b) (ha : a < n) (hb : b < n) (hP : ∀ j, P j = true → min a b < j ∧ j < max a b) :
    (seg a b).filter P = if a < b then (List.range n).filter P else ((List.range n).filter P).reverse := by
  have hf : ∀ j, ¬ (min a b < j ∧ j < max a b) → P j = false := fun j h => by
    cases e : P j with
    | false => rfl
    | true => exact absurd (hP j e) h
  have h1 : (List.range n).filter P = ((List.range (max a b - min a b)).map fun t => min a b + t).filter P := by
    rw [filter_more (a := max a b) (by omega) (fun j h1 h2 => hf j (by omega)), show max a b = min a b + (max a b - min a b) by omega, range_add, List.filter_append, filter_none (fun j h => hf j (by omega)), List.nil_append]
    congr 3
    omega
  by_cases hlt : a < b
  · rw [if_pos hlt, h1]
    unfold seg segk
    congr 1
    apply List.map_congr_left
    intro t _
    rw [if_pos hlt]; omega
  · rw [if_neg hlt]
    have h2 : (List.range n).filter P = ((List.range (max a b - min a b)).map fun t => min a b + 1 + t).filter P := by
      rw [filter_more (a := max a b + 1) (by omega) (fun j h1 h2 => hf j (by omega)), show max a b + 1 = (min a b + 1) + (max a b - min a b) by omega, range_add, List.filter_append, filter_none (fun j h => hf j (by omega)), List.nil_append]
    rw [h2, ← List.filter_reverse]
    unfold seg segk
    congr 1
    have := tab_rev (N := max a b - min a b) (f := fun t => min a b + 1 + t)
    unfold tab at this
    rw [this]
    apply List.map_congr_left
    intro t ht
    rw [List.mem_range] at ht
    rw [if_neg hlt]; omega
end Gl
end Go.Proofs.Yticemffhlapnnaa
