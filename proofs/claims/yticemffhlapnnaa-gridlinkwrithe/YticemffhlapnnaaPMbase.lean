/- Braids: validity in plain words. -/
import Derived.Test.YticemffhlapnnaaPLib
set_option linter.unusedVariables false
set_option linter.unusedSimpArgs false
namespace Go.Proofs.Yticemffhlapnnaa
open Ev
/-- A valid braid. -/
def okW (s : Int) (w : List Int) : Bool := w.all fun x => decide (x ≠ 0) && (decide (-s < x) && decide (x < s))
def okB (s : Int) (w : List Int) : Bool := decide (1 ≤ s) && (decide (s ≤ 10) && (decide (w.length ≤ 200) && okW s w))
theorem okB_iff {s : Int} {w : List Int} : okB s w = true ↔ (1 ≤ s ∧ s ≤ 10 ∧ w.length ≤ 200 ∧ ∀ x ∈ w, x ≠ 0 ∧ -s < x ∧ x < s) := by
  simp only [okB, okW, Bool.and_eq_true, decide_eq_true_eq, List.all_eq_true]
theorem drop_step {w : List Int} {k : Nat} (hk : k < w.length) : w.drop k = w[k] :: w.drop (k + 1) := (List.getElem_cons_drop hk).symm
theorem braidValid {s : Int} {w : List Int} (n : Nat) (hn : w.length < n) : F.braid_Valid n s w = some (okB s w) := by
  unfold F.braid_Valid
  by_cases h1 : s < 1
  · rw [decide_eq_true h1]; simp [okB]; omega
  rw [decide_eq_false h1]
  by_cases h2 : 10 < s
  · rw [decide_eq_true h2]; simp [okB]; omega
  rw [decide_eq_false h2]
  by_cases h3 : (200 : Int) < (w.length : Int)
  · rw [decide_eq_true h3]; simp [okB]; omega
  rw [decide_eq_false h3]
  simp only [cond_false]
  have hok : okB s w = okW s w := by
    unfold okB; rw [decide_eq_true (show 1 ≤ s by omega), decide_eq_true (show s ≤ 10 by omega), decide_eq_true (show w.length ≤ 200 by omega)]; simp
  obtain ⟨r, hr, hq⟩ := loop_spec (body := F.braid_Valid_b0 n s w) (fun v => ∃ k : Nat, v = (k : Int) ∧ k ≤ w.length ∧ okW s w = okW s (w.drop k)) (fun v => w.length - v.toNat)
    (fun r => match r with | .inl _ => okW s w = true | .inr b => b = okW s w) (fun v ⟨k, hv, hk, hI⟩ => by
      subst hv
      unfold F.braid_Valid_b0
      dsimp only
      by_cases hlt : (k : Int) < (w.length : Int)
      · rw [decide_eq_true hlt]
        have hk' : k < w.length := by omega
        have hs : okW s (w.drop k) = (decide (w[k] ≠ 0) && (decide (-s < w[k]) && decide (w[k] < s)) && okW s (w.drop (k + 1))) := by
          unfold okW; rw [drop_step hk', List.all_cons]
        simp only [cond_true, get_nat, List.getElem?_eq_getElem hk', Option.bind_some]
        rw [chk_ok (by omega) (by omega), chk_ok (by omega) (by omega)]
        simp only [Option.bind_some]
        by_cases c1 : w[k] = 0
        · rw [decide_eq_true c1]; right; exact ⟨_, rfl, by rw [hI, hs]; simp [c1]⟩
        rw [decide_eq_false c1]
        by_cases c2 : w[k] ≤ -s
        · rw [decide_eq_true c2]; right; exact ⟨_, rfl, by rw [hI, hs, decide_eq_false (show ¬ (-s < w[k]) by omega)]; simp⟩
        rw [decide_eq_false c2]
        by_cases c3 : s ≤ w[k]
        · rw [decide_eq_true c3]; right; exact ⟨_, rfl, by rw [hI, hs, decide_eq_false (show ¬ (w[k] < s) by omega)]; simp⟩
        rw [decide_eq_false c3]
        left
        refine ⟨_, rfl, ⟨k + 1, by simp, by omega, ?_⟩, by omega⟩
        rw [hI, hs, decide_eq_true (show w[k] ≠ 0 from c1), decide_eq_true (show -s < w[k] by omega), decide_eq_true (show w[k] < s by omega)]; simp
      · rw [decide_eq_false hlt]
        right
        have : k = w.length := by omega
        subst this
        exact ⟨_, rfl, by show okW s w = true; rw [hI]; simp [okW]⟩) n 0 ⟨0, rfl, Nat.zero_le _, by simp⟩ (by simpa using hn)
  rw [hr]
  simp only [Option.bind_some]
  cases r with
  | inl v => simp only at hq ⊢; rw [hok, hq]
  | inr b => simp only at hq ⊢; rw [hok, hq]
theorem refValid {s : Int} {w : List Int} (n : Nat) (hn : w.length < n) : F.ref33_Valid n s w = some (okB s w) := by
  unfold F.ref33_Valid
  by_cases h1 : s < 1
  · rw [decide_eq_true h1]; simp [okB]; omega
  rw [decide_eq_false h1]
  by_cases h2 : 10 < s
  · rw [decide_eq_true h2]; simp [okB]; omega
  rw [decide_eq_false h2]
  by_cases h3 : (200 : Int) < (w.length : Int)
  · rw [decide_eq_true h3]; simp [okB]; omega
  rw [decide_eq_false h3]
  simp only [cond_false]
  have hok : okB s w = okW s w := by
    unfold okB; rw [decide_eq_true (show 1 ≤ s by omega), decide_eq_true (show s ≤ 10 by omega), decide_eq_true (show w.length ≤ 200 by omega)]; simp
  obtain ⟨r, hr, hq⟩ := loop_spec (body := F.ref33_Valid_b0 n s w) (fun v => ∃ k : Nat, v = (k : Int) ∧ k ≤ w.length ∧ okW s w = okW s (w.drop k)) (fun v => w.length - v.toNat)
    (fun r => match r with | .inl _ => okW s w = true | .inr b => b = okW s w) (fun v ⟨k, hv, hk, hI⟩ => by
      subst hv
      unfold F.ref33_Valid_b0
      dsimp only
      by_cases hlt : (k : Int) < (w.length : Int)
      · rw [decide_eq_true hlt]
        have hk' : k < w.length := by omega
        have hs : okW s (w.drop k) = (decide (w[k] ≠ 0) && (decide (-s < w[k]) && decide (w[k] < s)) && okW s (w.drop (k + 1))) := by
          unfold okW; rw [drop_step hk', List.all_cons]
        simp only [cond_true, get_nat, List.getElem?_eq_getElem hk', Option.bind_some]
        rw [chk_ok (by omega) (by omega), chk_ok (by omega) (by omega)]
        simp only [Option.bind_some]
        by_cases c1 : w[k] = 0
        · rw [decide_eq_true c1]; right; exact ⟨_, rfl, by rw [hI, hs]; simp [c1]⟩
        rw [decide_eq_false c1]
        by_cases c3 : s ≤ w[k]
        · rw [decide_eq_true c3]; right; exact ⟨_, rfl, by rw [hI, hs, decide_eq_false (show ¬ (w[k] < s) by omega)]; simp⟩
        rw [decide_eq_false c3]
        by_cases c2 : w[k] ≤ -s
        · rw [decide_eq_true c2]; right; exact ⟨_, rfl, by rw [hI, hs, decide_eq_false (show ¬ (-s < w[k]) by omega)]; simp⟩
        rw [decide_eq_false c2]
        left
        refine ⟨_, rfl, ⟨k + 1, by simp, by omega, ?_⟩, by omega⟩
        rw [hI, hs, decide_eq_true (show w[k] ≠ 0 from c1), decide_eq_true (show -s < w[k] by omega), decide_eq_true (show w[k] < s by omega)]; simp
      · rw [decide_eq_false hlt]
        right
        have : k = w.length := by omega
        subst this
        exact ⟨_, rfl, by show okW s w = true; rw [hI]; simp [okW]⟩) n 0 ⟨0, rfl, Nat.zero_le _, by simp⟩ (by simpa using hn)
  rw [hr]
  simp only [Option.bind_some]
  cases r with
  | inl v => simp only at hq ⊢; rw [hok, hq]
  | inr b => simp only at hq ⊢; rw [hok, hq]
end Go.Proofs.Yticemffhlapnnaa
