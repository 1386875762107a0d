/- Braids compared; the examples of the chapter. -/
import Derived.Test.YtkjpldmelafooaaPMstep
set_option linter.unusedVariables false
set_option linter.unusedSimpArgs false
namespace Go.Proofs.Ytkjpldmelafooaa
open Ev
theorem eqStep {u v : List Int} (n : Nat) (h2 : u.length = v.length) (hl : u.length ≤ 1000) (k : Nat) (hk : k ≤ u.length) (hI : u.take k = v.take k) :
    (k < u.length ∧ u.take (k + 1) = v.take (k + 1) ∧ F.ref36_Equal_b0 n u v (k : Int) = some (.inl ((k + 1 : Nat) : Int))) ∨ (u ≠ v ∧ F.ref36_Equal_b0 n u v (k : Int) = some (.inr (.inr false))) ∨ (u = v ∧ F.ref36_Equal_b0 n u v (k : Int) = some (.inr (.inl (k : Int)))) := by
  unfold F.ref36_Equal_b0
  dsimp only
  by_cases hlt : (k : Int) < (u.length : Int)
  · have hk' : k < u.length := by omega
    have hk2 : k < v.length := by omega
    rw [decide_eq_true hlt, cond_true, get_d rfl hk', Option.bind_some, get_d rfl hk2, Option.bind_some]
    by_cases hc : u.getD k 0 = v.getD k 0
    · left
      refine ⟨hk', ?_, ?_⟩
      · rw [List.take_add_one, List.take_add_one, hI, getD_of hk', getD_of (show k < v.length by omega), hc]
      · rw [decide_eq_true hc, chk_ok (by omega) (by omega)]; rfl
    · right; left
      exact ⟨fun h => hc (by rw [h]), by rw [decide_eq_false hc]; rfl⟩
  · right; right
    have : k = u.length := by omega
    refine ⟨?_, by rw [decide_eq_false hlt]; rfl⟩
    rw [this, List.take_length, h2, List.take_length] at hI
    exact hI
theorem eqLoop {u v : List Int} (n : Nat) (h2 : u.length = v.length) (hl : u.length ≤ 1000) (hn : u.length < n) : ∃ r, loopN n (F.ref36_Equal_b0 n u v) 0 = some r ∧ ((∃ x, r = .inl x ∧ u = v) ∨ (r = .inr false ∧ u ≠ v)) := by
  apply loop_spec (fun x => ∃ k : Nat, x = (k : Int) ∧ k ≤ u.length ∧ u.take k = v.take k) (fun x => u.length - x.toNat)
  · intro x hx
    obtain ⟨k, hv, hk, hI⟩ := hx
    subst hv
    rcases eqStep n h2 hl k hk hI with ⟨h3, h4, h5⟩ | ⟨h3, h4⟩ | ⟨h3, h4⟩
    · exact .inl ⟨_, h5, ⟨k + 1, rfl, by omega, h4⟩, by omega⟩
    · exact .inr ⟨_, h4, .inr ⟨rfl, h3⟩⟩
    · exact .inr ⟨_, h4, .inl ⟨_, rfl, h3⟩⟩
  · exact ⟨0, rfl, Nat.zero_le _, rfl⟩
  · omega
theorem refEqual {a b : Int} {u v : List Int} (n : Nat) (hn : u.length < n) (hl : u.length ≤ 1000) : ∃ r, F.ref36_Equal n a u b v = some r ∧ (r = true ↔ (a = b ∧ u = v)) := by
  unfold F.ref36_Equal
  by_cases h1 : a = b
  · by_cases h2 : (u.length : Int) = (v.length : Int)
    · rw [decide_eq_true h1, decide_eq_true h2]
      obtain ⟨r, hr, hq⟩ := eqLoop (u := u) (v := v) n (by omega) hl hn
      rw [hr]
      rcases hq with ⟨x, rfl, hq⟩ | ⟨rfl, hq⟩
      · exact ⟨true, rfl, fun _ => ⟨h1, hq⟩, fun _ => rfl⟩
      · exact ⟨false, rfl, fun h => absurd h (by decide), fun h => absurd h.2 hq⟩
    · rw [decide_eq_true h1, decide_eq_false h2]
      exact ⟨false, rfl, fun h => absurd h (by decide), fun h => absurd (by rw [h.2]) h2⟩
  · rw [decide_eq_false h1]
    exact ⟨false, rfl, fun h => absurd h (by decide), fun h => absurd h.1 h1⟩
theorem lawEqual {a b : Int} {u v : List Int} (n : Nat) (hn : u.length < n) (hl : u.length ≤ 1000) : ∃ r, F.law36_equal n a u b v = some r ∧ (r = true ↔ (a = b ∧ u = v)) := by
  obtain ⟨r, h, hr⟩ := refEqual (a := a) (b := b) (u := u) (v := v) n hn hl
  exact ⟨r, by unfold F.law36_equal; rw [h]; rfl, hr⟩
theorem lawEqual_t {a b : Int} {u v : List Int} (n : Nat) (hn : u.length < n) (hl : u.length ≤ 1000) (h : a = b ∧ u = v) : F.law36_equal n a u b v = some true := by
  obtain ⟨r, h1, h2⟩ := lawEqual (a := a) (b := b) (u := u) (v := v) n hn hl
  rw [h1, h2.mpr h]
theorem awake36 (n : Nat) (hn : 20 < n) : F.law36_awake n = some true := by
  unfold F.law36_awake
  have e1 : stepS 3 [1, 2, 1] 5 0 0 = (3, [2, 1, 2], 5, 0, 0, 0) := by decide
  have e2 : stepS 1 [] 2 (-1) 0 = (2, [-1], 3, 0, 0, 0) := by decide
  rw [apply_eq n (by simp; omega) (by omega), apply_eq n (by simp; omega) (by omega), e1, e2]
  rw [Option.bind_some, Option.bind_some, lawEqual_t n (by simp; omega) (by simp) ⟨rfl, rfl⟩, Option.bind_some, lawEqual_t n (by simp; omega) (by simp) ⟨rfl, rfl⟩, Option.bind_some]
  rfl
end Go.Proofs.Ytkjpldmelafooaa
