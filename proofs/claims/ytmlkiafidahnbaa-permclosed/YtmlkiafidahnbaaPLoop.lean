/- Loops that count. -/
import Derived.Test.YtmlkiafidahnbaaPLib
set_option linter.unusedVariables false
namespace Go.Proofs.Ytmlkiafidahnbaa
open Ev
theorem count_loop {S R : Type} {body : S → Option (S ⊕ R)} (st : Nat → S) (m : Nat) {r : R} (h : ∀ k, k < m → body (st k) = some (.inl (st (k + 1)))) (he : body (st m) = some (.inr r)) : ∀ n, m < n → loopN n body (st 0) = some r := by
  have key : ∀ (j k n : Nat), k + j = m → j < n → loopN n body (st k) = some r := by
    intro j
    induction j with
    | zero => intro k n hk hn; obtain ⟨n, rfl⟩ : ∃ n', n = n' + 1 := ⟨n - 1, by omega⟩
              obtain rfl : k = m := by omega
              simp only [loopN, he, Option.bind_some]
    | succ j ih => intro k n hk hn; obtain ⟨n, rfl⟩ : ∃ n', n = n' + 1 := ⟨n - 1, by omega⟩
                   simp only [loopN, h k (by omega), Option.bind_some]
                   exact ih (k + 1) n (by omega) (by omega)
  intro n hn
  exact key m 0 n (by omega) hn
/-- A loop that may end early: at the first k where it does. -/
theorem count_until {S R : Type} {body : S → Option (S ⊕ R)} (st : Nat → S) (m : Nat) (n : Nat) (hn : m < n) (h : ∀ k, k < m → body (st k) = some (.inl (st (k + 1))) ∨ ∃ r, body (st k) = some (.inr r)) {r0 : R} (he : body (st m) = some (.inr r0)) :
    (loopN n body (st 0) = some r0 ∧ ∀ k, k < m → body (st k) = some (.inl (st (k + 1)))) ∨ ∃ k, k < m ∧ (∀ j, j < k → body (st j) = some (.inl (st (j + 1)))) ∧ ∃ r, body (st k) = some (.inr r) ∧ loopN n body (st 0) = some r := by
  by_cases hall : ∀ k, k < m → body (st k) = some (.inl (st (k + 1)))
  · exact .inl ⟨count_loop st m hall he n hn, hall⟩
  · right
    have hex : ∃ k, k < m ∧ ¬ body (st k) = some (.inl (st (k + 1))) := by
      by_cases hc : ∃ k, k < m ∧ ¬ body (st k) = some (.inl (st (k + 1)))
      · exact hc
      · exact absurd (fun k hk => by_contra' fun hn => hc ⟨k, hk, hn⟩) hall
    obtain ⟨k, ⟨hk, hbad⟩, hmin⟩ := least hex
    have hpre : ∀ j, j < k → body (st j) = some (.inl (st (j + 1))) := fun j hj => by_contra' fun hn => hmin j hj ⟨by omega, hn⟩
    rcases h k hk with h1 | ⟨r, h1⟩
    · exact absurd h1 hbad
    · exact ⟨k, hk, hpre, r, h1, count_loop st k hpre h1 n (by omega)⟩
where
  by_contra' {p : Prop} (h : ¬ p → False) : p := Classical.byContradiction h
  least {p : Nat → Prop} (h : ∃ k, p k) : ∃ k, p k ∧ ∀ j, j < k → ¬ p j := by
    obtain ⟨k, hk⟩ := h
    induction k using Nat.strongRecOn with
    | _ k ih =>
      by_cases hc : ∃ j, j < k ∧ p j
      · obtain ⟨j, hj, hp⟩ := hc; exact ih j hj hp
      · exact ⟨k, hk, fun j hj hp => hc ⟨j, hj, hp⟩⟩
end Go.Proofs.Ytmlkiafidahnbaa
