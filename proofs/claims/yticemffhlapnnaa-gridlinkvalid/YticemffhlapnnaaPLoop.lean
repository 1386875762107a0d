/- Loops that count. -/
import Derived.Test.YticemffhlapnnaaPLib
set_option linter.unusedVariables false
namespace Go.Proofs.Yticemffhlapnnaa
open Ev
theorem count_loop {S R : Type} {body : S → Option (S ⊕ R)} (st : Nat → S) (m : Nat) {r : R} (h : ∀ k, k < m → body (st k) = some (.inl (st (k + 1)))) (he : body (st m) = some (.inr r)) : ∀ n, m < n → loopN n body (st 0) = some r := by
  have key : ∀ (j k n : Nat), k + j = m → j < n → loopN n body (st k) = some r := by
    intro j
    induction j with
    | zero => intro k n hk hn; obtain ⟨n, rfl⟩ : ∃ n', n = n' + 1 := ⟨n - 1, by omega⟩
              obtain rfl : k = m := by omega
              simp only [loopN, he, Option.bind_some]
    | succ j ih => intro k n hk hn; obtain ⟨n, rfl⟩ : ∃ n', n = n' + 1 := ⟨n - 1, by omega⟩
                   simp only [loopN, h k (by omega), Option.bind_some]
                   exact ih (k + 1) n (by omega) (by omega)
  intro n hn
  exact key m 0 n (by omega) hn
end Go.Proofs.Yticemffhlapnnaa
