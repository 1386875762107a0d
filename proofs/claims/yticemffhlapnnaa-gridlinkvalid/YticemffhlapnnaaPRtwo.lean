/- Two loops side by side; a place in a list is found, and something is put beside it. -/
import Derived.Test.YticemffhlapnnaaPLoop
set_option linter.unusedVariables false
set_option linter.unusedSimpArgs false
namespace Go.Proofs.Yticemffhlapnnaa
namespace Gl
open Ev
/-- Two loops that go in step. -/
theorem two_loop {S1 S2 R1 R2 : Type} {b1 : S1 → Option (S1 ⊕ R1)} {b2 : S2 → Option (S2 ⊕ R2)} {I : Nat → S1 → S2 → Prop} {Q : R1 → R2 → Prop} (m : Nat)
    (h : ∀ k a b, k < m → I k a b → ∃ a' b', b1 a = some (.inl a') ∧ b2 b = some (.inl b') ∧ I (k + 1) a' b')
    (he : ∀ a b, I m a b → ∃ r1 r2, b1 a = some (.inr r1) ∧ b2 b = some (.inr r2) ∧ Q r1 r2) :
    ∀ (d k n : Nat) a b, k + d = m → d < n → I k a b → ∃ r1 r2, loopN n b1 a = some r1 ∧ loopN n b2 b = some r2 ∧ Q r1 r2
  | 0, k, n, a, b, hk, hn, hI => by
    obtain ⟨n, rfl⟩ : ∃ n', n = n' + 1 := ⟨n - 1, by omega⟩
    have : k = m := by omega
    subst this
    obtain ⟨r1, r2, e1, e2, hQ⟩ := he a b hI
    exact ⟨r1, r2, by simp [loopN, e1], by simp [loopN, e2], hQ⟩
  | d + 1, k, n, a, b, hk, hn, hI => by
    obtain ⟨n, rfl⟩ : ∃ n', n = n' + 1 := ⟨n - 1, by omega⟩
    obtain ⟨a', b', e1, e2, hI'⟩ := h k a b (by omega) hI
    obtain ⟨r1, r2, f1, f2, hQ⟩ := two_loop m h he d (k + 1) n a' b' (by omega) (by omega) hI'
    exact ⟨r1, r2, by simp [loopN, e1, f1], by simp [loopN, e2, f2], hQ⟩
end Gl
end Go.Proofs.Yticemffhlapnnaa
