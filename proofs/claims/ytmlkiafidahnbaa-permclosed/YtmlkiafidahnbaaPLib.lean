/- Words for the plain laws: checked sums, reads, cuts and loops that come through. -/
import Derived.Test.YtmlkiafidahnbaaF
import Derived.Test.YtmlkiafidahnbaaTrod
set_option linter.unusedVariables false
namespace Go.Proofs.Ytmlkiafidahnbaa
open Ev
theorem chk_ok {z : Int} (h1 : -9223372036854775808 ≤ z) (h2 : z ≤ 9223372036854775807) : chk z = some z := if_pos ⟨h1, h2⟩
theorem wr_ok {z : Int} (h1 : -9223372036854775808 ≤ z) (h2 : z ≤ 9223372036854775807) : wr z = z := wr_of ⟨h1, h2⟩
theorem lim_ok {n : Nat} (h : n ≤ 1099511627776) : lim n = some () := if_pos h
theorem pos_ok {n : Int} (h1 : 0 ≤ n) (h2 : n ≤ 1099511627776) : pos n = some () := if_pos ⟨h1, h2⟩
theorem posz_ok {n : Int} (h1 : 0 < n) (h2 : n ≤ 1099511627776) : posz n = some () := if_pos ⟨h1, h2⟩
theorem nz_ok {n : Int} (h : n ≠ 0) : nz n = some () := if_pos h
theorem cut_ok {a b : Int} {n : Nat} (h1 : 0 ≤ a) (h2 : a ≤ b) (h3 : b ≤ n) : cut a b n = some () := if_pos ⟨h1, h2, h3⟩
theorem get_ok {α : Type} {xs : List α} {i : Int} (h0 : 0 ≤ i) (h1 : i.toNat < xs.length) : Ev.get xs i = some xs[i.toNat] := by
  unfold Ev.get; rw [if_pos h0, List.getElem?_eq_getElem h1]
theorem get_nat {α : Type} {xs : List α} {k : Nat} : Ev.get xs (k : Int) = xs[k]? := by
  unfold Ev.get; rw [if_pos (by omega)]; simp
theorem get_at {α : Type} {xs : List α} {k : Nat} {i : Int} {x : α} (hi : i = (k : Int)) (h : xs[k]? = some x) : Ev.get xs i = some x := by
  subst hi; rw [get_nat]; exact h
/-- A loop that comes to its end. -/
theorem loop_spec {S R : Type} {body : S → Option (S ⊕ R)} (I : S → Prop) (μ : S → Nat) (Q : R → Prop)
    (step : ∀ s, I s → (∃ s', body s = some (.inl s') ∧ I s' ∧ μ s' < μ s) ∨ ∃ r, body s = some (.inr r) ∧ Q r) : ∀ (n : Nat) (s : S), I s → μ s < n → ∃ r, loopN n body s = some r ∧ Q r
  | 0, s, _, h => absurd h (Nat.not_lt_zero _)
  | n + 1, s, hI, h => by
    rcases step s hI with ⟨s', h1, h2, h3⟩ | ⟨r, h1, h2⟩
    · obtain ⟨r, h4, h5⟩ := loop_spec I μ Q step n s' h2 (by omega)
      exact ⟨r, by simp only [loopN, h1, Option.bind_some]; exact h4, h5⟩
    · exact ⟨r, by simp only [loopN, h1, Option.bind_some], h2⟩
end Go.Proofs.Ytmlkiafidahnbaa
