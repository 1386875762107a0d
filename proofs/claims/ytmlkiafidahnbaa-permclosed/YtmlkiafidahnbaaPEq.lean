/- Lists that are compared element by element. -/
import Derived.Test.YtmlkiafidahnbaaPLoop
set_option linter.unusedVariables false
set_option linter.unusedSimpArgs false
namespace Go.Proofs.Ytmlkiafidahnbaa
open Ev
theorem eqList {α : Type} [DecidableEq α] {body : Int → Option (Int ⊕ (Int ⊕ Bool))} {a b : List α} (n : Nat) (hl : a.length = b.length) (hn : a.length < n)
    (step : ∀ (k : Nat) (x y : α), a[k]? = some x → b[k]? = some y → (x = y ∧ body (k : Int) = some (.inl ((k + 1 : Nat) : Int))) ∨ (x ≠ y ∧ body (k : Int) = some (.inr (.inr false))))
    (last : body (a.length : Int) = some (.inr (.inl (a.length : Int)))) :
    ((loopN n body 0).bind fun o => match o with | .inl _ => some true | .inr b => some b) = some (decide (a = b)) := by
  obtain ⟨r, hr, hq⟩ := loop_spec (body := body) (fun v => ∃ k : Nat, v = (k : Int) ∧ k ≤ a.length ∧ (a = b ↔ a.drop k = b.drop k)) (fun v => a.length - v.toNat)
    (fun r => match r with | .inl _ => a = b | .inr c => c = decide (a = b)) (fun v ⟨k, hv, hk, hI⟩ => by
      subst hv
      by_cases hlt : k < a.length
      · have ha : a[k]? = some (a[k]'hlt) := List.getElem?_eq_getElem _
        have hb : b[k]? = some (b[k]'(by omega)) := List.getElem?_eq_getElem _
        have da := (List.getElem_cons_drop hlt).symm
        have db := (List.getElem_cons_drop (show k < b.length by omega)).symm
        rcases step k _ _ ha hb with ⟨h1, h2⟩ | ⟨h1, h2⟩
        · refine .inl ⟨_, h2, ⟨k + 1, rfl, by omega, ?_⟩, by omega⟩
          rw [hI, da, db, h1]
          exact ⟨fun h => (List.cons.inj h).2, fun h => by rw [h]⟩
        · refine .inr ⟨_, h2, ?_⟩
          show false = decide (a = b)
          rw [decide_eq_false]
          intro h
          rw [hI, da, db] at h
          exact h1 (List.cons.inj h).1
      · obtain rfl : k = a.length := by omega
        refine .inr ⟨_, last, ?_⟩
        show a = b
        rw [hI, List.drop_length, hl, List.drop_length]) n 0 ⟨0, rfl, Nat.zero_le _, by simp⟩ (by simpa using hn)
  rw [hr, Option.bind_some]
  cases r with
  | inl v => simp only at hq ⊢; rw [decide_eq_true hq]
  | inr c => simp only at hq ⊢; rw [hq]
end Go.Proofs.Ytmlkiafidahnbaa
