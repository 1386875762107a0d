/- Two loops side by side; a place in a list is found, and something is put beside it. -/
import Derived.Test.YticemffhlapnnaaPLoop
set_option linter.unusedVariables false
set_option linter.unusedSimpArgs false
namespace Go.Proofs.Yticemffhlapnnaa
namespace Gl
open Ev
/-- Two loops that go in step. -/
theorem two_loop {S1 S2 R1 R2 : Type} {b1 : S1 → Option (S1 ⊕ R1)} {b2 : S2 → Option (S2 ⊕ R2)} {I : Nat → S1 → S2 → Prop} {Q : R1 → R2 → Prop} (m : Nat)
    (h : ∀ k a b, k < m → I k a b → ∃ a' b', b1 a = some (.inl a') ∧ b2 b = some (.inl b') ∧ I (k + 1) a' b')
    (he : ∀ a b, I m a b → ∃ r1 r2, b1 a = some (.inr r1) ∧ b2 b = some (.inr r2) ∧ Q r1 r2) :
    ∀ (d k n : Nat) a b, k + d = m → d < n → I k a b → ∃ r1 r2, loopN n b1 a = some r1 ∧ loopN n b2 b = some r2 ∧ Q r1 r2
  | 0, k, n, a, b, hk, hn, hI => by
    obtain ⟨n, rfl⟩ : ∃ n', n = n' + 1 := ⟨n - 1, by omega⟩
    have : k = m := by omega
    subst this
    obtain ⟨r1, r2, e1, e2, hQ⟩ := he a b hI
    exact ⟨r1, r2, by simp [loopN, e1], by simp [loopN, e2], hQ⟩
  | d + 1, k, n, a, b, hk, hn, hI => by
    obtain ⟨n, rfl⟩ : ∃ n', n = n' + 1 := ⟨n - 1, by omega⟩
    obtain ⟨a', b', e1, e2, hI'⟩ := h k a b (by omega) hI
    obtain ⟨r1, r2, f1, f2, hQ⟩ := two_loop m h he d (k + 1) n a' b' (by omega) (by omega) hI'
    exact ⟨r1, r2, by simp [loopN, e1, f1], by simp [loopN, e2, f2], hQ⟩
theorem index_eq {L R : List Int} {x : Int} (n : Nat) (hL : x ∉ L) (hl : L.length < 1000000) (hn : L.length < n) : F.slices_Index_Lint_int n (L ++ x :: R) x = some (L.length : Int) := by
  unfold F.slices_Index_Lint_int
  have hlp : loopN n (F.slices_Index_Lint_int_b0 n (L ++ x :: R) x) 0 = some (.inr (L.length : Int)) := by
    refine count_loop (body := F.slices_Index_Lint_int_b0 n (L ++ x :: R) x) (fun k => (k : Int)) L.length (fun k hk => ?_) ?_ n hn
    · unfold F.slices_Index_Lint_int_b0
      have h1 : (L ++ x :: R)[k]? = some L[k] := by rw [List.getElem?_append_left hk, List.getElem?_eq_getElem hk]
      have h2 : x ≠ L[k] := fun e => hL (e ▸ List.getElem_mem hk)
      have h3 : ((k : Nat) : Int) < ((L ++ x :: R).length : Int) := by simp; omega
      dsimp only
      rw [decide_eq_true h3, cond_true, get_at rfl h1, Option.bind_some, decide_eq_false h2, cond_false, chk_ok (by omega) (by omega)]
      rfl
    · unfold F.slices_Index_Lint_int_b0
      have h1 : (L ++ x :: R)[L.length]? = some x := by simp
      have h3 : ((L.length : Nat) : Int) < ((L ++ x :: R).length : Int) := by simp; omega
      dsimp only
      rw [decide_eq_true h3, cond_true, get_at rfl h1, Option.bind_some, decide_eq_true rfl, cond_true]
  rw [hlp]
  rfl
theorem insert0 {L R : List Int} {x f : Int} (n : Nat) (hl : (L ++ x :: R).length < 1000000) : F.slices_Insert_Lint_int n (L ++ x :: R) (L.length : Int) [f] = some (L ++ f :: x :: R) := by
  unfold F.slices_Insert_Lint_int insF
  rw [if_pos ⟨by omega, by simp; omega, by simp, by simp only [List.length_append, List.length_cons, List.length_nil] at hl ⊢; omega⟩]
  simp
theorem insert1 {L R : List Int} {x f : Int} (n : Nat) (hl : (L ++ x :: R).length < 1000000) : F.slices_Insert_Lint_int n (L ++ x :: R) ((L.length : Int) + 1) [f] = some (L ++ x :: f :: R) := by
  unfold F.slices_Insert_Lint_int insF
  rw [if_pos ⟨by omega, by simp; omega, by simp, by simp only [List.length_append, List.length_cons, List.length_nil] at hl ⊢; omega⟩]
  have : ((L.length : Int) + 1).toNat = L.length + 1 := by omega
  rw [this, List.take_length_add_append, List.drop_length_add_append]
  simp
end Gl
end Go.Proofs.Yticemffhlapnnaa
