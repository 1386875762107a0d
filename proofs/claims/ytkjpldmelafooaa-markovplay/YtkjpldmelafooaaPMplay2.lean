/- markov.Play answers pl. -/
import Derived.Test.YtkjpldmelafooaaPMplay
set_option linter.unusedVariables false
set_option linter.unusedSimpArgs false
namespace Go.Proofs.Ytkjpldmelafooaa
open Ev
theorem dropSt {l : List St} {k : Nat} (hk : k < l.length) : l.drop k = l[k] :: l.drop (k + 1) := (List.getElem_cons_drop hk).symm
theorem step_okB {s : Int} {w : List Int} {k g a : Int} (h : (stepS s w k g a).2.2.2.2.2 = 0) : okB (stepS s w k g a).1 (stepS s w k g a).2.1 = true := (step_und h).1
theorem playEq {s : Int} {w : List Int} {l : List St} (n : Nat) (hn : 300 < n) (hs : okB s w = true) (hl : l.length ≤ 100) (hg : ∀ x ∈ l, -9223372036854775808 ≤ x.2.1 ∧ x.2.1 ≤ 9223372036854775807) :
    F.markov_Play n s w l = some ((pl s w l).1, (pl s w l).2.1, ((pl s w l).2.2.2.1 : Int), (pl s w l).2.2.2.2) := by
  have q := (okB_iff.1 hs).2.2.1
  unfold F.markov_Play
  rw [braidValid n (by omega), Option.bind_some, hs, Bool.not_true, cond_false, clone_eq n (by omega), Option.bind_some]
  obtain ⟨r, hr, hq⟩ := loop_spec (body := F.markov_Play_b0 n l)
    (fun x => ∃ k : Nat, x.1 = (k : Int) ∧ k ≤ l.length ∧ okB x.2.1 x.2.2 = true ∧ (pl s w l).1 = (pl x.2.1 x.2.2 (l.drop k)).1 ∧ (pl s w l).2.1 = (pl x.2.1 x.2.2 (l.drop k)).2.1 ∧ (pl s w l).2.2.2.1 = k + (pl x.2.1 x.2.2 (l.drop k)).2.2.2.1 ∧ (pl s w l).2.2.2.2 = (pl x.2.1 x.2.2 (l.drop k)).2.2.2.2)
    (fun x => l.length - x.1.toNat)
    (fun r => match r with
      | .inl x => x.2.1 = (pl s w l).1 ∧ x.2.2 = (pl s w l).2.1 ∧ l.length = (pl s w l).2.2.2.1 ∧ (pl s w l).2.2.2.2 = 0
      | .inr y => y = ((pl s w l).1, (pl s w l).2.1, ((pl s w l).2.2.2.1 : Int), (pl s w l).2.2.2.2)) (fun x hx => by
    obtain ⟨v, s1, w1⟩ := x
    obtain ⟨k, hv, hk, ho, e1, e2, e3, e4⟩ := hx
    dsimp only at hv ho e1 e2 e3 e4
    subst hv
    have q1 := (okB_iff.1 ho).2.2.1
    unfold F.markov_Play_b0
    dsimp only
    by_cases hlt : (k : Int) < (l.length : Int)
    · have hk' : k < l.length := by omega
      have hm := hg l[k] (List.getElem_mem hk')
      rw [decide_eq_true hlt, cond_true, get_at rfl (List.getElem?_eq_getElem hk'), Option.bind_some, apply_eq n (by omega) hm, Option.bind_some]
      rw [dropSt hk'] at e1 e2 e3 e4
      simp only [pl] at e1 e2 e3 e4
      by_cases h0 : (stepS s1 w1 l[k].1 l[k].2.1 l[k].2.2).2.2.2.2.2 = 0
      · rw [if_pos h0] at e1 e2 e3 e4
        rw [decide_eq_true h0, Bool.not_true, cond_false, chk_ok (by omega) (by omega), Option.bind_some]
        exact .inl ⟨_, rfl, ⟨k + 1, rfl, by omega, step_okB h0, e1, e2, by dsimp only at e3 ⊢; omega, e4⟩, by dsimp only; omega⟩
      · rw [if_neg h0] at e1 e2 e3 e4
        rw [decide_eq_false h0, Bool.not_false, cond_true]
        refine .inr ⟨_, rfl, ?_⟩
        dsimp only at e1 e2 e3 e4 ⊢
        rw [e1, e2, e3, e4]; rfl
    · have : k = l.length := by omega
      subst this
      rw [List.drop_length] at e1 e2 e3 e4
      rw [decide_eq_false hlt, cond_false]
      refine .inr ⟨_, rfl, ?_⟩
      exact ⟨e1.symm, e2.symm, by simp only [pl] at e3; omega, e4⟩) n (0, s, w) ⟨0, rfl, Nat.zero_le _, hs, rfl, rfl, by simp, rfl⟩ (by dsimp only; omega)
  rw [hr, Option.bind_some]
  cases r with
  | inl x =>
    obtain ⟨v, s1, w1⟩ := x
    obtain ⟨h1, h2, h3, h4⟩ := hq
    dsimp only at h1 h2 ⊢
    rw [h1, h2, h4, ← h3]
  | inr y => dsimp only at hq ⊢; rw [hq]
end Go.Proofs.Ytkjpldmelafooaa
