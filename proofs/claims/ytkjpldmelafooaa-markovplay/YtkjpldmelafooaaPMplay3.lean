/- The plain law of MarkovPlay. -/
import Derived.Test.YtkjpldmelafooaaPMplay2
set_option linter.unusedVariables false
set_option linter.unusedSimpArgs false
namespace Go.Proofs.Ytkjpldmelafooaa
open Ev
theorem takeSt {l : List St} {k : Nat} (hk : k < l.length) : l.take (k + 1) = l.take k ++ [l[k]] := by
  rw [List.take_add_one, List.getElem?_eq_getElem hk]; rfl
theorem copyEq (n : Nat) (l : List St) (hl : l.length ≤ 100) (hn : l.length < n) : ∃ v, loopN n (F.law36_MarkovPlay_b0 n l) (([] : List St), 0) = some (l, v) := by
  obtain ⟨r, hr, hq⟩ := loop_spec (body := F.law36_MarkovPlay_b0 n l) (fun x => ∃ k : Nat, x = (l.take k, (k : Int)) ∧ k ≤ l.length) (fun x => l.length - x.2.toNat) (fun r => r.1 = l) (fun x hx => by
    obtain ⟨k, hv, hk⟩ := hx
    subst hv
    unfold F.law36_MarkovPlay_b0
    dsimp only
    by_cases hlt : (k : Int) < (l.length : Int)
    · have hk' : k < l.length := by omega
      rw [decide_eq_true hlt, cond_true, get_at rfl (List.getElem?_eq_getElem hk'), Option.bind_some, lim_ok (by simp; omega), Option.bind_some, chk_ok (by omega) (by omega), Option.bind_some]
      exact .inl ⟨_, rfl, ⟨k + 1, by rw [takeSt hk']; rfl, by omega⟩, by dsimp only; omega⟩
    · have : k = l.length := by omega
      subst this
      exact .inr ⟨_, by rw [decide_eq_false hlt, cond_false], by dsimp only; rw [List.take_length]⟩) n ([], 0) ⟨0, rfl, Nat.zero_le _⟩ (by dsimp only; omega)
  obtain ⟨a, v⟩ := r
  dsimp only at hq
  subst hq
  exact ⟨v, hr⟩
theorem trackEq {s : Int} {w : List Int} {l : List St} (n : Nat) (hn : 300 < n) (hs : okB s w = true) (hl : l.length ≤ 100) (hg : ∀ x ∈ l, -9223372036854775808 ≤ x.2.1 ∧ x.2.1 ≤ 9223372036854775807) :
    ∃ v, loopN n (F.law36_MarkovPlay_b1 n l l) (([] : List St), (l.length : Int), 0, 0, s, w) = some ((pl s w l).2.2.1, ((pl s w l).2.2.2.1 : Int), (pl s w l).2.2.2.2, v, (pl s w l).1, (pl s w l).2.1) := by
  obtain ⟨r, hr, hq⟩ := loop_spec (body := F.law36_MarkovPlay_b1 n l l)
    (fun x => ∃ k : Nat, x.2.2.2.1 = (k : Int) ∧ k ≤ l.length ∧ okB x.2.2.2.2.1 x.2.2.2.2.2 = true ∧ ((x.2.2.1 = 0 ∧ x.2.1 = (l.length : Int) ∧ x.1.length = k ∧ (pl s w l).1 = (pl x.2.2.2.2.1 x.2.2.2.2.2 (l.drop k)).1 ∧ (pl s w l).2.1 = (pl x.2.2.2.2.1 x.2.2.2.2.2 (l.drop k)).2.1 ∧ (pl s w l).2.2.1 = (pl x.2.2.2.2.1 x.2.2.2.2.2 (l.drop k)).2.2.1 ++ x.1 ∧ (pl s w l).2.2.2.1 = k + (pl x.2.2.2.2.1 x.2.2.2.2.2 (l.drop k)).2.2.2.1 ∧ (pl s w l).2.2.2.2 = (pl x.2.2.2.2.1 x.2.2.2.2.2 (l.drop k)).2.2.2.2)
      ∨ (x.2.2.1 ≠ 0 ∧ x.1 = (pl s w l).2.2.1 ∧ x.2.1 = ((pl s w l).2.2.2.1 : Int) ∧ x.2.2.1 = (pl s w l).2.2.2.2 ∧ x.2.2.2.2.1 = (pl s w l).1 ∧ x.2.2.2.2.2 = (pl s w l).2.1)))
    (fun x => l.length - x.2.2.2.1.toNat)
    (fun x => x.1 = (pl s w l).2.2.1 ∧ x.2.1 = ((pl s w l).2.2.2.1 : Int) ∧ x.2.2.1 = (pl s w l).2.2.2.2 ∧ x.2.2.2.2.1 = (pl s w l).1 ∧ x.2.2.2.2.2 = (pl s w l).2.1) (fun x hx => by
    obtain ⟨u, at', er', v, s1, w1⟩ := x
    obtain ⟨k, hv, hk, ho, hx⟩ := hx
    dsimp only at hv ho hx
    subst hv
    have q1 := (okB_iff.1 ho).2.2.1
    unfold F.law36_MarkovPlay_b1
    dsimp only
    rcases hx with ⟨x1, x2, x3, e1, e2, e3, e4, e5⟩ | ⟨x1, x2⟩
    · subst x1
      by_cases hlt : (k : Int) < (l.length : Int)
      · have hk' : k < l.length := by omega
        have hm := hg l[k] (List.getElem_mem hk')
        rw [decide_eq_true hlt, cond_true, decide_eq_true rfl, cond_true, get_at rfl (List.getElem?_eq_getElem hk'), Option.bind_some, apply_eq n (by omega) hm, Option.bind_some]
        rw [dropSt hk'] at e1 e2 e3 e4 e5
        simp only [pl] at e1 e2 e3 e4 e5
        by_cases h0 : (stepS s1 w1 l[k].1 l[k].2.1 l[k].2.2).2.2.2.2.2 = 0
        · rw [if_pos h0] at e1 e2 e3 e4 e5
          rw [decide_eq_true h0, Bool.not_true, cond_false, lim_ok (by simp; omega), Option.bind_some, chk_ok (by omega) (by omega), Option.bind_some]
          refine .inl ⟨_, rfl, ⟨k + 1, rfl, by omega, step_okB h0, .inl ⟨rfl, x2, by simp; omega, e1, e2, ?_, by dsimp only at e4 ⊢; omega, e5⟩⟩, by dsimp only; omega⟩
          dsimp only at e3 ⊢
          rw [e3, List.append_assoc]
        · rw [if_neg h0] at e1 e2 e3 e4 e5
          rw [decide_eq_false h0, Bool.not_false, cond_true, chk_ok (by omega) (by omega), Option.bind_some]
          refine .inl ⟨_, rfl, ⟨k + 1, rfl, by omega, ho, .inr ⟨h0, ?_⟩⟩, by dsimp only; omega⟩
          dsimp only at e1 e2 e3 e4 e5 ⊢
          rw [e1, e2, e3, e4, e5]
          exact ⟨rfl, rfl, rfl, rfl, rfl⟩
      · have : k = l.length := by omega
        subst this
        rw [List.drop_length] at e1 e2 e3 e4 e5
        simp only [pl] at e1 e2 e3 e4 e5
        rw [decide_eq_false hlt, cond_false]
        refine .inr ⟨_, rfl, ?_⟩
        dsimp only
        rw [e1, e2, e3, e4, e5]
        exact ⟨rfl, x2, rfl, rfl, rfl⟩
    · by_cases hlt : (k : Int) < (l.length : Int)
      · rw [decide_eq_true hlt, cond_true, decide_eq_false x1, cond_false]
        exact .inr ⟨_, rfl, x2⟩
      · rw [decide_eq_false hlt, cond_false]
        exact .inr ⟨_, rfl, x2⟩) n ([], (l.length : Int), 0, 0, s, w) ⟨0, rfl, Nat.zero_le _, hs, .inl ⟨rfl, rfl, rfl, rfl, rfl, by simp, by simp, rfl⟩⟩ (by dsimp only; omega)
  obtain ⟨u, at', er', v, s1, w1⟩ := r
  obtain ⟨h1, h2, h3, h4, h5⟩ := hq
  dsimp only at h1 h2 h3 h4 h5
  subst h1 h2 h3 h4 h5
  exact ⟨v, hr⟩
theorem pl_valid (l : List St) : ∀ (s : Int) (w : List Int), okB s w = true → okB (pl s w l).1 (pl s w l).2.1 = true := by
  induction l with
  | nil => intro s w h; exact h
  | cons x l ih =>
    intro s w h
    simp only [pl]
    by_cases h0 : (stepS s w x.1 x.2.1 x.2.2).2.2.2.2.2 = 0
    · rw [if_pos h0]; exact ih _ _ (step_okB h0)
    · rw [if_neg h0]; exact h
theorem pl_undo_range (l : List St) : ∀ (s : Int) (w : List Int), ∀ x ∈ (pl s w l).2.2.1, -10 ≤ x.2.1 ∧ x.2.1 ≤ 10 := by
  induction l with
  | nil => intro s w x hx; simp [pl] at hx
  | cons y l ih =>
    intro s w x hx
    simp only [pl] at hx
    by_cases h0 : (stepS s w y.1 y.2.1 y.2.2).2.2.2.2.2 = 0
    · rw [if_pos h0] at hx
      dsimp only at hx
      rw [List.mem_append, List.mem_singleton] at hx
      rcases hx with hx | hx
      · exact ih _ _ x hx
      · subst hx
        exact g_range (s := (stepS s w y.1 y.2.1 y.2.2).1) (w := (stepS s w y.1 y.2.1 y.2.2).2.1) (k := (stepS s w y.1 y.2.1 y.2.2).2.2.1) (a := (stepS s w y.1 y.2.1 y.2.2).2.2.2.2.1) (by rw [(step_und h0).2])
    · rw [if_neg h0] at hx; simp at hx
theorem law36_MarkovPlay_true (z0 : Int) (x1 : List Int) (x2 : List (Int × (Int × Int))) (o0 : Ev.Sh.ok (.int .i64) z0) (o1 : Ev.Sh.ok (.sl (.int .i64)) x1) (o2 : Ev.Sh.ok (.sl (.pr (.int .i64) (.pr (.int .i64) (.int .i64)))) x2) : ∃ n, F.law36_MarkovPlay n z0 x1 x2 = some true := by
  refine ⟨500, ?_⟩
  unfold F.law36_MarkovPlay
  have hg : ∀ x ∈ x2, -9223372036854775808 ≤ x.2.1 ∧ x.2.1 ≤ 9223372036854775807 := fun x hx => i64_of (o2 x hx).2.1
  rw [awake36 500 (by decide), Option.bind_some]
  by_cases hl : 210 < (x1.length : Int)
  · rw [decide_eq_true hl]; rfl
  rw [decide_eq_false hl, Bool.not_true, cond_false, cond_false]
  by_cases hm : 12 < (x2.length : Int)
  · rw [decide_eq_true hm]; rfl
  rw [decide_eq_false hm, cond_false]
  obtain ⟨v, hv⟩ := copyEq 500 x2 (by omega) (by omega)
  rw [hv, Option.bind_some]
  dsimp only
  cases hs : okB z0 x1 with
  | false =>
    have : F.markov_Play 500 z0 x1 x2 = some (0, [], 0, 1) := by
      unfold F.markov_Play
      rw [braidValid 500 (by omega), hs]; rfl
    rw [this, Option.bind_some, braidValid 500 (by omega), hs]
    rfl
  | true =>
    rw [playEq 500 (by decide) hs (by omega) hg, Option.bind_some, braidValid 500 (by omega), hs, Option.bind_some, Bool.not_true, cond_false]
    obtain ⟨v', hv'⟩ := trackEq 500 (by decide) hs (by omega) hg
    rw [hv', Option.bind_some]
    dsimp only
    have ok := pl_valid x2 z0 x1 hs
    have q := (okB_iff.1 ok).2.2.1
    have q' := (okB_iff.1 hs).2.2.1
    obtain ⟨b1, b2, b3⟩ := pl_back x2 z0 x1
    obtain ⟨c1, c2, c3⟩ := pl_len x2 z0 x1
    obtain ⟨d1, d2, d3⟩ := pl_len (pl z0 x1 x2).2.2.1 (pl z0 x1 x2).1 (pl z0 x1 x2).2.1
    have d3 := d3 b3
    rw [decide_eq_true rfl, Bool.not_true, cond_false, decide_eq_true rfl, Bool.not_true, cond_false, lawEqual_t 500 (by omega) (by omega) ⟨rfl, rfl⟩, Option.bind_some, Bool.not_true, cond_false]
    rw [playEq 500 (by decide) ok (by omega) (fun x hx => by have := pl_undo_range x2 z0 x1 x hx; omega), Option.bind_some]
    dsimp only
    rw [decide_eq_true b3, cond_true, decide_eq_true (by rw [d3]), cond_true, b1, b2, lawEqual_t 500 (by omega) (by omega) ⟨rfl, rfl⟩]
    rfl
end Go.Proofs.Ytkjpldmelafooaa
