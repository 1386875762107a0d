/- Joined: PLib, PLoop, PBraid. -/
import Derived.Test.YtlkmcbgkohpmiaaF
import Derived.Test.YtlkmcbgkohpmiaaTrod
/- Words for the plain laws: checked sums, reads, cuts and loops that come through. -/
set_option linter.unusedVariables false
namespace Go.Proofs.Ytlkmcbgkohpmiaa
open Ev
theorem chk_ok {z : Int} (h1 : -9223372036854775808 ≤ z) (h2 : z ≤ 9223372036854775807) : chk z = some z := if_pos ⟨h1, h2⟩
theorem wr_ok {z : Int} (h1 : -9223372036854775808 ≤ z) (h2 : z ≤ 9223372036854775807) : wr z = z := wr_of ⟨h1, h2⟩
theorem lim_ok {n : Nat} (h : n ≤ 1099511627776) : lim n = some () := if_pos h
theorem pos_ok {n : Int} (h1 : 0 ≤ n) (h2 : n ≤ 1099511627776) : pos n = some () := if_pos ⟨h1, h2⟩
theorem posz_ok {n : Int} (h1 : 0 < n) (h2 : n ≤ 1099511627776) : posz n = some () := if_pos ⟨h1, h2⟩
theorem nz_ok {n : Int} (h : n ≠ 0) : nz n = some () := if_pos h
theorem cut_ok {a b : Int} {n : Nat} (h1 : 0 ≤ a) (h2 : a ≤ b) (h3 : b ≤ n) : cut a b n = some () := if_pos ⟨h1, h2, h3⟩
theorem get_ok {α : Type} {xs : List α} {i : Int} (h0 : 0 ≤ i) (h1 : i.toNat < xs.length) : Ev.get xs i = some xs[i.toNat] := by
  unfold Ev.get; rw [if_pos h0, List.getElem?_eq_getElem h1]
theorem get_nat {α : Type} {xs : List α} {k : Nat} : Ev.get xs (k : Int) = xs[k]? := by
  unfold Ev.get; rw [if_pos (by omega)]; simp
theorem get_at {α : Type} {xs : List α} {k : Nat} {i : Int} {x : α} (hi : i = (k : Int)) (h : xs[k]? = some x) : Ev.get xs i = some x := by
  subst hi; rw [get_nat]; exact h
/-- A loop that comes to its end. -/
theorem loop_spec {S R : Type} {body : S → Option (S ⊕ R)} (I : S → Prop) (μ : S → Nat) (Q : R → Prop)
    (step : ∀ s, I s → (∃ s', body s = some (.inl s') ∧ I s' ∧ μ s' < μ s) ∨ ∃ r, body s = some (.inr r) ∧ Q r) : ∀ (n : Nat) (s : S), I s → μ s < n → ∃ r, loopN n body s = some r ∧ Q r
  | 0, s, _, h => absurd h (Nat.not_lt_zero _)
  | n + 1, s, hI, h => by
    rcases step s hI with ⟨s', h1, h2, h3⟩ | ⟨r, h1, h2⟩
    · obtain ⟨r, h4, h5⟩ := loop_spec I μ Q step n s' h2 (by omega)
      exact ⟨r, by simp only [loopN, h1, Option.bind_some]; exact h4, h5⟩
    · exact ⟨r, by simp only [loopN, h1, Option.bind_some], h2⟩
end Go.Proofs.Ytlkmcbgkohpmiaa

/- Loops that count. -/
set_option linter.unusedVariables false
namespace Go.Proofs.Ytlkmcbgkohpmiaa
open Ev
theorem count_loop {S R : Type} {body : S → Option (S ⊕ R)} (st : Nat → S) (m : Nat) {r : R} (h : ∀ k, k < m → body (st k) = some (.inl (st (k + 1)))) (he : body (st m) = some (.inr r)) : ∀ n, m < n → loopN n body (st 0) = some r := by
  have key : ∀ (j k n : Nat), k + j = m → j < n → loopN n body (st k) = some r := by
    intro j
    induction j with
    | zero => intro k n hk hn; obtain ⟨n, rfl⟩ : ∃ n', n = n' + 1 := ⟨n - 1, by omega⟩
              obtain rfl : k = m := by omega
              simp only [loopN, he, Option.bind_some]
    | succ j ih => intro k n hk hn; obtain ⟨n, rfl⟩ : ∃ n', n = n' + 1 := ⟨n - 1, by omega⟩
                   simp only [loopN, h k (by omega), Option.bind_some]
                   exact ih (k + 1) n (by omega) (by omega)
  intro n hn
  exact key m 0 n (by omega) hn
/-- A loop that may end early: at the first k where it does. -/
theorem count_until {S R : Type} {body : S → Option (S ⊕ R)} (st : Nat → S) (m : Nat) (n : Nat) (hn : m < n) (h : ∀ k, k < m → body (st k) = some (.inl (st (k + 1))) ∨ ∃ r, body (st k) = some (.inr r)) {r0 : R} (he : body (st m) = some (.inr r0)) :
    (loopN n body (st 0) = some r0 ∧ ∀ k, k < m → body (st k) = some (.inl (st (k + 1)))) ∨ ∃ k, k < m ∧ (∀ j, j < k → body (st j) = some (.inl (st (j + 1)))) ∧ ∃ r, body (st k) = some (.inr r) ∧ loopN n body (st 0) = some r := by
  by_cases hall : ∀ k, k < m → body (st k) = some (.inl (st (k + 1)))
  · exact .inl ⟨count_loop st m hall he n hn, hall⟩
  · right
    have hex : ∃ k, k < m ∧ ¬ body (st k) = some (.inl (st (k + 1))) := by
      by_cases hc : ∃ k, k < m ∧ ¬ body (st k) = some (.inl (st (k + 1)))
      · exact hc
      · exact absurd (fun k hk => by_contra' fun hn => hc ⟨k, hk, hn⟩) hall
    obtain ⟨k, ⟨hk, hbad⟩, hmin⟩ := least hex
    have hpre : ∀ j, j < k → body (st j) = some (.inl (st (j + 1))) := fun j hj => by_contra' fun hn => hmin j hj ⟨by omega, hn⟩
    rcases h k hk with h1 | ⟨r, h1⟩
    · exact absurd h1 hbad
    · exact ⟨k, hk, hpre, r, h1, count_loop st k hpre h1 n (by omega)⟩
where
  by_contra' {p : Prop} (h : ¬ p → False) : p := Classical.byContradiction h
  least {p : Nat → Prop} (h : ∃ k, p k) : ∃ k, p k ∧ ∀ j, j < k → ¬ p j := by
    obtain ⟨k, hk⟩ := h
    induction k using Nat.strongRecOn with
    | _ k ih =>
      by_cases hc : ∃ j, j < k ∧ p j
      · obtain ⟨j, hj, hp⟩ := hc; exact ih j hj hp
      · exact ⟨k, hk, fun j hj hp => hc ⟨j, hj, hp⟩⟩
end Go.Proofs.Ytlkmcbgkohpmiaa

/- Braids: validity in plain words. -/
set_option linter.unusedVariables false
set_option linter.unusedSimpArgs false
namespace Go.Proofs.Ytlkmcbgkohpmiaa
open Ev
/-- A valid braid. -/
def okW (s : Int) (w : List Int) : Bool := w.all fun x => decide (x ≠ 0) && (decide (-s < x) && decide (x < s))
def okB (s : Int) (w : List Int) : Bool := decide (1 ≤ s) && (decide (s ≤ 10) && (decide (w.length ≤ 200) && okW s w))
theorem okB_iff {s : Int} {w : List Int} : okB s w = true ↔ (1 ≤ s ∧ s ≤ 10 ∧ w.length ≤ 200 ∧ ∀ x ∈ w, x ≠ 0 ∧ -s < x ∧ x < s) := by
  simp only [okB, okW, Bool.and_eq_true, decide_eq_true_eq, List.all_eq_true]
theorem drop_step {w : List Int} {k : Nat} (hk : k < w.length) : w.drop k = w[k] :: w.drop (k + 1) := (List.getElem_cons_drop hk).symm
theorem braidValid {s : Int} {w : List Int} (n : Nat) (hn : w.length < n) : F.braid_Valid n s w = some (okB s w) := by
  unfold F.braid_Valid
  by_cases h1 : s < 1
  · rw [decide_eq_true h1]; simp [okB]; omega
  rw [decide_eq_false h1]
  by_cases h2 : 10 < s
  · rw [decide_eq_true h2]; simp [okB]; omega
  rw [decide_eq_false h2]
  by_cases h3 : (200 : Int) < (w.length : Int)
  · rw [decide_eq_true h3]; simp [okB]; omega
  rw [decide_eq_false h3]
  simp only [cond_false]
  have hok : okB s w = okW s w := by
    unfold okB; rw [decide_eq_true (show 1 ≤ s by omega), decide_eq_true (show s ≤ 10 by omega), decide_eq_true (show w.length ≤ 200 by omega)]; simp
  obtain ⟨r, hr, hq⟩ := loop_spec (body := F.braid_Valid_b0 n s w) (fun v => ∃ k : Nat, v = (k : Int) ∧ k ≤ w.length ∧ okW s w = okW s (w.drop k)) (fun v => w.length - v.toNat)
    (fun r => match r with | .inl _ => okW s w = true | .inr b => b = okW s w) (fun v ⟨k, hv, hk, hI⟩ => by
      subst hv
      unfold F.braid_Valid_b0
      dsimp only
      by_cases hlt : (k : Int) < (w.length : Int)
      · rw [decide_eq_true hlt]
        have hk' : k < w.length := by omega
        have hs : okW s (w.drop k) = (decide (w[k] ≠ 0) && (decide (-s < w[k]) && decide (w[k] < s)) && okW s (w.drop (k + 1))) := by
          unfold okW; rw [drop_step hk', List.all_cons]
        simp only [cond_true, get_nat, List.getElem?_eq_getElem hk', Option.bind_some]
        rw [chk_ok (by omega) (by omega), chk_ok (by omega) (by omega)]
        simp only [Option.bind_some]
        by_cases c1 : w[k] = 0
        · rw [decide_eq_true c1]; right; exact ⟨_, rfl, by rw [hI, hs]; simp [c1]⟩
        rw [decide_eq_false c1]
        by_cases c2 : w[k] ≤ -s
        · rw [decide_eq_true c2]; right; exact ⟨_, rfl, by rw [hI, hs, decide_eq_false (show ¬ (-s < w[k]) by omega)]; simp⟩
        rw [decide_eq_false c2]
        by_cases c3 : s ≤ w[k]
        · rw [decide_eq_true c3]; right; exact ⟨_, rfl, by rw [hI, hs, decide_eq_false (show ¬ (w[k] < s) by omega)]; simp⟩
        rw [decide_eq_false c3]
        left
        refine ⟨_, rfl, ⟨k + 1, by simp, by omega, ?_⟩, by omega⟩
        rw [hI, hs, decide_eq_true (show w[k] ≠ 0 from c1), decide_eq_true (show -s < w[k] by omega), decide_eq_true (show w[k] < s by omega)]; simp
      · rw [decide_eq_false hlt]
        right
        have : k = w.length := by omega
        subst this
        exact ⟨_, rfl, by show okW s w = true; rw [hI]; simp [okW]⟩) n 0 ⟨0, rfl, Nat.zero_le _, by simp⟩ (by simpa using hn)
  rw [hr]
  simp only [Option.bind_some]
  cases r with
  | inl v => simp only at hq ⊢; rw [hok, hq]
  | inr b => simp only at hq ⊢; rw [hok, hq]
end Go.Proofs.Ytlkmcbgkohpmiaa
