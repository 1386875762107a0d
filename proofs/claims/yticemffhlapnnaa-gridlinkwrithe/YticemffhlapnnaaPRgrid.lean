/- Grids: validity in plain words, alike in both programs. -/
import Derived.Test.YticemffhlapnnaaPRperm
set_option linter.unusedVariables false
set_option linter.unusedSimpArgs false
namespace Go.Proofs.Yticemffhlapnnaa
open Ev
namespace Gl
open Gar
theorem gridPerm {p : List Int} (n : Nat) (hn : p.length < n) (hl : p.length ≤ 100000000) : ∃ r, F.grid_permutation n p = some r ∧ (r = true ↔ IsP p) := by
  unfold F.grid_permutation
  rw [pos_ok (by omega) (by omega), Option.bind_some]
  obtain ⟨r, hr1, hr2⟩ := loop_spec (body := F.grid_permutation_b0 n p) (fun s => ∃ k : Nat, s.1 = (k : Int) ∧ k ≤ p.length ∧ s.2.length = p.length ∧ (∀ x ∈ p.take k, 0 ≤ x ∧ x < p.length) ∧ (p.take k).Nodup ∧ ∀ x : Nat, x < p.length → (s.2[x]? = some true ↔ (x : Int) ∈ p.take k))
    (fun s => p.length - s.1.toNat) (fun r => match r with | .inl _ => IsP p | .inr b => b = false ∧ ¬ IsP p) (fun s ⟨k, h1, h2, h3, h4, h5, h6⟩ => by
      obtain ⟨i, seen⟩ := s
      dsimp only at h1 h3 h6
      subst h1
      unfold F.grid_permutation_b0
      dsimp only
      by_cases hlt : (k : Int) < (p.length : Int)
      · rw [decide_eq_true hlt, cond_true, get_nat, List.getElem?_eq_getElem (by omega : k < p.length), Option.bind_some]
        have hmem : p[k]'(by omega) ∈ p := List.getElem_mem _
        by_cases c1 : p[k]'(by omega) < 0
        · rw [decide_eq_true c1, cond_true]; right; exact ⟨_, rfl, rfl, fun hp => by have := (hp.rng _ hmem).1; omega⟩
        rw [decide_eq_false c1, cond_false]
        by_cases c2 : (p.length : Int) ≤ p[k]'(by omega)
        · rw [decide_eq_true c2, cond_true]; right; exact ⟨_, rfl, rfl, fun hp => by have := (hp.rng _ hmem).2; omega⟩
        rw [decide_eq_false c2, cond_false]
        have hk3 : (p[k]'(by omega)).toNat < seen.length := by omega
        rw [get_ok (by omega) hk3, Option.bind_some]
        have h7 := h6 (p[k]'(by omega)).toNat (by omega)
        rw [List.getElem?_eq_getElem hk3, show (((p[k]'(by omega)).toNat : Nat) : Int) = p[k]'(by omega) by omega] at h7
        have ht : p.take (k + 1) = p.take k ++ [p[k]'(by omega)] := by rw [List.take_add_one, List.getElem?_eq_getElem (by omega : k < p.length)]; rfl
        by_cases c3 : seen[(p[k]'(by omega)).toNat] = true
        · rw [c3, cond_true]; right
          refine ⟨_, rfl, rfl, fun hp => ?_⟩
          have h8 := h7.1 (by rw [c3])
          have h9 := hp.nodup
          have h10 : (p.take (k + 1)).Nodup := (List.take_sublist _ _).nodup h9
          rw [ht, List.nodup_append] at h10
          exact h10.2.2 _ h8 _ (by simp) rfl
        · rw [Bool.not_eq_true] at c3
          rw [c3, cond_false, Option.bind_some, chk_ok (by omega) (by omega), Option.bind_some]
          left
          have h8 : p[k]'(by omega) ∉ p.take k := fun hm => by have := h7.2 hm; rw [c3] at this; cases this
          refine ⟨_, rfl, ⟨k + 1, by simp, by omega, by simpa using h3, ?_, ?_, ?_⟩, by dsimp only; omega⟩
          · intro x hx
            rw [ht] at hx
            rcases List.mem_append.1 hx with h9 | h9
            · exact h4 x h9
            · simp only [List.mem_singleton] at h9; subst h9; omega
          · rw [ht, List.nodup_append]
            exact ⟨h5, by simp, fun a ha b hb e => by simp only [List.mem_singleton] at hb; subst hb; subst e; exact h8 ha⟩
          · intro x hx
            dsimp only
            rw [ht, List.mem_append, List.mem_singleton, List.getElem?_set]
            by_cases e : (p[k]'(by omega)).toNat = x
            · rw [if_pos e, if_pos hk3]
              exact ⟨fun _ => .inr (by omega), fun _ => rfl⟩
            · rw [if_neg e, h6 x hx]
              exact ⟨fun h => .inl h, fun h => h.resolve_right (by omega)⟩
      · rw [decide_eq_false hlt, cond_false]; right
        obtain rfl : k = p.length := by omega
        rw [List.take_length] at h4 h5
        exact ⟨_, rfl, isP_of h4 h5⟩) n (0, List.replicate (p.length : Int).toNat false) ⟨0, rfl, by omega, by simp, by simp, by simp, fun x hx => by simp [List.getElem?_replicate, hx]⟩ (by dsimp only; omega)
  rw [hr1, Option.bind_some]
  rcases r with s | b
  · exact ⟨true, rfl, ⟨fun _ => hr2, fun _ => rfl⟩⟩
  · obtain ⟨rfl, h⟩ := hr2
    exact ⟨false, rfl, ⟨fun h' => absurd h' (by decide), fun h' => absurd h' h⟩⟩
theorem refIsPerm (p : List Int) (n : Nat) (hl : p.length ≤ 1000) (hn : p.length < n) : ∃ r, F.ref01_IsPerm n p (p.length : Int) = some r ∧ (r = true ↔ IsP p) := by
  unfold F.ref01_IsPerm
  rw [decide_eq_true rfl, Bool.not_true, cond_false]
  obtain ⟨r, r1, r2⟩ := loop_spec (body := F.ref01_IsPerm_b0 n p (p.length : Int)) (fun s => ∃ k : Nat, s = (k : Int) ∧ k ≤ p.length ∧ ∀ j : Nat, j < k → (j : Int) ∈ p) (fun s => p.length - s.toNat)
    (fun r => match r with | .inl _ => IsP p | .inr b => b = false ∧ ¬ IsP p) (fun s ⟨k, h1, h2, h3⟩ => by
      subst h1
      unfold F.ref01_IsPerm_b0
      dsimp only
      by_cases hk : k < p.length
      · rw [decide_eq_true (by omega), cond_true, refIn p _ n hl hn, Option.bind_some]
        by_cases e : (k : Int) ∈ p
        · rw [decide_eq_true e, Bool.not_true, cond_false, chk_ok (by omega) (by omega), Option.bind_some]
          refine .inl ⟨_, rfl, ⟨k + 1, rfl, by omega, fun j hj => ?_⟩, by omega⟩
          rcases Nat.lt_or_ge j k with h | h
          · exact h3 j h
          · have : j = k := by omega
            subst this; exact e
        · rw [decide_eq_false e, Bool.not_false, cond_true]
          exact .inr ⟨_, rfl, rfl, fun hp => e (isP_all.2 hp k hk)⟩
      · rw [decide_eq_false (by omega), cond_false]
        have : k = p.length := by omega
        subst this
        exact .inr ⟨_, rfl, isP_all.1 h3⟩) n 0 ⟨0, rfl, by omega, fun j hj => by omega⟩ (by simpa using hn)
  rw [r1, Option.bind_some]
  rcases r with s | b
  · exact ⟨true, rfl, ⟨fun _ => r2, fun _ => rfl⟩⟩
  · obtain ⟨rfl, h⟩ := r2
    exact ⟨false, rfl, ⟨fun h' => absurd h' (by decide), fun h' => absurd h' h⟩⟩
/-- A valid grid. -/
structure VG (X O : List Int) : Prop where
  lo : 2 ≤ X.length
  hi : X.length ≤ 40
  ol : O.length = X.length
  px : IsP X
  po : IsP O
  ne : ∀ k : Nat, k < X.length → X[k]? ≠ O[k]?
theorem ne_loop {X O : List Int} (hO : O.length = X.length) (hX : X.length ≤ 40) (n : Nat) (hn : 100 < n) (body : Int → Option (Int ⊕ (Int ⊕ Bool)))
    (hb : ∀ v : Int, body v = cond (decide (v < (X.length : Int))) ((Ev.get X v).bind fun x34 => (Ev.get O v).bind fun x41 => cond (decide (x34 = x41)) (some (.inr (.inr false))) ((chk (v + 1)).bind fun z50 => some (.inl z50))) (some (.inr (.inl v)))) :
    ∃ r, loopN n body 0 = some r ∧ match r with | .inl _ => ∀ k : Nat, k < X.length → X[k]? ≠ O[k]? | .inr b => b = false ∧ ¬ ∀ k : Nat, k < X.length → X[k]? ≠ O[k]? := by
  refine loop_spec (body := body) (fun s => ∃ k : Nat, s = (k : Int) ∧ k ≤ X.length ∧ ∀ j : Nat, j < k → X[j]? ≠ O[j]?) (fun s => X.length - s.toNat)
    (fun r => match r with | .inl _ => ∀ k : Nat, k < X.length → X[k]? ≠ O[k]? | .inr b => b = false ∧ ¬ ∀ k : Nat, k < X.length → X[k]? ≠ O[k]?) (fun s ⟨k, h1, h2, h3⟩ => ?_) n 0 ⟨0, rfl, Nat.zero_le _, fun j hj => by omega⟩ (by simp; omega)
  subst h1
  rw [hb]
  by_cases hk : k < X.length
  · have ka := List.getElem?_eq_getElem hk
    have kb := List.getElem?_eq_getElem (show k < O.length by omega)
    rw [decide_eq_true (show (k : Int) < (X.length : Int) by omega), cond_true, get_at rfl ka, Option.bind_some, get_at rfl kb, Option.bind_some]
    by_cases e : X[k] = O[k]
    · rw [decide_eq_true e, cond_true]
      exact .inr ⟨_, rfl, rfl, fun h => h k hk (by rw [ka, kb, e])⟩
    · rw [decide_eq_false e, cond_false, chk_ok (by omega) (by omega), Option.bind_some]
      refine .inl ⟨_, rfl, ⟨k + 1, rfl, by omega, fun j hj => ?_⟩, by omega⟩
      rcases Nat.lt_or_ge j k with h | h
      · exact h3 j h
      · have : j = k := by omega
        subst this
        rw [ka, kb]
        exact fun h => e (Option.some.inj h)
  · rw [decide_eq_false (by omega), cond_false]
    have : k = X.length := by omega
    subst this
    exact .inr ⟨_, rfl, h3⟩
theorem gridValid (X O : List Int) (n : Nat) (hn : 100 < n) : ∃ r, F.grid_Valid n X O = some r ∧ (r = true ↔ VG X O) := by
  unfold F.grid_Valid
  by_cases h1 : (X.length : Int) < 2
  · rw [decide_eq_true h1, cond_true]
    exact ⟨false, rfl, fun h => absurd h (by decide), fun h => by have := h.lo; omega⟩
  rw [decide_eq_false h1, cond_false]
  by_cases h2 : (40 : Int) < (X.length : Int)
  · rw [decide_eq_true h2, cond_true]
    exact ⟨false, rfl, fun h => absurd h (by decide), fun h => by have := h.hi; omega⟩
  rw [decide_eq_false h2, cond_false]
  by_cases h3 : (O.length : Int) = (X.length : Int)
  · rw [decide_eq_true h3, Bool.not_true, cond_false]
    obtain ⟨r, e1, e2⟩ := ne_loop (X := X) (O := O) (by omega) (by omega) n hn (F.grid_Valid_b0 n X O) (fun v => rfl)
    rw [e1, Option.bind_some]
    rcases r with v | b
    · obtain ⟨r1, q1, q2⟩ := gridPerm (p := X) n (by omega) (by omega)
      obtain ⟨r2, q3, q4⟩ := gridPerm (p := O) n (by omega) (by omega)
      dsimp only
      rw [q1, Option.bind_some]
      cases r1 with
      | false => exact ⟨false, rfl, fun h => absurd h (by decide), fun h => q2.2 h.px⟩
      | true =>
        rw [cond_true, q3, Option.bind_some]
        refine ⟨r2, rfl, fun h => ⟨by omega, by omega, by omega, q2.1 rfl, q4.1 h, e2⟩, fun h => q4.2 h.po⟩
    · obtain ⟨rfl, e3⟩ := e2
      exact ⟨false, rfl, fun h => absurd h (by decide), fun h => absurd h.ne e3⟩
  · rw [decide_eq_false h3, Bool.not_false, cond_true]
    exact ⟨false, rfl, fun h => absurd h (by decide), fun h => by have := h.ol; omega⟩
theorem refGridValid (X O : List Int) (n : Nat) (hn : 100 < n) : ∃ r, F.ref42_Valid n X O = some r ∧ (r = true ↔ VG X O) := by
  unfold F.ref42_Valid
  by_cases h1 : (X.length : Int) < 2
  · rw [decide_eq_true h1, cond_true]
    exact ⟨false, rfl, fun h => absurd h (by decide), fun h => by have := h.lo; omega⟩
  rw [decide_eq_false h1, cond_false]
  by_cases h2 : (40 : Int) < (X.length : Int)
  · rw [decide_eq_true h2, cond_true]
    exact ⟨false, rfl, fun h => absurd h (by decide), fun h => by have := h.hi; omega⟩
  rw [decide_eq_false h2, cond_false]
  obtain ⟨r1, q1, q2⟩ := refIsPerm X n (by omega) (by omega)
  rw [q1, Option.bind_some]
  cases r1 with
  | false => exact ⟨false, rfl, fun h => absurd h (by decide), fun h => q2.2 h.px⟩
  | true =>
    rw [Bool.not_true, cond_false]
    by_cases h3 : (O.length : Int) = (X.length : Int)
    · obtain ⟨r2, q3, q4⟩ := refIsPerm O n (by omega) (by omega)
      rw [← h3, q3, Option.bind_some]
      cases r2 with
      | false => exact ⟨false, rfl, fun h => absurd h (by decide), fun h => q4.2 h.po⟩
      | true =>
        rw [Bool.not_true, cond_false]
        obtain ⟨r, e1, e2⟩ := ne_loop (X := X) (O := O) (by omega) (by omega) n hn (F.ref42_Valid_b0 n X O) (fun v => rfl)
        rw [e1, Option.bind_some]
        rcases r with v | b
        · exact ⟨true, rfl, fun _ => ⟨by omega, by omega, by omega, q2.1 rfl, q4.1 rfl, e2⟩, fun _ => rfl⟩
        · obtain ⟨rfl, e3⟩ := e2
          exact ⟨false, rfl, fun h => absurd h (by decide), fun h => absurd h.ne e3⟩
    · have : F.ref01_IsPerm n O (X.length : Int) = some false := by
        unfold F.ref01_IsPerm
        rw [decide_eq_false h3, Bool.not_false, cond_true]
      rw [this, Option.bind_some, Bool.not_false, cond_true]
      exact ⟨false, rfl, fun h => absurd h (by decide), fun h => by have := h.ol; omega⟩
/-- A valid grid as functions: the rows of X and O, and the columns of the marks of each row. -/
structure Gd (n : Nat) (x o cx co : Nat → Nat) : Prop where
  lo : 2 ≤ n
  hi : n ≤ 40
  px : Pm n x cx
  po : Pm n o co
  ne : ∀ k, k < n → x k ≠ o k
theorem VG.gd {X O : List Int} (h : VG X O) : ∃ n x o cx co, Gd n x o cx co ∧ X = li n x ∧ O = li n o := by
  obtain ⟨x, cx, hx, ex⟩ := h.px
  obtain ⟨o, co, ho, eo⟩ := h.po
  rw [h.ol] at ho eo
  refine ⟨X.length, x, o, cx, co, ⟨h.lo, h.hi, hx, ho, fun k hk e => h.ne k hk ?_⟩, ex, eo⟩
  rw [ex, eo, li_at hk, li_at hk, e]
theorem Gd.vg {n : Nat} {x o cx co : Nat → Nat} (g : Gd n x o cx co) : VG (li n x) (li n o) := by
  refine ⟨by rw [li_len]; exact g.lo, by rw [li_len]; exact g.hi, by rw [li_len, li_len], isP_li g.px, isP_li g.po, fun k hk => ?_⟩
  rw [li_len] at hk
  rw [li_at hk, li_at hk]
  intro e
  have := Option.some.inj e
  exact g.ne k hk (by omega)
section
variable {n : Nat} {x o cx co : Nat → Nat} (g : Gd n x o cx co)
include g
theorem Gd.xl {k : Nat} (h : k < n) : x k < n := g.px.lt h
theorem Gd.ol {k : Nat} (h : k < n) : o k < n := g.po.lt h
theorem Gd.cxl {k : Nat} (h : k < n) : cx k < n := g.px.symm.lt h
theorem Gd.col {k : Nat} (h : k < n) : co k < n := g.po.symm.lt h
theorem Gd.cne {k : Nat} (h : k < n) : cx k ≠ co k := fun e => g.ne (cx k) (g.cxl h) (by rw [g.px.fg]; rw [e, g.po.fg])
end
end Gl
end Go.Proofs.Yticemffhlapnnaa
