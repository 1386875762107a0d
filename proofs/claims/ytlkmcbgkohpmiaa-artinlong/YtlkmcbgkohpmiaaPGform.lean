/- Joined: PGset, PGform. -/
import Derived.Test.YtlkmcbgkohpmiaaPGmove
import Derived.Test.YtlkmcbgkohpmiaaPBraid
/- Factors settle. -/
set_option linter.unusedVariables false
set_option linter.unusedSimpArgs false
namespace Go.Proofs.Ytlkmcbgkohpmiaa
open Ev
namespace Gar
abbrev Pr := (Nat → Nat) × (Nat → Nat)
def ls (N : Nat) (qs : List Pr) : List (List Int) := qs.map fun q => li N q.1
def fsts (qs : List Pr) : List (Nat → Nat) := qs.map fun q => q.1
/-- b may follow a in a normal form. -/
def LWp (N : Nat) (a b : Pr) : Prop := ∀ j, 1 ≤ j → j < N → ds b.1 j → ds a.2 j
def LWi (N : Nat) (qs : List Pr) : Prop := ∀ i a b, qs[i]? = some a → qs[i + 1]? = some b → LWp N a b
def Pms (N : Nat) (qs : List Pr) : Prop := ∀ q ∈ qs, Pm N q.1 q.2
theorem set_two {α : Type} {w : List α} {p : Nat} (h : p + 1 < w.length) (x y : α) : (w.set p x).set (p + 1) y = w.take p ++ x :: y :: w.drop (p + 2) := by
  apply List.ext_getElem?
  intro j
  rw [List.getElem?_set, List.getElem?_set]
  have hl : (w.take p).length = p := by rw [List.length_take]; omega
  by_cases h1 : j < p
  · rw [if_neg (by omega), if_neg (by omega), List.getElem?_append_left (by omega), List.getElem?_take_of_lt h1]
  · rw [List.getElem?_append_right (by omega), hl]
    by_cases h2 : j = p
    · subst h2; rw [if_neg (by omega), if_pos rfl, if_pos (by omega)]; simp
    · by_cases h3 : j = p + 1
      · subst h3; rw [if_pos rfl, if_pos (by simpa using h)]; simp
      · rw [if_neg (by omega), if_neg (by omega)]
        obtain ⟨m, rfl⟩ : ∃ m, j = p + 2 + m := ⟨j - (p + 2), by omega⟩
        rw [show p + 2 + m - p = m + 2 by omega]
        simp [List.getElem?_drop]
theorem split_two {α : Type} {w : List α} {p : Nat} {x y : α} (hx : w[p]? = some x) (hy : w[p + 1]? = some y) : w = w.take p ++ x :: y :: w.drop (p + 2) := by
  have h1 := (List.getElem?_eq_some_iff.1 hx).1
  have h2 := (List.getElem?_eq_some_iff.1 hy).1
  have e := set_two (w := w) h2 x y
  rw [← e]
  apply List.ext_getElem?
  intro j
  rw [List.getElem?_set, List.getElem?_set]
  by_cases e1 : p + 1 = j
  · subst e1; rw [if_pos rfl, if_pos (by simpa using h2), hy]
  · rw [if_neg e1]
    by_cases e2 : p = j
    · subst e2; rw [if_pos rfl, if_pos h1, hx]
    · rw [if_neg e2]
section
variable {N : Nat}
theorem ls_set (qs : List Pr) (p : Nat) (q : Pr) : (ls N qs).set p (li N q.1) = ls N (qs.set p q) := by unfold ls; rw [List.map_set]
theorem ls_len (qs : List Pr) : (ls N qs).length = qs.length := by simp [ls]
theorem ls_at {qs : List Pr} {k : Nat} {q : Pr} (h : qs[k]? = some q) : (ls N qs)[k]? = some (li N q.1) := by simp [ls, h]
theorem Mvs.words {s t : (Nat → Nat) × (Nat → Nat) × (Nat → Nat)} (h : Mvs N s t) (h1 : Pm N s.1 s.2.1) (h2 : ∃ g2, Pm N s.2.2 g2) (pre post : List (Nat → Nat)) {v : List Nat} (hv : Wl N (pre ++ s.1 :: s.2.2 :: post) v) :
    ∃ v', Wl N (pre ++ t.1 :: t.2.2 :: post) v' ∧ PE N v v' := by
  induction h with
  | refl => exact ⟨v, hv, .refl _⟩
  | @step f1 g1 f2 i k1 k2 k3 k4 k5 ih =>
    obtain ⟨v1, a1, a2⟩ := ih
    obtain ⟨p1, -, -⟩ := k1.pm h1 h2
    obtain ⟨v2, b1, b2⟩ := move1 k2 k3 p1 k4 k5 pre post a1
    exact ⟨v2, b1, a2.trans b2⟩
/-- What may be reached. -/
structure Rch (N : Nat) (qs qs' : List Pr) : Prop where
  len : qs'.length = qs.length
  pms : Pms N qs'
  words : ∀ v, Wl N (fsts qs) v → ∃ v', Wl N (fsts qs') v' ∧ PE N v v'
theorem Rch.refl {qs : List Pr} (h : Pms N qs) : Rch N qs qs := ⟨rfl, h, fun v hv => ⟨v, hv, .refl _⟩⟩
theorem Rch.trans {a b c : List Pr} (h : Rch N a b) (k : Rch N b c) : Rch N a c := ⟨k.len.trans h.len, k.pms, fun v hv => by
  obtain ⟨v1, a1, a2⟩ := h.words v hv
  obtain ⟨v2, b1, b2⟩ := k.words v1 a1
  exact ⟨v2, b1, a2.trans b2⟩⟩
/-- Inversions, those of later factors weigh more. -/
def wt (N : Nat) : Nat → List Pr → Nat
  | _, [] => 0
  | k, q :: qs => k * inv (lst N q.1) + wt N (k + 1) qs
theorem wt_app (k : Nat) (a b : List Pr) : wt N k (a ++ b) = wt N k a + wt N (k + a.length) b := by
  induction a generalizing k with
  | nil => simp [wt]
  | cons q a ih => simp only [List.cons_append, wt, ih, List.length_cons]; rw [show k + 1 + a.length = k + (a.length + 1) by omega]; omega
theorem wt_le (k : Nat) (qs : List Pr) : wt N k qs ≤ qs.length * ((k + qs.length) * (N * N)) := by
  induction qs generalizing k with
  | nil => simp [wt]
  | cons q qs ih =>
    have h1 := ih (k + 1)
    have h2 := Nat.mul_le_mul_left k (inv_lst_le (N := N) q.1)
    have h3 : k * (N * N) ≤ (k + (qs.length + 1)) * (N * N) := Nat.mul_le_mul_right _ (by omega)
    simp only [wt, List.length_cons]
    rw [show k + 1 + qs.length = k + (qs.length + 1) by omega] at h1
    have h4 : (qs.length + 1) * ((k + (qs.length + 1)) * (N * N)) = qs.length * ((k + (qs.length + 1)) * (N * N)) + (k + (qs.length + 1)) * (N * N) := by rw [Nat.add_mul, Nat.one_mul]
    omega
theorem wt_two (k : Nat) (pre post : List Pr) {a b a' b' : Pr} (h1 : inv (lst N a'.1) + inv (lst N b'.1) = inv (lst N a.1) + inv (lst N b.1)) (h2 : inv (lst N b'.1) ≤ inv (lst N b.1)) :
    wt N k (pre ++ a' :: b' :: post) + (inv (lst N b.1) - inv (lst N b'.1)) = wt N k (pre ++ a :: b :: post) := by
  rw [wt_app, wt_app]
  simp only [wt]
  generalize k + pre.length = m
  generalize wt N (m + 1 + 1) post = z
  generalize inv (lst N a'.1) = x' at *
  generalize inv (lst N b'.1) = y' at *
  generalize inv (lst N a.1) = x at *
  generalize inv (lst N b.1) = y at *
  obtain ⟨d, rfl⟩ : ∃ d, y = y' + d := ⟨y - y', by omega⟩
  obtain rfl : x' = x + d := by omega
  rw [Nat.mul_add, Nat.add_mul, Nat.add_mul, Nat.mul_add]
  omega
/-- One pass. -/
theorem pass_eq {qs : List Pr} (h : Pms N qs) (n : Nat) (hN : N ≤ 10) (hl : qs.length ≤ 1000) (hn : 3000 ≤ n) :
    ∃ c i qs', loopN n (F.garside_settle_b1 n) (false, (qs.length : Int) - 1, ls N qs) = some (c, i, ls N qs') ∧ Rch N qs qs' ∧ (c = false → qs' = qs ∧ LWi N qs) ∧ (c = true → wt N 0 qs' < wt N 0 qs) := by
  have hfuel : N * N * (N + 1) + N < n := by
    have : N * N * (N + 1) ≤ 10 * 10 * 11 := Nat.mul_le_mul (Nat.mul_le_mul hN hN) (by omega)
    omega
  obtain ⟨r, hr1, hr2⟩ := loop_spec (body := F.garside_settle_b1 n)
    (fun s => ∃ c i qs', s = (c, i, ls N qs') ∧ i < qs.length ∧ Rch N qs qs' ∧ (c = false → qs' = qs ∧ ∀ j a b, i.toNat < j + 1 → qs[j]? = some a → qs[j + 1]? = some b → LWp N a b) ∧ (c = true → wt N 0 qs' < wt N 0 qs))
    (fun s => s.2.1.toNat)
    (fun r => ∃ c i qs', r = (c, i, ls N qs') ∧ Rch N qs qs' ∧ (c = false → qs' = qs ∧ LWi N qs) ∧ (c = true → wt N 0 qs' < wt N 0 qs))
    (fun s ⟨c, i, qs', e, hi, hR, hc, hc2⟩ => by
      subst e
      unfold F.garside_settle_b1
      dsimp only
      by_cases hp : 0 < i
      · obtain ⟨k, rfl⟩ : ∃ k : Nat, i = (k : Int) + 1 := ⟨(i - 1).toNat, by omega⟩
        have hlen := hR.len
        have ka : qs'[k]? = some (qs'[k]'(by omega)) := List.getElem?_eq_getElem _
        have kb : qs'[k + 1]? = some (qs'[k + 1]'(by omega)) := List.getElem?_eq_getElem _
        generalize qs'[k]'(by omega) = a at ka
        generalize qs'[k + 1]'(by omega) = b at kb
        have pa := hR.pms a (List.mem_of_getElem? ka)
        have pb := hR.pms b (List.mem_of_getElem? kb)
        obtain ⟨m, f1', g1', f2', e1, e2, e3, e4, e5⟩ := moveLetters_eq pa pb n (by omega) hfuel
        obtain ⟨p1, ⟨g2', p2⟩, p3⟩ := e2.pm pa ⟨_, pb⟩
        dsimp only at p1 p2 p3
        rw [decide_eq_true hp, cond_true]
        have hq : (k : Int) + 1 - 1 = (k : Int) := by omega
        rw [hq, chk_ok (by omega) (by omega)]
        simp only [Option.bind_some]
        rw [get_at (k := k) rfl (ls_at ka)]
        simp only [Option.bind_some]
        rw [get_at (k := k + 1) (by omega) (ls_at kb)]
        simp only [Option.bind_some]
        rw [e1]
        simp only [Option.bind_some]
        have hk1 : (k : Int).toNat = k := by omega
        have hk2 : ((k : Int) + 1).toNat = k + 1 := by omega
        have es : ((ls N qs').set (k : Int).toNat (li N f1')).set ((k : Int) + 1).toNat (li N f2') = ls N ((qs'.set k (f1', g1')).set (k + 1) (f2', g2')) := by
          rw [hk1, hk2]
          have a1 := ls_set (N := N) qs' k (f1', g1')
          have a2 := ls_set (N := N) (qs'.set k (f1', g1')) (k + 1) (f2', g2')
          dsimp only at a1 a2
          rw [a1, a2]
        have hsp := split_two ka kb
        have hst := set_two (w := qs') (p := k) (by omega) (f1', g1') (f2', g2')
        have hstep : Rch N qs' ((qs'.set k (f1', g1')).set (k + 1) (f2', g2')) := by
          refine ⟨by simp, fun q hq => ?_, fun v hv => ?_⟩
          · rcases List.mem_or_eq_of_mem_set hq with h1 | h1
            · rcases List.mem_or_eq_of_mem_set h1 with h2 | h2
              · exact hR.pms q h2
              · subst h2; exact p1
            · subst h1; exact p2
          · rw [hsp] at hv
            rw [hst]
            unfold fsts at hv ⊢
            simp only [List.map_append, List.map_cons] at hv ⊢
            exact e2.words pa ⟨_, pb⟩ _ _ hv
        have hw := wt_two (N := N) 0 (qs'.take k) (qs'.drop (k + 2)) (a := a) (b := b) (a' := (f1', g1')) (b' := (f2', g2')) p3 (by
          cases m with
          | false => obtain ⟨_, _, e⟩ := e4 rfl; dsimp only; rw [e]; exact Nat.le_refl _
          | true => exact Nat.le_of_lt (e5 rfl))
        rw [← hsp, ← hst] at hw
        left
        cases m with
        | true =>
          refine ⟨_, rfl, ⟨true, (k : Int), _, by rw [es], by omega, hR.trans hstep, fun h => absurd h (by decide), fun _ => ?_⟩, by dsimp only; omega⟩
          have := e5 rfl
          dsimp only at hw
          cases c with
          | false => obtain ⟨e, _⟩ := hc rfl; rw [← e]; omega
          | true => have := hc2 rfl; omega
        | false =>
          obtain ⟨q1, q2, q3⟩ := e4 rfl
          refine ⟨_, rfl, ⟨c, (k : Int), _, by rw [es], by omega, hR.trans hstep, fun h => ?_, fun h => ?_⟩, by dsimp only; omega⟩
          · obtain ⟨e, hj⟩ := hc h
            have hg2 : g2' = b.2 := Pm.uniq (by rw [q3] at p2; exact p2) pb
            have hab : (qs'.set k (f1', g1')).set (k + 1) (f2', g2') = qs' := by
              rw [hst]
              conv => rhs; rw [hsp]
              rw [q1, q2, q3, hg2]
            refine ⟨hab.trans e, fun j a2 b2 j1 j2 j3 => ?_⟩
            by_cases ej : j = k
            · subst ej
              rw [← e, ka] at j2
              rw [← e, kb] at j3
              injection j2 with j2; injection j3 with j3
              subst j2 j3
              intro j4 j5 j6 j7
              have := e3 j4 j5 j6 (by rw [q3]; exact j7)
              rw [q2] at this; exact this
            · exact hj j a2 b2 (by omega) j2 j3
          · have := hc2 h; dsimp only at hw; omega
      · rw [decide_eq_false hp, cond_false]
        right
        exact ⟨_, rfl, c, i, qs', rfl, hR, fun h => ⟨(hc h).1, fun j a b h1 h2 => (hc h).2 j a b (by omega) h1 h2⟩, hc2⟩) n (false, (qs.length : Int) - 1, ls N qs) ⟨false, _, qs, rfl, by omega, .refl h, fun _ => ⟨rfl, fun j a b h1 h2 h3 => by have := (List.getElem?_eq_some_iff.1 h3).1; omega⟩, fun h => absurd h (by decide)⟩ (by dsimp only; omega)
  obtain ⟨c, i, qs', rfl, h3, h4, h5⟩ := hr2
  exact ⟨c, i, qs', hr1, h3, h4, h5⟩
theorem passes_eq {qs : List Pr} (h : Pms N qs) (n : Nat) (hN : N ≤ 10) (hl : qs.length ≤ 1000) (hn : 300000000 ≤ n) :
    ∃ qs', loopN n (F.garside_settle_b0 n (ls N qs)) (ls N qs) = some (ls N qs') ∧ Rch N qs qs' ∧ LWi N qs' := by
  have key : ∀ (m : Nat) (q0 : List Pr) (k : Nat), wt N 0 q0 = m → m < k → Pms N q0 → q0.length = qs.length → ∃ qs', loopN k (F.garside_settle_b0 n (ls N qs)) (ls N q0) = some (ls N qs') ∧ Rch N q0 qs' ∧ LWi N qs' := by
    intro m
    induction m using Nat.strongRecOn with
    | _ m ih =>
      intro q0 k hm hk hp hlen
      obtain ⟨k, rfl⟩ : ∃ k', k = k' + 1 := ⟨k - 1, by omega⟩
      obtain ⟨c, i, q1, e1, e2, e3, e4⟩ := pass_eq hp n hN (by omega) (by omega)
      have hb : F.garside_settle_b0 n (ls N qs) (ls N q0) = cond c (some (.inl (ls N q1))) (some (.inr (ls N q1))) := by
        unfold F.garside_settle_b0
        dsimp only
        rw [ls_len, chk_ok (by omega) (by omega), Option.bind_some, show (qs.length : Int) - 1 = (q0.length : Int) - 1 by omega, e1, Option.bind_some]
      simp only [loopN, hb]
      cases c with
      | true =>
        obtain ⟨q2, a1, a2, a3⟩ := ih (wt N 0 q1) (by have := e4 rfl; omega) q1 k rfl (by have := e4 rfl; omega) e2.pms (by rw [e2.len, hlen])
        exact ⟨q2, by simpa using a1, e2.trans a2, a3⟩
      | false =>
        obtain ⟨a1, a2⟩ := e3 rfl
        refine ⟨q1, by simp, e2, ?_⟩
        rw [a1]; exact a2
  refine key _ qs n rfl ?_ h rfl
  have h1 := wt_le (N := N) 0 qs
  have h2 : qs.length * ((0 + qs.length) * (N * N)) ≤ 1000 * (1000 * (10 * 10)) := Nat.mul_le_mul hl (Nat.mul_le_mul (by omega) (Nat.mul_le_mul hN hN))
  omega
theorem id_ds {j : Nat} (h1 : 1 ≤ j) : ¬ ds (fun k => k) j := by unfold ds; dsimp only; omega
theorem Pm.id_inv {g : Nat → Nat} (h : Pm N (fun k => k) g) : g = fun k => k := h.uniq (Pm.id N)
/-- The factors without letters are at the end. -/
theorem trail_eq {qs : List Pr} (h : Pms N qs) (hL : LWi N qs) (n : Nat) (hN : 1 ≤ N ∧ N ≤ 10) (hl : qs.length ≤ 1000) (hn : 3000 ≤ n) :
    ∃ m, m ≤ qs.length ∧ loopN n (F.garside_settle_b2 n) (ls N qs) = some (ls N (qs.take m)) ∧ (∀ k q, m ≤ k → qs[k]? = some q → q.1 = fun k => k) ∧ (∀ q, 0 < m → qs[m - 1]? = some q → q.1 ≠ fun k => k) := by
  obtain ⟨r, hr1, hr2⟩ := loop_spec (body := F.garside_settle_b2 n)
    (fun s => ∃ m, s = ls N (qs.take m) ∧ m ≤ qs.length ∧ (∀ k q, m ≤ k → qs[k]? = some q → q.1 = fun k => k))
    (fun s => s.length)
    (fun r => ∃ m, m ≤ qs.length ∧ r = ls N (qs.take m) ∧ (∀ k q, m ≤ k → qs[k]? = some q → q.1 = fun k => k) ∧ (∀ q, 0 < m → qs[m - 1]? = some q → q.1 ≠ fun k => k))
    (fun s ⟨m, e, hm, hid⟩ => by
      subst e
      unfold F.garside_settle_b2
      dsimp only
      have hlen : (ls N (qs.take m)).length = m := by rw [ls_len, List.length_take]; omega
      rw [hlen]
      by_cases hp : 0 < (m : Int)
      · obtain ⟨m, rfl⟩ : ∃ m', m = m' + 1 := ⟨m - 1, by omega⟩
        have ka : qs[m]? = some (qs[m]'(by omega)) := List.getElem?_eq_getElem _
        generalize qs[m]'(by omega) = a at ka
        have pa := h a (List.mem_of_getElem? ka)
        obtain ⟨r, e1, e2⟩ := sorted_eq pa n (by omega) (by omega) hN.1
        rw [decide_eq_true hp, cond_true, chk_ok (by omega) (by omega), Option.bind_some]
        rw [get_at (k := m) (by omega) (ls_at (by rw [List.getElem?_take_of_lt (by omega)]; exact ka)), Option.bind_some, e1, Option.bind_some]
        cases r with
        | true =>
          left
          rw [cond_true, Option.bind_some, cut_ok (by omega) (by omega) (by omega), Option.bind_some]
          have et : (ls N (qs.take (m + 1))).take (((m + 1 : Nat) : Int) - 1).toNat = ls N (qs.take m) := by
            rw [show (((m + 1 : Nat) : Int) - 1).toNat = m by omega]
            unfold ls
            rw [← List.map_take, List.take_take, Nat.min_eq_left (by omega)]
          rw [et]
          refine ⟨_, rfl, ⟨m, rfl, by omega, fun k q k1 k2 => ?_⟩, by rw [ls_len, List.length_take]; omega⟩
          by_cases ek : k = m
          · subst ek; rw [ka] at k2; injection k2 with k2; subst k2; exact e2.1 rfl
          · exact hid k q (by omega) k2
        | false =>
          right
          rw [cond_false]
          refine ⟨_, rfl, m + 1, hm, rfl, hid, fun q _ hq => ?_⟩
          rw [show m + 1 - 1 = m by omega, ka] at hq
          injection hq with hq; subst hq
          intro hq
          have := e2.2 hq; cases this
      · rw [decide_eq_false hp, cond_false]
        right
        exact ⟨_, rfl, m, hm, rfl, hid, fun q h0 => absurd h0 (by omega)⟩) n (ls N qs) ⟨qs.length, by rw [List.take_length], Nat.le_refl _, fun k q k1 k2 => by have := (List.getElem?_eq_some_iff.1 k2).1; omega⟩ (by rw [ls_len]; omega)
  obtain ⟨m, h1, rfl, h2, h3⟩ := hr2
  exact ⟨m, h1, hr1, h2, h3⟩
theorem NS.drop_ids {H : List Nat} {p : Int} {b : List Int} (qs : List Pr) (m : Nat) (hid : ∀ k q, m ≤ k → qs[k]? = some q → q.1 = fun k => k) : NS N H p (fsts qs) b → NS N H p (fsts (qs.take m)) b := by
  have key : ∀ (d : Nat), m + d = qs.length → ∀ j, j ≤ d → NS N H p (fsts (qs.take (m + j))) b → NS N H p (fsts (qs.take m)) b := by
    intro d hd j
    induction j with
    | zero => intro _ h; exact h
    | succ j ih =>
      intro hj h
      refine ih (by omega) ?_
      have ka : qs[m + j]? = some (qs[m + j]'(by omega)) := List.getElem?_eq_getElem _
      have e := hid _ _ (Nat.le_add_right m j) ka
      rw [show m + (j + 1) = m + j + 1 by omega, List.take_add_one, ka] at h
      unfold fsts at h ⊢
      simp only [List.map_append, Option.toList_some, List.map_cons, List.map_nil] at h
      rw [e] at h
      exact h.dropId
  intro h
  rcases Nat.lt_or_ge qs.length m with hm | hm
  · rw [List.take_of_length_le (by omega)]; exact h
  · refine key (qs.length - m) (by omega) (qs.length - m) (Nat.le_refl _) ?_
    rw [show m + (qs.length - m) = qs.length by omega, List.take_length]; exact h
/-- SETTLE. -/
theorem settle_eq {qs : List Pr} (h : Pms N qs) (n : Nat) (hN : 1 ≤ N ∧ N ≤ 10) (hl : qs.length ≤ 1000) (hn : 300000000 ≤ n) :
    ∃ qs', F.garside_settle n (ls N qs) = some (ls N qs') ∧ Pms N qs' ∧ qs'.length ≤ qs.length ∧ LWi N qs' ∧ (∀ q ∈ qs', q.1 ≠ fun k => k) ∧ (∀ H p b, NS N H p (fsts qs) b → NS N H p (fsts qs') b) := by
  unfold F.garside_settle
  obtain ⟨q1, e1, e2, e3⟩ := passes_eq h n hN.2 hl hn
  obtain ⟨m, h1, h2, h3, h4⟩ := trail_eq e2.pms e3 n hN (by rw [e2.len]; omega) (by omega)
  rw [e1, Option.bind_some]
  dsimp only
  rw [h2, Option.bind_some]
  have hLt : LWi N (q1.take m) := fun i a b ha hb => by
    have hi := (List.getElem?_eq_some_iff.1 hb).1
    rw [List.length_take] at hi
    rw [List.getElem?_take_of_lt (by omega)] at ha hb
    exact e3 i a b ha hb
  refine ⟨q1.take m, rfl, fun q hq => e2.pms q (List.mem_of_mem_take hq), by rw [List.length_take, e2.len]; omega, hLt, ?_, fun H p b hNS => ?_⟩
  · -- an identity would go on to the end
    have key : ∀ d k q, k + d + 1 = m → q1[k]? = some q → q.1 ≠ fun k => k := by
      intro d
      induction d with
      | zero => intro k q hk hq; exact h4 q (by omega) (by rw [show m - 1 = k by omega]; exact hq)
      | succ d ih =>
        intro k q hk hq he
        have kb : q1[k + 1]? = some (q1[k + 1]'(by omega)) := List.getElem?_eq_getElem _
        generalize q1[k + 1]'(by omega) = b at kb
        refine ih (k + 1) b (by omega) kb ?_
        have pb := e2.pms b (List.mem_of_getElem? kb)
        have pq := e2.pms q (List.mem_of_getElem? hq)
        refine pb.noDs fun j j1 j2 j3 => ?_
        have := e3 k q b hq kb j j1 j2 j3
        rw [he] at pq
        rw [pq.id_inv] at this
        exact id_ds j1 this
    intro q hq
    obtain ⟨k, hk⟩ := List.mem_iff_getElem?.1 hq
    have hlt := (List.getElem?_eq_some_iff.1 hk).1
    rw [List.length_take] at hlt
    rw [List.getElem?_take_of_lt (by omega)] at hk
    exact key (m - 1 - k) k q (by omega) hk
  · exact (NS.turn hNS e2.words).drop_ids q1 m h3
end
end Gar
end Go.Proofs.Ytlkmcbgkohpmiaa

/- FORM: the normal form of a braid. -/
set_option linter.unusedVariables false
set_option linter.unusedSimpArgs false
namespace Go.Proofs.Ytlkmcbgkohpmiaa
open Ev
namespace Gar
section
variable {N : Nat}
/-- A normal form of the braid b: valid but for its numbers. -/
structure NV (N : Nat) (p : Int) (qs : List Pr) (b : List Int) : Prop where
  pms : Pms N qs
  lw : LWi N qs
  noId : ∀ q ∈ qs, q.1 ≠ fun k => k
  noDl : ∀ q ∈ qs, q.1 ≠ dl N
  ns : ∀ H, Wd N (dl N) H → NS N H p (fsts qs) b
  lo : -(b.length : Int) ≤ p
  hi : p + (qs.length : Int) ≤ b.length
theorem ds_all {f g : Nat → Nat} (h : Pm N f g) (hd : ∀ j, 1 ≤ j → j < N → ds f j) : f = dl N := by
  have h1 : (fun k => f (dl N k)) = fun k => k := by
    have hp : Pm N (fun k => f (dl N k)) (fun k => dl N (g k)) := ⟨fun k hk => by rw [dl_pm.fix k hk, h.fix k hk], fun k => by rw [h.gf, dl_dl], fun k => by rw [dl_dl, h.fg]⟩
    refine hp.noDs fun j j1 j2 j3 => ?_
    have := hd (N - j) (by omega) (by omega)
    unfold ds at this j3
    dsimp only at j3
    rw [dl_lt j2, dl_lt (show j - 1 < N by omega), show N - 1 - j = N - j - 1 by omega, show N - 1 - (j - 1) = N - j by omega] at j3
    omega
  funext k
  have := congrFun h1 (dl N k)
  rwa [dl_dl] at this
theorem dl_of_next {a b : Pr} (ha : Pm N a.1 a.2) (hL : LWp N a b) (hb : b.1 = dl N) : a.1 = dl N := by
  have h1 : a.2 = dl N := ds_all ha.symm fun j j1 j2 => hL j j1 j2 (by rw [hb]; exact dl_ds j1 j2)
  rw [h1] at ha
  exact ha.symm.uniq dl_pm
theorem noDl_of {qs : List Pr} (h : Pms N qs) (hL : LWi N qs) (h0 : ∀ q, qs[0]? = some q → q.1 ≠ dl N) : ∀ q ∈ qs, q.1 ≠ dl N := by
  have key : ∀ (k : Nat) (q : Pr), qs[k]? = some q → q.1 ≠ dl N := by
    intro k
    induction k with
    | zero => exact h0
    | succ k ih =>
      intro q hq he
      have hlt := (List.getElem?_eq_some_iff.1 hq).1
      have ka : qs[k]? = some (qs[k]'(by omega)) := List.getElem?_eq_getElem _
      exact ih _ ka (dl_of_next (h _ (List.getElem_mem _)) (hL k _ q ka hq) he)
  intro q hq
  obtain ⟨k, hk⟩ := List.mem_iff_getElem?.1 hq
  exact key k q hk
theorem Pms.drop1 {q : Pr} {qs : List Pr} (h : Pms N (q :: qs)) : Pms N qs := fun x hx => h x (by simp [hx])
theorem LWi.tail {q : Pr} {qs : List Pr} (h : LWi N (q :: qs)) : LWi N qs := fun i a b ha hb => h (i + 1) a b (by simpa using ha) (by simpa using hb)
/-- Half twists at the front are counted. -/
theorem front_eq {qs : List Pr} (h : Pms N qs) (hL : LWi N qs) (hI : ∀ q ∈ qs, q.1 ≠ fun k => k) (n : Nat) (hN : N ≤ 10) (hl : qs.length ≤ 1000) (hn : 3000 ≤ n) (p : Int) (hp : -10000 ≤ p ∧ p ≤ 10000) :
    ∃ p' qs', loopN n (F.garside_Form_b3 n (li N (dl N))) (p, ls N qs) = some (p', ls N qs') ∧ Pms N qs' ∧ LWi N qs' ∧ (∀ q ∈ qs', q.1 ≠ fun k => k) ∧ (∀ q ∈ qs', q.1 ≠ dl N) ∧ p' + (qs'.length : Int) = p + qs.length ∧ p ≤ p' ∧ (∀ H b, Wd N (dl N) H → NS N H p (fsts qs) b → NS N H p' (fsts qs') b) := by
  have key : ∀ (m : Nat) (qs : List Pr) (k : Nat) (p : Int), qs.length = m → m < k → Pms N qs → LWi N qs → (∀ q ∈ qs, q.1 ≠ fun k => k) → qs.length ≤ 1000 → -10000 ≤ p → p + qs.length ≤ 11000 → ∃ p' qs', loopN k (F.garside_Form_b3 n (li N (dl N))) (p, ls N qs) = some (p', ls N qs') ∧ Pms N qs' ∧ LWi N qs' ∧ (∀ q ∈ qs', q.1 ≠ fun k => k) ∧ (∀ q ∈ qs', q.1 ≠ dl N) ∧ p' + (qs'.length : Int) = p + qs.length ∧ p ≤ p' ∧ (∀ H b, Wd N (dl N) H → NS N H p (fsts qs) b → NS N H p' (fsts qs') b) := by
    intro m
    induction m with
    | zero =>
      intro qs k p hm hk a1 a2 a3 a4 a5 a6
      obtain ⟨k, rfl⟩ : ∃ k', k = k' + 1 := ⟨k - 1, by omega⟩
      obtain rfl := List.eq_nil_of_length_eq_zero hm
      refine ⟨p, [], ?_, a1, a2, a3, by simp, rfl, Int.le_refl _, fun H b _ h => h⟩
      simp only [loopN]
      unfold F.garside_Form_b3
      dsimp only
      rw [ls_len, decide_eq_false (by simp), cond_false]; rfl
    | succ m ih =>
      intro qs k p hm hk a1 a2 a3 a4 a5 a6
      obtain ⟨k, rfl⟩ : ∃ k', k = k' + 1 := ⟨k - 1, by omega⟩
      cases qs with
      | nil => simp at hm
      | cons q qs =>
      have hq := a1 q (by simp)
      obtain ⟨r, e1, e2⟩ := equalP (a := li N q.1) (b := li N (dl N)) n (by rw [li_len]; omega) (by rw [li_len]; omega)
      have hb : F.garside_Form_b3 n (li N (dl N)) (p, ls N (q :: qs)) = cond r (some (.inl (p + 1, ls N qs))) (some (.inr (p, ls N (q :: qs)))) := by
        unfold F.garside_Form_b3
        dsimp only
        simp only [List.length_cons] at a4 a6
        rw [ls_len, List.length_cons, decide_eq_true (by omega), cond_true, show Ev.get (ls N (q :: qs)) 0 = some (li N q.1) from get_at (k := 0) rfl (ls_at (q := q) (by simp)), Option.bind_some, e1, Option.bind_some, chk_ok (by omega) (by omega), Option.bind_some, cut_ok (by omega) (by omega) (by omega), Option.bind_some]
        rfl
      simp only [loopN, hb]
      have a4' := a4; have a6' := a6
      simp only [List.length_cons] at hm a4' a6'
      cases r with
      | true =>
        have hqd : q.1 = dl N := li_eq hq.fix dl_pm.fix (e2.1 rfl)
        obtain ⟨p', qs', b1, b2, b3, b4, b5, b6, b7, b8⟩ := ih qs k (p + 1) (by omega) (by omega) a1.drop1 a2.tail (fun x hx => a3 x (by simp [hx])) (by omega) (by omega) (by omega)
        refine ⟨p', qs', by simpa using b1, b2, b3, b4, b5, by rw [b6, List.length_cons]; omega, by omega, fun H b hH hNS => b8 H b hH ?_⟩
        have : fsts (q :: qs) = dl N :: fsts qs := by unfold fsts; rw [List.map_cons, hqd]
        rw [this] at hNS
        exact hNS.twist hH
      | false =>
        refine ⟨p, q :: qs, by simp, a1, a2, a3, noDl_of a1 a2 fun x hx he => ?_, rfl, Int.le_refl _, fun H b _ h => h⟩
        simp only [List.getElem?_cons_zero] at hx
        injection hx with hx
        subst hx
        have := e2.2 (by rw [he]); cases this
  exact key _ qs n p rfl (by omega) h hL hI hl hp.1 (by omega)
/-- All factors are turned around. -/
theorem turns_eq {qs : List Pr} (h : Pms N qs) (n : Nat) (hN : N ≤ 10) (hl : qs.length ≤ 1000) (hn : 3000 ≤ n) :
    loopN n (F.garside_Form_b2 n (ls N qs)) (0, ls N qs) = some ((qs.length : Int), ls N (qs.map fun q => (tn N q.1, tn N q.2))) := by
  have := count_loop (body := F.garside_Form_b2 n (ls N qs)) (fun k => ((k : Int), (ls N (qs.map fun q => (tn N q.1, tn N q.2))).take k ++ (ls N qs).drop k)) qs.length (r := ((qs.length : Int), ls N (qs.map fun q => (tn N q.1, tn N q.2)))) (fun k hk => by
    unfold F.garside_Form_b2
    dsimp only
    have ka : qs[k]? = some (qs[k]'hk) := List.getElem?_eq_getElem _
    have hlT : ((ls N (qs.map fun q => (tn N q.1, tn N q.2))).take k).length = k := by rw [List.length_take, ls_len, List.length_map]; omega
    rw [ls_len, decide_eq_true (by omega), cond_true]
    rw [get_at (k := k) (x := li N (qs[k]'hk).1) rfl (by rw [List.getElem?_append_right (by omega), hlT, Nat.sub_self, List.getElem?_drop, Nat.add_zero]; exact ls_at ka), Option.bind_some]
    rw [turn_eq (h _ (List.getElem_mem _)) n (by omega) (by omega), Option.bind_some, chk_ok (by omega) (by omega), Option.bind_some]
    congr 3
    apply List.ext_getElem?
    intro j
    rw [show (k : Int).toNat = k by omega, List.getElem?_set]
    by_cases e : k = j
    · subst e
      rw [if_pos rfl, if_pos (by rw [List.length_append, hlT, List.length_drop, ls_len]; omega)]
      rw [List.getElem?_append_left (by rw [List.length_take, ls_len, List.length_map]; omega), List.getElem?_take_of_lt (by omega), ls_at (q := (tn N (qs[k]'hk).1, tn N (qs[k]'hk).2)) (by rw [List.getElem?_map, ka]; rfl)]
    · rw [if_neg e]
      have hlT2 : ((ls N (qs.map fun q => (tn N q.1, tn N q.2))).take (k + 1)).length = k + 1 := by rw [List.length_take, ls_len, List.length_map]; omega
      by_cases e2 : j < k
      · rw [List.getElem?_append_left (by omega), List.getElem?_append_left (by omega), List.getElem?_take_of_lt e2, List.getElem?_take_of_lt (by omega)]
      · rw [List.getElem?_append_right (by omega), List.getElem?_append_right (by omega), hlT, hlT2, List.getElem?_drop, List.getElem?_drop]
        congr 1; omega) (by
    unfold F.garside_Form_b2
    dsimp only
    rw [ls_len, decide_eq_false (by omega), cond_false, List.take_of_length_le (by rw [ls_len, List.length_map]; omega), List.drop_of_length_le (by rw [ls_len]; omega), List.append_nil]) n (by omega)
  simpa using this
/-- One letter: the last part. -/
theorem letter_eq {qs : List Pr} {f g : Nat → Nat} (h : Pms N qs) (hf : Pm N f g) (n : Nat) (hN : 1 ≤ N ∧ N ≤ 10) (hl : qs.length ≤ 900) (hn : 300000000 ≤ n) {p : Int} (hp : -10000 ≤ p ∧ p ≤ 10000) {k i : Nat} (hk : k ≤ 1000) (h1 : 1 ≤ i) (h2 : i < N) (q : Bool) :
    ∃ p' qs', F.garside_Form_j1 n (li N (dl N)) (k : Int) (li N f) (i : Int) q p (ls N qs) = some (.inl (((k + 1 : Nat) : Int), p', ls N qs')) ∧ Pms N qs' ∧ LWi N qs' ∧ (∀ q ∈ qs', q.1 ≠ fun k => k) ∧ (∀ q ∈ qs', q.1 ≠ dl N) ∧ p' + (qs'.length : Int) ≤ p + qs.length + 1 ∧ p ≤ p' ∧ (∀ H b, Wd N (dl N) H → NS N H p (fsts qs ++ [fun k => f (tr i k)]) b → NS N H p' (fsts qs') b) := by
  have hf2 := hf.ex h1 h2
  have hP : Pms N (qs ++ [((fun k => f (tr i k)), fun k => tr i (g k))]) := fun x hx => by
    rcases List.mem_append.1 hx with a | a
    · exact h x a
    · simp only [List.mem_singleton] at a; subst a; exact hf2
  obtain ⟨q1, a1, a2, a3, a4, a5, a6⟩ := settle_eq hP n hN (by simp; omega) hn
  simp only [List.length_append, List.length_cons, List.length_nil] at a3
  obtain ⟨p', q2, b1, b2, b3, b4, b5, b6, b7, b8⟩ := front_eq a2 a4 a5 n hN.2 (by omega) (by omega) p hp
  refine ⟨p', q2, ?_, b2, b3, b4, b5, by omega, b7, fun H b hH hNS => b8 H b hH (a6 H p b ?_)⟩
  · unfold F.garside_Form_j1
    have hk1 : ((i : Int) - 1).toNat = i - 1 := by omega
    have hk2 : (i : Int).toNat = i := by omega
    rw [chk_ok (by omega) (by omega)]
    simp only [Option.bind_some]
    rw [get_li (by omega) (by omega)]
    simp only [Option.bind_some]
    rw [get_li (f := f) (z := (i : Int) - 1) (by omega) (by omega)]
    simp only [Option.bind_some]
    rw [hk1, hk2]
    have e3 : ∃ x, Ev.get ((li N f).set (i - 1) ((f i : Nat) : Int)) (i : Int) = some x := ⟨_, get_ok (by omega) (by rw [List.length_set, li_len]; omega)⟩
    obtain ⟨x, e3⟩ := e3
    rw [e3]
    simp only [Option.bind_some]
    rw [li_sw h1 h2, ls_len, lim_ok (by omega), Option.bind_some]
    have e4 : ls N qs ++ [li N fun k => f (tr i k)] = ls N (qs ++ [((fun k => f (tr i k)), fun k => tr i (g k))]) := by unfold ls; simp
    rw [e4, a1, Option.bind_some, b1, Option.bind_some]
    dsimp only
    rw [chk_ok (by omega) (by omega), Option.bind_some]; rfl
  · unfold fsts at hNS ⊢
    simpa using hNS
theorem form_eq {s : Int} {w : List Int} (hv : okB s w = true) (n : Nat) (hn : 300000000 ≤ n) : ∃ p qs, F.garside_Form n s w = some (s, p, ls s.toNat qs, 0) ∧ NV s.toNat p qs w := by
  obtain ⟨h1, h2, h3, h4⟩ := okB_iff.1 hv
  obtain ⟨N, rfl⟩ : ∃ N : Nat, s = (N : Int) := ⟨s.toNat, by omega⟩
  rw [show ((N : Int)).toNat = N by omega]
  unfold F.garside_Form
  rw [braidValid n (by omega), Option.bind_some, hv, Bool.not_true, cond_false, halfTwist_eq n (by omega) (by omega), Option.bind_some]
  obtain ⟨r, hr1, hr2⟩ := loop_spec (body := F.garside_Form_b0 n (N : Int) w (li N (dl N)))
    (fun s => ∃ k p qs, s = (((k : Nat) : Int), p, ls N qs) ∧ k ≤ w.length ∧ NV N p qs (w.take k))
    (fun s => w.length - s.1.toNat)
    (fun r => ∃ k p qs, r = (k, p, ls N qs) ∧ NV N p qs w)
    (fun s ⟨k, p, qs, e, hk, hV⟩ => by
      subst e
      have hlo := hV.lo; have hhi := hV.hi
      rw [List.length_take, Nat.min_eq_left hk] at hlo hhi
      unfold F.garside_Form_b0
      dsimp only
      by_cases hlt : k < w.length
      · have ht : w.take (k + 1) = w.take k ++ [w[k]] := by rw [List.take_add_one, List.getElem?_eq_getElem hlt]; rfl
        have hx := h4 w[k] (List.getElem_mem hlt)
        rw [decide_eq_true (by omega), cond_true, get_nat, List.getElem?_eq_getElem hlt, Option.bind_some, identity_eq n (by omega) (by omega), Option.bind_some]
        generalize w[k] = x at ht hx
        rw [chk_ok (by omega) (by omega), Option.bind_some]
        have hlen1 : ((w.take (k + 1)).length : Int) = (k : Int) + 1 := by rw [List.length_take, Nat.min_eq_left (by omega)]; omega
        left
        by_cases hneg : x < 0
        · obtain ⟨i, rfl⟩ : ∃ i : Nat, x = -(i : Int) := ⟨(-x).toNat, by omega⟩
          rw [decide_eq_true hneg, cond_true, chk_ok (by omega) (by omega), Option.bind_some, turns_eq hV.pms n (by omega) (by omega) (by omega), Option.bind_some]
          dsimp only
          rw [clone_li n (by omega), Option.bind_some, chk_ok (by omega) (by omega), Option.bind_some]
          have ei : (N : Int) - max (-(i : Int)) (- -(i : Int)) = ((N - i : Nat) : Int) := by omega
          rw [ei]
          have hP : Pms N (qs.map fun q => (tn N q.1, tn N q.2)) := fun q hq => by
            obtain ⟨q0, h0, rfl⟩ := List.mem_map.1 hq
            exact (hV.pms q0 h0).tn
          obtain ⟨p', q2, b1, b2, b3, b4, b5, b6, b7, b8⟩ := letter_eq (f := dl N) hP dl_pm n ⟨by omega, by omega⟩ (by rw [List.length_map]; omega) hn (p := p - 1) (by omega) (k := k) (by omega) (i := N - i) (by omega) (by omega) true
          rw [b1]
          rw [List.length_map] at b6
          refine ⟨_, rfl, ⟨k + 1, p', q2, rfl, by omega, ⟨b2, b3, b4, b5, fun H hH => b8 H _ hH ?_, by rw [hlen1]; omega, by rw [hlen1]; omega⟩⟩, by dsimp only; omega⟩
          have := (hV.ns H hH).down hH (i := i) (by omega) (by omega)
          rw [ht]
          unfold fsts at this ⊢
          simpa [List.map_map, Function.comp_def] using this
        · obtain ⟨i, rfl⟩ : ∃ i : Nat, x = (i : Int) := ⟨x.toNat, by omega⟩
          rw [decide_eq_false hneg, cond_false, show max (i : Int) (-(i : Int)) = (i : Int) by omega]
          obtain ⟨p', q2, b1, b2, b3, b4, b5, b6, b7, b8⟩ := letter_eq (f := fun k => k) hV.pms (Pm.id N) n ⟨by omega, by omega⟩ (by omega) hn (p := p) (by omega) (k := k) (by omega) (i := i) (by omega) (by omega) false
          rw [b1]
          refine ⟨_, rfl, ⟨k + 1, p', q2, rfl, by omega, ⟨b2, b3, b4, b5, fun H hH => b8 H _ hH ?_, by rw [hlen1]; omega, by rw [hlen1]; omega⟩⟩, by dsimp only; omega⟩
          rw [ht]
          exact (hV.ns H hH).up (by omega) (by omega)
      · rw [decide_eq_false (by omega), cond_false]
        right
        refine ⟨_, rfl, _, p, qs, rfl, ?_⟩
        rw [List.take_of_length_le (by omega)] at hV
        exact hV) n (0, 0, ([] : List (List Int))) ⟨0, 0, [], rfl, by omega, ⟨fun q hq => by simp at hq, fun i a b ha => by simp at ha, fun q hq => by simp at hq, fun q hq => by simp at hq, fun H _ => NS.nil, by simp, by simp⟩⟩ (by dsimp only; omega)
  obtain ⟨k, p, qs, rfl, hV⟩ := hr2
  exact ⟨p, qs, by rw [hr1, Option.bind_some], hV⟩
theorem form_bad {s : Int} {w : List Int} (hv : okB s w = false) (n : Nat) (hn : w.length < n) : F.garside_Form n s w = some (0, 0, [], 1) := by
  unfold F.garside_Form
  rw [braidValid n hn, Option.bind_some, hv]; rfl
end
end Gar
end Go.Proofs.Ytlkmcbgkohpmiaa
