/- Valid normal forms, as the reference tells them. -/
import Derived.Test.YtkeaonceaaafcaaPGwd
import Derived.Test.YtkeaonceaaafcaaPGform
set_option linter.unusedVariables false
set_option linter.unusedSimpArgs false
namespace Go.Proofs.Ytkeaonceaaafcaa
open Ev
namespace Gar
theorem refIn (l : List Int) (x : Int) (n : Nat) (hl : l.length ≤ 1000) (hn : l.length < n) : F.ref01_In n l x = some (decide (x ∈ l)) := by
  unfold F.ref01_In
  obtain ⟨r, r1, r2⟩ := loop_spec (body := F.ref01_In_b0 n l x) (fun s => ∃ k : Nat, s = (k : Int) ∧ k ≤ l.length ∧ x ∉ l.take k) (fun s => l.length - s.toNat)
    (fun r => match r with | .inl _ => x ∉ l | .inr b => b = true ∧ x ∈ l) (fun s ⟨k, h1, h2, h3⟩ => by
      subst h1
      unfold F.ref01_In_b0
      dsimp only
      by_cases hk : k < l.length
      · have ka := List.getElem?_eq_getElem hk
        rw [decide_eq_true (by omega), cond_true, get_at rfl ka, Option.bind_some]
        by_cases e : l[k] = x
        · rw [decide_eq_true e, cond_true]
          exact .inr ⟨_, rfl, rfl, e ▸ List.getElem_mem hk⟩
        · rw [decide_eq_false e, cond_false, chk_ok (by omega) (by omega), Option.bind_some]
          refine .inl ⟨_, rfl, ⟨k + 1, rfl, by omega, fun h => ?_⟩, by omega⟩
          rw [List.take_add_one, ka] at h
          rcases List.mem_append.1 h with h | h
          · exact h3 h
          · rw [Option.toList_some, List.mem_singleton] at h; exact e h.symm
      · rw [decide_eq_false (by omega), cond_false]
        refine .inr ⟨_, rfl, ?_⟩
        rwa [List.take_of_length_le (by omega)] at h3) n 0 ⟨0, rfl, by omega, by simp⟩ (by simpa using hn)
  rw [r1, Option.bind_some]
  rcases r with _ | b
  · rw [decide_eq_false r2]
  · rw [decide_eq_true r2.2, r2.1]
theorem contains_eq (l : List Int) (x : Int) (n : Nat) (hl : l.length ≤ 1000) (hn : l.length < n) : F.ref34_contains n l x = some (decide (x ∈ l)) := by
  unfold F.ref34_contains
  have e : F.ref34_contains_b0 n l x = F.ref01_In_b0 n l x := rfl
  rw [e]
  exact refIn l x n hl hn
/-- A list that holds as many things as another, without repetition, holds no others. -/
theorem sub_nodup {α : Type} [DecidableEq α] : ∀ {l1 l2 : List α}, l1.Nodup → (∀ x ∈ l1, x ∈ l2) → l2.length ≤ l1.length → l2.Nodup ∧ ∀ x ∈ l2, x ∈ l1
  | [], l2, _, _, h3 => by
    obtain rfl := List.eq_nil_of_length_eq_zero (by simpa using h3)
    exact ⟨List.nodup_nil, fun x hx => hx⟩
  | a :: t, l2, h1, h2, h3 => by
    have ha : a ∈ l2 := h2 a (by simp)
    obtain ⟨h4, h5⟩ := List.nodup_cons.1 h1
    have hp := List.perm_cons_erase ha
    have hlen := hp.length_eq
    rw [List.length_cons] at hlen h3
    obtain ⟨h6, h7⟩ := sub_nodup (l1 := t) (l2 := l2.erase a) h5 (fun x hx => by
      have h8 : x ∈ a :: l2.erase a := hp.mem_iff.1 (h2 x (by simp [hx]))
      rcases List.mem_cons.1 h8 with h9 | h9
      · subst h9; exact absurd hx h4
      · exact h9) (by omega)
    refine ⟨hp.nodup_iff.2 (List.nodup_cons.2 ⟨fun h => h4 (h7 a h), h6⟩), fun x hx => ?_⟩
    rcases List.mem_cons.1 (hp.mem_iff.1 hx) with h9 | h9
    · subst h9; simp
    · exact List.mem_cons_of_mem _ (h7 x h9)
theorem isP_all {p : List Int} : (∀ k : Nat, k < p.length → (k : Int) ∈ p) ↔ IsP p := by
  refine ⟨fun h => ?_, fun h => ?_⟩
  · have hr : ((List.range p.length).map fun k : Nat => (k : Int)).Nodup := by
      unfold List.Nodup
      rw [List.pairwise_map]
      exact List.Pairwise.imp (fun h e => h (by omega)) List.nodup_range
    obtain ⟨h1, h2⟩ := sub_nodup (l1 := (List.range p.length).map fun k : Nat => (k : Int)) (l2 := p) hr (fun x hx => by
      obtain ⟨k, h3, rfl⟩ := List.mem_map.1 hx
      exact h k (List.mem_range.1 h3)) (by simp)
    exact isP_of (fun x hx => by
      obtain ⟨k, h3, rfl⟩ := List.mem_map.1 (h2 x hx)
      have := List.mem_range.1 h3
      omega) h1
  · obtain ⟨f, g, hp, he⟩ := h
    intro k hk
    have h1 : g k < p.length := hp.symm.lt hk
    rw [he]
    unfold li
    exact List.mem_map.2 ⟨g k, List.mem_range.2 h1, by rw [hp.fg]⟩
theorem refPerm {p : List Int} (n : Nat) (hl : p.length ≤ 1000) (hn : p.length < n) : ∃ r, F.ref30_Valid n p = some r ∧ (r = true ↔ IsP p) := by
  unfold F.ref30_Valid F.ref01_IsPerm
  rw [decide_eq_true rfl, Bool.not_true, cond_false]
  obtain ⟨r, r1, r2⟩ := loop_spec (body := F.ref01_IsPerm_b0 n p (p.length : Int)) (fun s => ∃ k : Nat, s = (k : Int) ∧ k ≤ p.length ∧ ∀ j : Nat, j < k → (j : Int) ∈ p) (fun s => p.length - s.toNat)
    (fun r => match r with | .inl _ => IsP p | .inr b => b = false ∧ ¬ IsP p) (fun s ⟨k, h1, h2, h3⟩ => by
      subst h1
      unfold F.ref01_IsPerm_b0
      dsimp only
      by_cases hk : k < p.length
      · rw [decide_eq_true (by omega), cond_true, refIn p _ n hl hn, Option.bind_some]
        by_cases e : (k : Int) ∈ p
        · rw [decide_eq_true e, Bool.not_true, cond_false, chk_ok (by omega) (by omega), Option.bind_some]
          refine .inl ⟨_, rfl, ⟨k + 1, rfl, by omega, fun j hj => ?_⟩, by omega⟩
          by_cases hjk : j = k
          · subst hjk; exact e
          · exact h3 j (by omega)
        · rw [decide_eq_false e, Bool.not_false, cond_true]
          exact .inr ⟨_, rfl, rfl, fun h => e (isP_all.2 h k hk)⟩
      · rw [decide_eq_false (by omega), cond_false]
        exact .inr ⟨_, rfl, isP_all.1 fun j hj => h3 j (by omega)⟩) n 0 ⟨0, rfl, by omega, fun j hj => by omega⟩ (by simpa using hn)
  rw [r1, Option.bind_some]
  rcases r with _ | b
  · exact ⟨true, rfl, fun _ => r2, fun _ => rfl⟩
  · obtain ⟨rfl, h⟩ := r2
    exact ⟨false, rfl, fun h' => absurd h' (by decide), fun h' => absurd h' h⟩
section
variable {N : Nat}
theorem refInverse {f g : Nat → Nat} (h : Pm N f g) (n : Nat) (hn : N < n) (hl : N ≤ 1000) : F.ref30_Inverse n (li N f) = some (li N g) := by
  have := permInverse h n hn hl
  unfold F.perm_Inverse at this
  rw [permValid_li h n hn hl, Option.bind_some, Bool.not_true, cond_false] at this
  unfold F.ref30_Inverse
  exact this
theorem dsl_full (f : Nat → Nat) : ∀ k, (dsl (k + 1) f).length ≤ k ∧ ((dsl (k + 1) f).length = k → ∀ j, 1 ≤ j → j ≤ k → ds f j) := by
  intro k
  induction k with
  | zero => exact ⟨by rw [show dsl (0 + 1) f = [] from rfl]; simp, fun _ j h1 h2 => by omega⟩
  | succ k ih =>
    rw [dsl_succ f (k + 1), List.length_append]
    by_cases h : 1 ≤ k + 1 ∧ f (k + 1) < f (k + 1 - 1)
    · rw [if_pos h, List.length_singleton]
      refine ⟨by omega, fun e j h1 h2 => ?_⟩
      by_cases hj : j = k + 1
      · subst hj; exact h.2
      · exact ih.2 (by omega) j h1 (by omega)
    · rw [if_neg h, List.length_nil]
      exact ⟨by omega, fun e => by omega⟩
/-- A row that may stand in a normal form. -/
def Rok (N : Nat) (prev : Option (Nat → Nat)) (x : List Int) : Prop := ∃ f g, Pm N f g ∧ x = li N f ∧ (f ≠ fun k => k) ∧ f ≠ dl N ∧ ∀ g0, prev = some g0 → ∀ j, 1 ≤ j → j < N → ds f j → ds g0 j
theorem lettersSub (a b : List Int) (n : Nat) (ha : a.length ≤ 1000) (hb : b.length ≤ 1000) (hn : 1000 < n) : ∃ r, loopN n (F.ref34_Valid_b2 n a b) 0 = some r ∧ ((∃ x, r = .inl x ∧ ∀ y ∈ a, y ∈ b) ∨ (r = .inr false ∧ ¬ ∀ y ∈ a, y ∈ b)) := by
  apply loop_spec (fun s => ∃ k : Nat, s = (k : Int) ∧ k ≤ a.length ∧ ∀ y ∈ a.take k, y ∈ b) (fun s => a.length - s.toNat)
  · intro s hs
    obtain ⟨k, rfl, h2, h3⟩ := hs
    unfold F.ref34_Valid_b2
    dsimp only
    by_cases hk : k < a.length
    · have ka := List.getElem?_eq_getElem hk
      rw [decide_eq_true (by omega), cond_true, get_at rfl ka, Option.bind_some, contains_eq b _ n hb (by omega), Option.bind_some]
      by_cases e : a[k] ∈ b
      · rw [decide_eq_true e, Bool.not_true, cond_false, chk_ok (by omega) (by omega), Option.bind_some]
        refine .inl ⟨_, rfl, ⟨k + 1, rfl, by omega, fun y hy => ?_⟩, by omega⟩
        rw [List.take_add_one, ka] at hy
        rcases List.mem_append.1 hy with hy | hy
        · exact h3 y hy
        · rw [Option.toList_some, List.mem_singleton] at hy; subst hy; exact e
      · rw [decide_eq_false e, Bool.not_false, cond_true]
        exact .inr ⟨_, rfl, .inr ⟨rfl, fun h => e (h _ (List.getElem_mem hk))⟩⟩
    · rw [decide_eq_false (by omega), cond_false]
      refine .inr ⟨_, rfl, .inl ⟨_, rfl, ?_⟩⟩
      rwa [List.take_of_length_le (by omega)] at h3
  · exact ⟨0, rfl, by omega, by simp⟩
  · simp; omega
theorem pos_mem {w : List Nat} {i : Nat} : (i : Int) ∈ pos w ↔ i ∈ w := by
  unfold pos
  rw [List.mem_map]
  exact ⟨fun ⟨j, h1, h2⟩ => by have : j = i := by omega
                               exact this ▸ h1, fun h => ⟨i, h, rfl⟩⟩
theorem validRow (hN : 1 ≤ N ∧ N ≤ 10) {L : List (List Int)} {k : Nat} (hk : k ≤ 1000) {x : List Int} (hx : L[k]? = some x) (prev : Option (Nat → Nat)) (hprev : (k = 0 ∧ prev = none) ∨ (1 ≤ k ∧ ∃ f0 g0, Pm N f0 g0 ∧ L[k - 1]? = some (li N f0) ∧ prev = some g0)) (n : Nat) (hn : 3000 ≤ n) :
    (Rok N prev x ∧ F.ref34_Valid_b1 n (N : Int) L (k : Int) = some (.inl ((k + 1 : Nat) : Int))) ∨ (¬ Rok N prev x ∧ F.ref34_Valid_b1 n (N : Int) L (k : Int) = some (.inr (.inr false))) := by
  have hlt := (List.getElem?_eq_some_iff.1 hx).1
  unfold F.ref34_Valid_b1
  dsimp only
  rw [decide_eq_true (by omega), cond_true, get_at rfl hx, Option.bind_some]
  by_cases c1 : (x.length : Int) = (N : Int)
  · rw [decide_eq_true c1, Bool.not_true, cond_false]
    obtain ⟨r, r1, r2⟩ := refPerm (p := x) n (by omega) (by omega)
    rw [r1, Option.bind_some]
    cases r with
    | false =>
      rw [Bool.not_false, cond_true]
      refine .inr ⟨fun ⟨f, g, h1, h2, _⟩ => ?_, rfl⟩
      have := r2.2 (h2 ▸ isP_li h1)
      exact absurd this (by decide)
    | true =>
      obtain ⟨f, g, hp, he⟩ := r2.1 rfl
      have hxl : x.length = N := by omega
      rw [hxl] at hp he
      subst he
      have hlen := dsl_len f N
      have hpl : (pos (dsl N f)).length = (dsl N f).length := by simp [pos]
      have huniq : ∀ {f' g' : Nat → Nat}, Pm N f' g' → li N f = li N f' → f = f' := fun h1 h2 => li_eq hp.fix h1.fix h2
      rw [Bool.not_true, cond_false, letters_eq f n (by omega) (by omega), Option.bind_some]
      by_cases c2 : dsl N f = []
      · have hid : f = fun k => k := hp.noDs fun i i1 i2 i3 => by
          have : i ∈ dsl N f := mem_dsl.2 ⟨i2, i1, i3⟩
          rw [c2] at this; simp at this
        rw [decide_eq_true (by rw [hpl, c2]; rfl), cond_true]
        refine .inr ⟨fun ⟨f', g', h1, h2, h3, _⟩ => h3 (by rw [← huniq h1 h2]; exact hid), rfl⟩
      · have hnid : f ≠ fun k => k := fun e => by
          apply c2
          have : ∀ i, i ∉ dsl N f := fun i hi => by
            obtain ⟨i1, i2, i3⟩ := mem_dsl.1 hi
            rw [e] at i3
            exact id_ds i2 i3
          exact List.eq_nil_iff_forall_not_mem.2 this
        have hl1 : 1 ≤ (dsl N f).length := by
          cases h : dsl N f with
          | nil => exact absurd h c2
          | cons a t => simp
        rw [decide_eq_false (by rw [hpl]; omega), cond_false, Option.bind_some, chk_ok (by omega) (by omega), Option.bind_some]
        by_cases c3 : (dsl N f).length = N - 1
        · have hdl : f = dl N := ds_all hp fun j j1 j2 => by
            have := dsl_full f (N - 1)
            rw [Nat.sub_add_cancel hN.1] at this
            exact this.2 c3 j j1 (by omega)
          rw [decide_eq_true (by rw [hpl]; omega), cond_true]
          exact .inr ⟨fun ⟨f', g', h1, h2, _, h4, _⟩ => h4 (by rw [← huniq h1 h2]; exact hdl), rfl⟩
        · have hndl : f ≠ dl N := fun e => by
            apply c3
            have : ∀ m, m ≤ N → (dsl m f).length = m - 1 := by
              intro m
              induction m with
              | zero => intro _; rfl
              | succ m ih =>
                intro hm
                rw [dsl_succ, List.length_append, ih (by omega)]
                by_cases h0 : 1 ≤ m
                · rw [if_pos ⟨h0, by rw [e]; exact dl_ds h0 (by omega)⟩, List.length_singleton]; omega
                · rw [if_neg (by omega), List.length_nil]; omega
            exact this N (Nat.le_refl _)
          rw [decide_eq_false (by rw [hpl]; omega), cond_false]
          rcases hprev with ⟨rfl, rfl⟩ | ⟨hk1, f0, g0, hp0, hx0, rfl⟩
          · rw [decide_eq_true (show ((0 : Nat) : Int) = 0 from rfl), cond_true]
            exact .inl ⟨⟨f, g, hp, rfl, hnid, hndl, fun g0 h => by cases h⟩, rfl⟩
          · rw [decide_eq_false (by omega), cond_false, Option.bind_some, chk_ok (by omega) (by omega), Option.bind_some, get_at (k := k - 1) (by omega) hx0, Option.bind_some, refInverse hp0 n (by omega) (by omega), Option.bind_some, letters_eq g0 n (by omega) (by omega), Option.bind_some]
            have hlen0 := dsl_len g0 N
            obtain ⟨r, r1, r2⟩ := lettersSub (pos (dsl N f)) (pos (dsl N g0)) n (by rw [hpl]; omega) (by simp [pos]; omega) (by omega)
            rw [r1, Option.bind_some]
            have hiff : (∀ y ∈ pos (dsl N f), y ∈ pos (dsl N g0)) ↔ ∀ j, 1 ≤ j → j < N → ds f j → ds g0 j := by
              refine ⟨fun h j j1 j2 j3 => ?_, fun h y hy => ?_⟩
              · exact (mem_dsl.1 (pos_mem.1 (h j (pos_mem.2 (mem_dsl.2 ⟨j2, j1, j3⟩))))).2.2
              · have hy' := hy
                unfold pos at hy'
                obtain ⟨j, hj, rfl⟩ := List.mem_map.1 hy'
                obtain ⟨j1, j2, j3⟩ := mem_dsl.1 hj
                exact pos_mem.2 (mem_dsl.2 ⟨j1, j2, h j j2 j1 j3⟩)
            rcases r2 with ⟨z, rfl, h⟩ | ⟨rfl, h⟩
            · dsimp only
              rw [chk_ok (by omega) (by omega), Option.bind_some]
              exact .inl ⟨⟨f, g, hp, rfl, hnid, hndl, fun g1 h1 => by injection h1 with h1; subst h1; exact hiff.1 h⟩, rfl⟩
            · exact .inr ⟨fun ⟨f', g', h1, h2, _, _, h5⟩ => h (hiff.2 (by rw [huniq h1 h2]; exact h5 g0 rfl)), rfl⟩
  · rw [decide_eq_false c1, Bool.not_false, cond_true]
    refine .inr ⟨fun ⟨f, g, h1, h2, _⟩ => c1 (by rw [h2, li_len]), rfl⟩
/-- The factors of a normal form. -/
def NF (N : Nat) (L : List (List Int)) (qs : List Pr) : Prop := L = ls N qs ∧ Pms N qs ∧ LWi N qs ∧ (∀ q ∈ qs, q.1 ≠ fun k => k) ∧ ∀ q ∈ qs, q.1 ≠ dl N
theorem validRows (hN : 1 ≤ N ∧ N ≤ 10) {L : List (List Int)} (hL : L.length ≤ 400) (n : Nat) (hn : 3000 ≤ n) : ∃ r, F.ref34_Valid_j0 n (N : Int) L = some r ∧ (r = true ↔ ∃ qs, NF N L qs) := by
  unfold F.ref34_Valid_j0
  obtain ⟨r, r1, r2⟩ := loop_spec (body := F.ref34_Valid_b1 n (N : Int) L) (fun s => ∃ k : Nat, s = (k : Int) ∧ k ≤ L.length ∧ ∃ qs, NF N (L.take k) qs) (fun s => L.length - s.toNat)
    (fun r => match r with | .inl _ => ∃ qs, NF N L qs | .inr b => b = false ∧ ¬ ∃ qs, NF N L qs) (fun s ⟨k, h1, h2, qs, h3, h4, h5, h6, h7⟩ => by
      subst h1
      have hql : qs.length = k := by
        have := congrArg List.length h3
        rw [List.length_take, ls_len] at this; omega
      by_cases hk : k < L.length
      · have hx : L[k]? = some L[k] := List.getElem?_eq_getElem hk
        generalize L[k] = x at hx
        have hprev : ∃ prev, ((k = 0 ∧ prev = none) ∨ (1 ≤ k ∧ ∃ f0 g0, Pm N f0 g0 ∧ L[k - 1]? = some (li N f0) ∧ prev = some g0)) ∧ ∀ q, qs[k - 1]? = some q → 1 ≤ k → prev = some q.2 := by
          by_cases hk0 : k = 0
          · exact ⟨none, .inl ⟨hk0, rfl⟩, fun q hq h => by omega⟩
          · have kq : qs[k - 1]? = some (qs[k - 1]'(by omega)) := List.getElem?_eq_getElem _
            have hpq := h4 _ (List.getElem_mem (show k - 1 < qs.length by omega))
            generalize qs[k - 1]'(by omega) = q at kq hpq
            refine ⟨some q.2, .inr ⟨by omega, q.1, q.2, hpq, ?_, rfl⟩, fun q' hq' _ => ?_⟩
            · have := ls_at (N := N) kq
              rw [← h3, List.getElem?_take] at this
              rwa [if_pos (by omega)] at this
            · rw [kq] at hq'; injection hq' with hq'; rw [hq']
        obtain ⟨prev, hp1, hp2⟩ := hprev
        rcases validRow hN (by omega) hx prev hp1 n hn with ⟨⟨f, g, a1, a2, a3, a4, a5⟩, b⟩ | ⟨a, b⟩
        · refine .inl ⟨_, b, ⟨k + 1, rfl, by omega, qs ++ [(f, g)], ?_, ?_, ?_, ?_, ?_⟩, by omega⟩
          · rw [List.take_add_one, hx, h3, a2]; unfold ls; rw [List.map_append]; rfl
          · intro q hq
            rcases List.mem_append.1 hq with hq | hq
            · exact h4 q hq
            · rw [List.mem_singleton] at hq; subst hq; exact a1
          · intro i a b' ha hb
            have hbl := (List.getElem?_eq_some_iff.1 hb).1
            rw [List.length_append, List.length_singleton] at hbl
            rw [List.getElem?_append_left (by omega)] at ha
            by_cases hi : i + 1 < qs.length
            · rw [List.getElem?_append_left hi] at hb
              exact h5 i a b' ha hb
            · rw [List.getElem?_append_right (by omega), show i + 1 - qs.length = 0 by omega] at hb
              injection hb with hb
              subst hb
              exact a5 a.2 (hp2 a (by rw [show k - 1 = i by omega]; exact ha) (by omega))
          · intro q hq
            rcases List.mem_append.1 hq with hq | hq
            · exact h6 q hq
            · rw [List.mem_singleton] at hq; subst hq; exact a3
          · intro q hq
            rcases List.mem_append.1 hq with hq | hq
            · exact h7 q hq
            · rw [List.mem_singleton] at hq; subst hq; exact a4
        · refine .inr ⟨_, b, rfl, fun ⟨qs', c1, c2, c3, c4, c5⟩ => a ?_⟩
          have hql' : qs'.length = L.length := by rw [c1, ls_len]
          have kq : qs'[k]? = some (qs'[k]'(by omega)) := List.getElem?_eq_getElem _
          have hm := List.getElem_mem (show k < qs'.length by omega)
          generalize qs'[k]'(by omega) = q at kq hm
          have hxq := ls_at (N := N) kq
          rw [← c1, hx] at hxq
          injection hxq with hxq
          refine ⟨q.1, q.2, c2 q hm, hxq, c4 q hm, c5 q hm, fun g0 hg0 => ?_⟩
          rcases hp1 with ⟨_, e⟩ | ⟨hk1, f0, g0', e1, e2, e3⟩
          · rw [e] at hg0; cases hg0
          · rw [e3] at hg0
            injection hg0 with hg0
            subst hg0
            have kq0 : qs'[k - 1]? = some (qs'[k - 1]'(by omega)) := List.getElem?_eq_getElem _
            have hm0 := List.getElem_mem (show k - 1 < qs'.length by omega)
            generalize qs'[k - 1]'(by omega) = q0 at kq0 hm0
            have hx0 := ls_at (N := N) kq0
            rw [← c1, e2] at hx0
            injection hx0 with hx0
            have hf : f0 = q0.1 := li_eq e1.fix (c2 q0 hm0).fix hx0
            have hg : g0' = q0.2 := by subst hf; exact e1.uniq (c2 q0 hm0)
            rw [hg]
            exact c3 (k - 1) q0 q kq0 (by rw [Nat.sub_add_cancel hk1]; exact kq)
      · unfold F.ref34_Valid_b1
        dsimp only
        rw [decide_eq_false (by omega), cond_false]
        rw [List.take_of_length_le (by omega)] at h3
        exact .inr ⟨_, rfl, qs, h3, h4, h5, h6, h7⟩) n 0 ⟨0, rfl, by omega, [], rfl, fun q hq => by simp at hq, fun i a b ha => by simp at ha, fun q hq => by simp at hq, fun q hq => by simp at hq⟩ (by simp; omega)
  rw [r1, Option.bind_some]
  rcases r with _ | b
  · exact ⟨true, rfl, fun _ => r2, fun _ => rfl⟩
  · obtain ⟨rfl, h⟩ := r2
    exact ⟨false, rfl, fun h' => absurd h' (by decide), fun h' => absurd h' h⟩
end
theorem refValid {s p : Int} {L : List (List Int)} (n : Nat) (hn : 3000 ≤ n) : ∃ r, F.ref34_Valid n s p L = some r ∧ (r = true ↔ (1 ≤ s ∧ s ≤ 10 ∧ -200 ≤ p ∧ p ≤ 200 ∧ (s = 1 → p = 0) ∧ L.length ≤ 400 ∧ ∃ qs, NF s.toNat L qs)) := by
  unfold F.ref34_Valid
  have no : ∀ {P : Prop}, ¬ P → ∃ r, some false = some r ∧ (r = true ↔ P) := fun h => ⟨false, rfl, fun h' => absurd h' (by decide), fun h' => absurd h' h⟩
  by_cases c1 : s < 1
  · rw [decide_eq_true c1, cond_true]; exact no (by omega)
  rw [decide_eq_false c1, cond_false]
  by_cases c2 : 10 < s
  · rw [decide_eq_true c2, cond_true]; exact no (by omega)
  rw [decide_eq_false c2, cond_false]
  by_cases c3 : p < -200
  · rw [decide_eq_true c3, cond_true]; exact no (by omega)
  rw [decide_eq_false c3, cond_false]
  by_cases c4 : 200 < p
  · rw [decide_eq_true c4, cond_true]; exact no (by omega)
  rw [decide_eq_false c4, cond_false]
  have fin : (s = 1 → p = 0) → ∃ r, (bif decide ((400 : Int) < (L.length : Int)) then some false else F.ref34_Valid_j0 n s L) = some r ∧ (r = true ↔ (1 ≤ s ∧ s ≤ 10 ∧ -200 ≤ p ∧ p ≤ 200 ∧ (s = 1 → p = 0) ∧ L.length ≤ 400 ∧ ∃ qs, NF s.toNat L qs)) := by
    intro h1
    by_cases c6 : (400 : Int) < (L.length : Int)
    · rw [decide_eq_true c6, cond_true]; exact no (by omega)
    · rw [decide_eq_false c6, cond_false]
      obtain ⟨N, rfl⟩ : ∃ N : Nat, s = (N : Int) := ⟨s.toNat, by omega⟩
      obtain ⟨r, r1, r2⟩ := validRows (N := N) ⟨by omega, by omega⟩ (L := L) (by omega) n hn
      rw [Int.toNat_natCast]
      exact ⟨r, r1, r2.trans ⟨fun h => ⟨by omega, by omega, by omega, by omega, h1, by omega, h⟩, fun h => h.2.2.2.2.2.2⟩⟩
  by_cases c5 : s = 1
  · rw [decide_eq_true c5, cond_true]
    by_cases c7 : p = 0
    · rw [decide_eq_true c7, Bool.not_true, cond_false]; exact fin (fun _ => c7)
    · rw [decide_eq_false c7, Bool.not_false, cond_true]; exact no (fun h => c7 (h.2.2.2.2.1 c5))
  · rw [decide_eq_false c5, cond_false]; exact fin (fun h => absurd h c5)
end Gar
end Go.Proofs.Ytkeaonceaaafcaa
