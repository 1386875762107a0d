/- Permutations as lists, for grids. -/
import Derived.Test.YticemffhlapnnaaPLoop
set_option linter.unusedVariables false
set_option linter.unusedSimpArgs false
namespace Go.Proofs.Yticemffhlapnnaa
open Ev
namespace Gar
/-- A permutation of the numbers below N, with its inverse. -/
structure Pm (N : Nat) (f g : Nat → Nat) : Prop where
  fix : ∀ k, N ≤ k → f k = k
  gf : ∀ k, g (f k) = k
  fg : ∀ k, f (g k) = k
section
variable {N : Nat} {f g : Nat → Nat}
theorem Pm.symm (h : Pm N f g) : Pm N g f := ⟨fun k hk => by have := h.gf k; rwa [h.fix k hk] at this, h.fg, h.gf⟩
theorem Pm.inj (h : Pm N f g) {a b : Nat} (e : f a = f b) : a = b := by rw [← h.gf a, ← h.gf b, e]
theorem Pm.lt (h : Pm N f g) {k : Nat} (hk : k < N) : f k < N := by
  rcases Nat.lt_or_ge (f k) N with h1 | h1
  · exact h1
  · have := h.inj (h.fix _ h1); omega
theorem Pm.id (N : Nat) : Pm N (fun k => k) (fun k => k) := ⟨fun _ _ => rfl, fun _ => rfl, fun _ => rfl⟩
theorem Pm.uniq {g' : Nat → Nat} (h : Pm N f g) (h' : Pm N f g') : g = g' := by
  funext k; have := h'.gf (g k); rw [h.fg] at this; exact this.symm
/-! Inversions. -/
end
def li (N : Nat) (f : Nat → Nat) : List Int := (List.range N).map fun k => (f k : Int)
section
variable {N : Nat} {f g : Nat → Nat}
@[simp] theorem li_len : (li N f).length = N := by simp [li]
theorem li_at {k : Nat} (h : k < N) : (li N f)[k]? = some (f k : Int) := by simp [li, h]
theorem li_none {k : Nat} (h : N ≤ k) : (li N f)[k]? = none := by simp [li]; omega
theorem get_li {z : Int} (h0 : 0 ≤ z) (h1 : z < N) : Ev.get (li N f) z = some (f z.toNat : Int) := by
  unfold Ev.get; rw [if_pos h0, li_at (by omega)]
theorem li_ext (h : ∀ k, k < N → f k = g k) : li N f = li N g := by
  unfold li; apply List.map_congr_left; intro k hk; rw [List.mem_range] at hk; rw [h k hk]
theorem li_eq (hf : ∀ k, N ≤ k → f k = k) (hg : ∀ k, N ≤ k → g k = k) (h : li N f = li N g) : f = g := by
  funext k
  rcases Nat.lt_or_ge k N with hk | hk
  · have := congrArg (·[k]?) h
    simp only [li_at hk] at this
    injection this with this; omega
  · rw [hf k hk, hg k hk]
theorem li_set (k v : Nat) : (li N f).set k (v : Int) = li N (fun j => if j = k then v else f j) := by
  apply List.ext_getElem?
  intro j
  rw [List.getElem?_set]
  by_cases h : k = j
  · subst h
    rw [if_pos rfl, li_len]
    by_cases h1 : k < N
    · rw [if_pos h1, li_at h1, if_pos rfl]
    · rw [if_neg h1, li_none (by omega)]
  · rw [if_neg h]
    by_cases h1 : j < N
    · rw [li_at h1, li_at h1, if_neg (Ne.symm h)]
    · rw [li_none (by omega), li_none (by omega)]
theorem li_rep : List.replicate N (0 : Int) = li N (fun _ => 0) := by
  apply List.ext_getElem?
  intro j
  by_cases h : j < N
  · rw [li_at h]; simp [h]
  · rw [li_none (by omega)]; simp; omega
/-- Filled up to k. -/
def fill (f : Nat → Nat) (k j : Nat) : Nat := if j < k then f j else 0
theorem li_fill {k : Nat} : (li N (fill f k)).set k (f k : Int) = li N (fill f (k + 1)) := by
  rw [li_set]
  apply li_ext
  intro j hj
  unfold fill
  by_cases h : j = k
  · subst h; rw [if_pos rfl, if_pos (by omega)]
  · rw [if_neg h]
    by_cases h1 : j < k
    · rw [if_pos h1, if_pos (by omega)]
    · rw [if_neg h1, if_neg (by omega)]
theorem li_full : li N (fill f N) = li N f := li_ext fun k hk => if_pos hk
theorem li_empty : List.replicate N (0 : Int) = li N (fill f 0) := by
  rw [li_rep]; exact li_ext fun k _ => (if_neg (by omega)).symm
theorem pigeon : ∀ (N : Nat) (f : Nat → Nat), (∀ k, k < N → f k < N) → (∀ j k, j < N → k < N → f j = f k → j = k) → ∀ y, y < N → ∃ k, k < N ∧ f k = y
  | 0, _, _, _, y, hy => absurd hy (Nat.not_lt_zero _)
  | N + 1, f, h, inj, y, hy => by
    have hm : f N < N + 1 := h N (by omega)
    have ih := pigeon N (fun k => if f k = N then f N else f k) (fun k hk => by
      by_cases e : f k = N
      · simp only [e, if_true]
        have : f N ≠ N := fun e2 => by have := inj k N (by omega) (by omega) (by omega); omega
        omega
      · simp only [e, if_false]
        have := h k (by omega); omega) (fun j k hj hk e => by
      by_cases e1 : f j = N <;> by_cases e2 : f k = N <;> simp only [e1, e2, if_true, if_false] at e
      · exact inj j k (by omega) (by omega) (by omega)
      · have := inj N k (by omega) (by omega) e; omega
      · have := inj j N (by omega) (by omega) e; omega
      · exact inj j k (by omega) (by omega) e)
    by_cases hy1 : y = f N
    · exact ⟨N, by omega, hy1.symm⟩
    by_cases hy2 : y = N
    · obtain ⟨k, hk, e⟩ := ih (f N) (by omega)
      by_cases e1 : f k = N
      · exact ⟨k, by omega, by omega⟩
      · simp only [e1, if_false] at e
        have := inj k N (by omega) (by omega) e; omega
    · obtain ⟨k, hk, e⟩ := ih y (by omega)
      by_cases e1 : f k = N
      · simp only [e1, if_true] at e; omega
      · simp only [e1, if_false] at e
        exact ⟨k, by omega, e⟩
/-- A list that lists a permutation. -/
def IsP (p : List Int) : Prop := ∃ f g, Pm p.length f g ∧ p = li p.length f
theorem isP_of {p : List Int} (hr : ∀ x ∈ p, 0 ≤ x ∧ x < p.length) (hn : p.Nodup) : IsP p := by
  have hf : ∀ k, k < p.length → p[k]? = some (((p.getD k 0).toNat : Nat) : Int) := fun k hk => by
    have h1 : p[k]? = some p[k] := List.getElem?_eq_getElem hk
    have h2 := hr p[k] (List.getElem_mem hk)
    rw [h1, List.getD_eq_getElem?_getD, h1, Option.getD_some, show ((p[k].toNat : Nat) : Int) = p[k] by omega]
  have hlt : ∀ k, k < p.length → (p.getD k 0).toNat < p.length := fun k hk => by
    have h1 := hf k hk
    have h2 := hr _ (List.mem_of_getElem? h1)
    omega
  have hinj : ∀ j k, j < p.length → k < p.length → (p.getD j 0).toNat = (p.getD k 0).toNat → j = k := fun j k hj hk e => by
    have h1 := hf j hj; have h2 := hf k hk
    rw [e, ← h2] at h1
    exact (List.getElem?_inj hj hn).1 h1
  have hs := pigeon p.length _ hlt hinj
  have hg : ∀ y, ∃ k, (y < p.length → k < p.length ∧ (p.getD k 0).toNat = y) ∧ (¬ y < p.length → k = y) := fun y => by
    by_cases h : y < p.length
    · obtain ⟨k, h1, h2⟩ := hs y h
      exact ⟨k, fun _ => ⟨h1, h2⟩, fun h' => absurd h h'⟩
    · exact ⟨y, fun h' => absurd h' h, fun _ => rfl⟩
  obtain ⟨g, hg⟩ := Classical.skolem.1 hg
  refine ⟨fun k => if k < p.length then (p.getD k 0).toNat else k, g, ⟨fun k hk => if_neg (by omega), fun k => ?_, fun y => ?_⟩, ?_⟩
  · by_cases h : k < p.length
    · simp only [h, if_true]
      have h2 := (hg (p.getD k 0).toNat).1 (hlt k h)
      exact hinj _ _ h2.1 h h2.2
    · simp only [h, if_false]
      exact (hg k).2 h
  · by_cases h : y < p.length
    · have h2 := (hg y).1 h
      simp only [h2.1, if_true, h2.2]
    · have h2 := (hg y).2 h
      simp only [h2, h, if_false]
  · apply List.ext_getElem?
    intro k
    by_cases h : k < p.length
    · rw [hf k h, li_at h, if_pos h]
    · rw [List.getElem?_eq_none (by omega), li_none (by omega)]
theorem IsP.nodup {p : List Int} (h : IsP p) : p.Nodup := by
  obtain ⟨f, g, hp, e⟩ := h
  rw [e]
  unfold li
  rw [List.Nodup, List.pairwise_map]
  refine List.Pairwise.imp ?_ List.nodup_range
  intro a b hab e
  exact hab (hp.inj (by omega))
theorem IsP.rng {p : List Int} (h : IsP p) : ∀ x ∈ p, 0 ≤ x ∧ x < p.length := by
  obtain ⟨f, g, hp, e⟩ := h
  intro x hx
  rw [e] at hx
  simp only [li, List.mem_map, List.mem_range] at hx
  obtain ⟨k, hk, rfl⟩ := hx
  have := hp.lt hk; omega
theorem isP_li (h : Pm N f g) : IsP (li N f) := ⟨f, g, by rw [li_len]; exact h, by rw [li_len]⟩
/-! The program's functions on permutations. -/
end
section
variable {N : Nat}
end
theorem refIn (l : List Int) (x : Int) (n : Nat) (hl : l.length ≤ 1000) (hn : l.length < n) : F.ref01_In n l x = some (decide (x ∈ l)) := by
  unfold F.ref01_In
  obtain ⟨r, r1, r2⟩ := loop_spec (body := F.ref01_In_b0 n l x) (fun s => ∃ k : Nat, s = (k : Int) ∧ k ≤ l.length ∧ x ∉ l.take k) (fun s => l.length - s.toNat)
    (fun r => match r with | .inl _ => x ∉ l | .inr b => b = true ∧ x ∈ l) (fun s ⟨k, h1, h2, h3⟩ => by
      subst h1
      unfold F.ref01_In_b0
      dsimp only
      by_cases hk : k < l.length
      · have ka := List.getElem?_eq_getElem hk
        rw [decide_eq_true (by omega), cond_true, get_at rfl ka, Option.bind_some]
        by_cases e : l[k] = x
        · rw [decide_eq_true e, cond_true]
          exact .inr ⟨_, rfl, rfl, e ▸ List.getElem_mem hk⟩
        · rw [decide_eq_false e, cond_false, chk_ok (by omega) (by omega), Option.bind_some]
          refine .inl ⟨_, rfl, ⟨k + 1, rfl, by omega, fun h => ?_⟩, by omega⟩
          rw [List.take_add_one, ka] at h
          rcases List.mem_append.1 h with h | h
          · exact h3 h
          · rw [Option.toList_some, List.mem_singleton] at h; exact e h.symm
      · rw [decide_eq_false (by omega), cond_false]
        refine .inr ⟨_, rfl, ?_⟩
        rwa [List.take_of_length_le (by omega)] at h3) n 0 ⟨0, rfl, by omega, by simp⟩ (by simpa using hn)
  rw [r1, Option.bind_some]
  rcases r with _ | b
  · rw [decide_eq_false r2]
  · rw [decide_eq_true r2.2, r2.1]
/-- A list that holds as many things as another, without repetition, holds no others. -/
theorem sub_nodup {α : Type} [DecidableEq α] : ∀ {l1 l2 : List α}, l1.Nodup → (∀ x ∈ l1, x ∈ l2) → l2.length ≤ l1.length → l2.Nodup ∧ ∀ x ∈ l2, x ∈ l1
  | [], l2, _, _, h3 => by
    obtain rfl := List.eq_nil_of_length_eq_zero (by simpa using h3)
    exact ⟨List.nodup_nil, fun x hx => hx⟩
  | a :: t, l2, h1, h2, h3 => by
    have ha : a ∈ l2 := h2 a (by simp)
    obtain ⟨h4, h5⟩ := List.nodup_cons.1 h1
    have hp := List.perm_cons_erase ha
    have hlen := hp.length_eq
    rw [List.length_cons] at hlen h3
    obtain ⟨h6, h7⟩ := sub_nodup (l1 := t) (l2 := l2.erase a) h5 (fun x hx => by
      have h8 : x ∈ a :: l2.erase a := hp.mem_iff.1 (h2 x (by simp [hx]))
      rcases List.mem_cons.1 h8 with h9 | h9
      · subst h9; exact absurd hx h4
      · exact h9) (by omega)
    refine ⟨hp.nodup_iff.2 (List.nodup_cons.2 ⟨fun h => h4 (h7 a h), h6⟩), fun x hx => ?_⟩
    rcases List.mem_cons.1 (hp.mem_iff.1 hx) with h9 | h9
    · subst h9; simp
    · exact List.mem_cons_of_mem _ (h7 x h9)
theorem isP_all {p : List Int} : (∀ k : Nat, k < p.length → (k : Int) ∈ p) ↔ IsP p := by
  refine ⟨fun h => ?_, fun h => ?_⟩
  · have hr : ((List.range p.length).map fun k : Nat => (k : Int)).Nodup := by
      unfold List.Nodup
      rw [List.pairwise_map]
      exact List.Pairwise.imp (fun h e => h (by omega)) List.nodup_range
    obtain ⟨h1, h2⟩ := sub_nodup (l1 := (List.range p.length).map fun k : Nat => (k : Int)) (l2 := p) hr (fun x hx => by
      obtain ⟨k, h3, rfl⟩ := List.mem_map.1 hx
      exact h k (List.mem_range.1 h3)) (by simp)
    exact isP_of (fun x hx => by
      obtain ⟨k, h3, rfl⟩ := List.mem_map.1 (h2 x hx)
      have := List.mem_range.1 h3
      omega) h1
  · obtain ⟨f, g, hp, he⟩ := h
    intro k hk
    have h1 : g k < p.length := hp.symm.lt hk
    rw [he]
    unfold li
    exact List.mem_map.2 ⟨g k, List.mem_range.2 h1, by rw [hp.fg]⟩
section
variable {N : Nat}
end
section
variable {N : Nat}
/-! The program's functions. -/
end
section
variable {N : Nat}
end
end Gar
end Go.Proofs.Yticemffhlapnnaa
