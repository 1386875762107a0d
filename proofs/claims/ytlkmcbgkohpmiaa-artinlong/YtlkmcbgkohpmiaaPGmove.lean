/- Joined: PGli, PGmove. -/
import Derived.Test.YtlkmcbgkohpmiaaPBraid
import Derived.Test.YtlkmcbgkohpmiaaPGgap
/- Lists of integers that list a permutation: how the program reads, turns and checks them. -/
set_option linter.unusedVariables false
set_option linter.unusedSimpArgs false
namespace Go.Proofs.Ytlkmcbgkohpmiaa
open Ev
namespace Gar
def li (N : Nat) (f : Nat → Nat) : List Int := (List.range N).map fun k => (f k : Int)
section
variable {N : Nat} {f g : Nat → Nat}
@[simp] theorem li_len : (li N f).length = N := by simp [li]
theorem li_at {k : Nat} (h : k < N) : (li N f)[k]? = some (f k : Int) := by simp [li, h]
theorem li_none {k : Nat} (h : N ≤ k) : (li N f)[k]? = none := by simp [li]; omega
theorem get_li {z : Int} (h0 : 0 ≤ z) (h1 : z < N) : Ev.get (li N f) z = some (f z.toNat : Int) := by
  unfold Ev.get; rw [if_pos h0, li_at (by omega)]
theorem li_ext (h : ∀ k, k < N → f k = g k) : li N f = li N g := by
  unfold li; apply List.map_congr_left; intro k hk; rw [List.mem_range] at hk; rw [h k hk]
theorem li_eq (hf : ∀ k, N ≤ k → f k = k) (hg : ∀ k, N ≤ k → g k = k) (h : li N f = li N g) : f = g := by
  funext k
  rcases Nat.lt_or_ge k N with hk | hk
  · have := congrArg (·[k]?) h
    simp only [li_at hk] at this
    injection this with this; omega
  · rw [hf k hk, hg k hk]
theorem li_set (k v : Nat) : (li N f).set k (v : Int) = li N (fun j => if j = k then v else f j) := by
  apply List.ext_getElem?
  intro j
  rw [List.getElem?_set]
  by_cases h : k = j
  · subst h
    rw [if_pos rfl, li_len]
    by_cases h1 : k < N
    · rw [if_pos h1, li_at h1, if_pos rfl]
    · rw [if_neg h1, li_none (by omega)]
  · rw [if_neg h]
    by_cases h1 : j < N
    · rw [li_at h1, li_at h1, if_neg (Ne.symm h)]
    · rw [li_none (by omega), li_none (by omega)]
/-- Two neighbours change places. -/
theorem li_sw {i : Nat} (h1 : 1 ≤ i) (h2 : i < N) : ((li N f).set (i - 1) (f i : Int)).set i (f (i - 1) : Int) = li N (fun k => f (tr i k)) := by
  rw [li_set, li_set]
  apply li_ext
  intro k hk
  by_cases e1 : k = i
  · subst e1; rw [if_pos rfl, tr_r h1]
  · rw [if_neg e1]
    by_cases e2 : k = i - 1
    · subst e2; rw [if_pos rfl, tr_l h1]
    · rw [if_neg e2, tr_o (by omega) e1]
theorem li_rep : List.replicate N (0 : Int) = li N (fun _ => 0) := by
  apply List.ext_getElem?
  intro j
  by_cases h : j < N
  · rw [li_at h]; simp [h]
  · rw [li_none (by omega)]; simp; omega
/-- Filled up to k. -/
def fill (f : Nat → Nat) (k j : Nat) : Nat := if j < k then f j else 0
theorem li_fill {k : Nat} : (li N (fill f k)).set k (f k : Int) = li N (fill f (k + 1)) := by
  rw [li_set]
  apply li_ext
  intro j hj
  unfold fill
  by_cases h : j = k
  · subst h; rw [if_pos rfl, if_pos (by omega)]
  · rw [if_neg h]
    by_cases h1 : j < k
    · rw [if_pos h1, if_pos (by omega)]
    · rw [if_neg h1, if_neg (by omega)]
theorem li_full : li N (fill f N) = li N f := li_ext fun k hk => if_pos hk
theorem li_empty : List.replicate N (0 : Int) = li N (fill f 0) := by
  rw [li_rep]; exact li_ext fun k _ => (if_neg (by omega)).symm
theorem pigeon : ∀ (N : Nat) (f : Nat → Nat), (∀ k, k < N → f k < N) → (∀ j k, j < N → k < N → f j = f k → j = k) → ∀ y, y < N → ∃ k, k < N ∧ f k = y
  | 0, _, _, _, y, hy => absurd hy (Nat.not_lt_zero _)
  | N + 1, f, h, inj, y, hy => by
    have hm : f N < N + 1 := h N (by omega)
    have ih := pigeon N (fun k => if f k = N then f N else f k) (fun k hk => by
      by_cases e : f k = N
      · simp only [e, if_true]
        have : f N ≠ N := fun e2 => by have := inj k N (by omega) (by omega) (by omega); omega
        omega
      · simp only [e, if_false]
        have := h k (by omega); omega) (fun j k hj hk e => by
      by_cases e1 : f j = N <;> by_cases e2 : f k = N <;> simp only [e1, e2, if_true, if_false] at e
      · exact inj j k (by omega) (by omega) (by omega)
      · have := inj N k (by omega) (by omega) e; omega
      · have := inj j N (by omega) (by omega) e; omega
      · exact inj j k (by omega) (by omega) e)
    by_cases hy1 : y = f N
    · exact ⟨N, by omega, hy1.symm⟩
    by_cases hy2 : y = N
    · obtain ⟨k, hk, e⟩ := ih (f N) (by omega)
      by_cases e1 : f k = N
      · exact ⟨k, by omega, by omega⟩
      · simp only [e1, if_false] at e
        have := inj k N (by omega) (by omega) e; omega
    · obtain ⟨k, hk, e⟩ := ih y (by omega)
      by_cases e1 : f k = N
      · simp only [e1, if_true] at e; omega
      · simp only [e1, if_false] at e
        exact ⟨k, by omega, e⟩
/-- A list that lists a permutation. -/
def IsP (p : List Int) : Prop := ∃ f g, Pm p.length f g ∧ p = li p.length f
theorem isP_of {p : List Int} (hr : ∀ x ∈ p, 0 ≤ x ∧ x < p.length) (hn : p.Nodup) : IsP p := by
  have hf : ∀ k, k < p.length → p[k]? = some (((p.getD k 0).toNat : Nat) : Int) := fun k hk => by
    have h1 : p[k]? = some p[k] := List.getElem?_eq_getElem hk
    have h2 := hr p[k] (List.getElem_mem hk)
    rw [h1, List.getD_eq_getElem?_getD, h1, Option.getD_some, show ((p[k].toNat : Nat) : Int) = p[k] by omega]
  have hlt : ∀ k, k < p.length → (p.getD k 0).toNat < p.length := fun k hk => by
    have h1 := hf k hk
    have h2 := hr _ (List.mem_of_getElem? h1)
    omega
  have hinj : ∀ j k, j < p.length → k < p.length → (p.getD j 0).toNat = (p.getD k 0).toNat → j = k := fun j k hj hk e => by
    have h1 := hf j hj; have h2 := hf k hk
    rw [e, ← h2] at h1
    exact (List.getElem?_inj hj hn).1 h1
  have hs := pigeon p.length _ hlt hinj
  have hg : ∀ y, ∃ k, (y < p.length → k < p.length ∧ (p.getD k 0).toNat = y) ∧ (¬ y < p.length → k = y) := fun y => by
    by_cases h : y < p.length
    · obtain ⟨k, h1, h2⟩ := hs y h
      exact ⟨k, fun _ => ⟨h1, h2⟩, fun h' => absurd h h'⟩
    · exact ⟨y, fun h' => absurd h' h, fun _ => rfl⟩
  obtain ⟨g, hg⟩ := Classical.skolem.1 hg
  refine ⟨fun k => if k < p.length then (p.getD k 0).toNat else k, g, ⟨fun k hk => if_neg (by omega), fun k => ?_, fun y => ?_⟩, ?_⟩
  · by_cases h : k < p.length
    · simp only [h, if_true]
      have h2 := (hg (p.getD k 0).toNat).1 (hlt k h)
      exact hinj _ _ h2.1 h h2.2
    · simp only [h, if_false]
      exact (hg k).2 h
  · by_cases h : y < p.length
    · have h2 := (hg y).1 h
      simp only [h2.1, if_true, h2.2]
    · have h2 := (hg y).2 h
      simp only [h2, h, if_false]
  · apply List.ext_getElem?
    intro k
    by_cases h : k < p.length
    · rw [hf k h, li_at h, if_pos h]
    · rw [List.getElem?_eq_none (by omega), li_none (by omega)]
theorem IsP.nodup {p : List Int} (h : IsP p) : p.Nodup := by
  obtain ⟨f, g, hp, e⟩ := h
  rw [e]
  unfold li
  rw [List.Nodup, List.pairwise_map]
  refine List.Pairwise.imp ?_ List.nodup_range
  intro a b hab e
  exact hab (hp.inj (by omega))
theorem IsP.rng {p : List Int} (h : IsP p) : ∀ x ∈ p, 0 ≤ x ∧ x < p.length := by
  obtain ⟨f, g, hp, e⟩ := h
  intro x hx
  rw [e] at hx
  simp only [li, List.mem_map, List.mem_range] at hx
  obtain ⟨k, hk, rfl⟩ := hx
  have := hp.lt hk; omega
theorem isP_li (h : Pm N f g) : IsP (li N f) := ⟨f, g, by rw [li_len]; exact h, by rw [li_len]⟩
/-! The program's functions on permutations. -/
theorem permValid {p : List Int} (n : Nat) (hn : p.length < n) (hl : p.length ≤ 100000000) : ∃ r, F.perm_Valid n p = some r ∧ (r = true ↔ IsP p) := by
  unfold F.perm_Valid
  rw [pos_ok (by omega) (by omega), Option.bind_some]
  obtain ⟨r, hr1, hr2⟩ := loop_spec (body := F.perm_Valid_b0 n p) (fun s => ∃ k : Nat, s.1 = (k : Int) ∧ k ≤ p.length ∧ s.2.length = p.length ∧ (∀ x ∈ p.take k, 0 ≤ x ∧ x < p.length) ∧ (p.take k).Nodup ∧ ∀ x : Nat, x < p.length → (s.2[x]? = some true ↔ (x : Int) ∈ p.take k))
    (fun s => p.length - s.1.toNat) (fun r => match r with | .inl _ => IsP p | .inr b => b = false ∧ ¬ IsP p) (fun s ⟨k, h1, h2, h3, h4, h5, h6⟩ => by
      obtain ⟨i, seen⟩ := s
      dsimp only at h1 h3 h6
      subst h1
      unfold F.perm_Valid_b0
      dsimp only
      by_cases hlt : (k : Int) < (p.length : Int)
      · rw [decide_eq_true hlt, cond_true, get_nat, List.getElem?_eq_getElem (by omega : k < p.length), Option.bind_some]
        have hmem : p[k]'(by omega) ∈ p := List.getElem_mem _
        by_cases c1 : p[k]'(by omega) < 0
        · rw [decide_eq_true c1, cond_true]; right; exact ⟨_, rfl, rfl, fun hp => by have := (hp.rng _ hmem).1; omega⟩
        rw [decide_eq_false c1, cond_false]
        by_cases c2 : (p.length : Int) ≤ p[k]'(by omega)
        · rw [decide_eq_true c2, cond_true]; right; exact ⟨_, rfl, rfl, fun hp => by have := (hp.rng _ hmem).2; omega⟩
        rw [decide_eq_false c2, cond_false]
        have hk3 : (p[k]'(by omega)).toNat < seen.length := by omega
        rw [get_ok (by omega) hk3, Option.bind_some]
        have h7 := h6 (p[k]'(by omega)).toNat (by omega)
        rw [List.getElem?_eq_getElem hk3, show (((p[k]'(by omega)).toNat : Nat) : Int) = p[k]'(by omega) by omega] at h7
        have ht : p.take (k + 1) = p.take k ++ [p[k]'(by omega)] := by rw [List.take_add_one, List.getElem?_eq_getElem (by omega : k < p.length)]; rfl
        by_cases c3 : seen[(p[k]'(by omega)).toNat] = true
        · rw [c3, cond_true]; right
          refine ⟨_, rfl, rfl, fun hp => ?_⟩
          have h8 := h7.1 (by rw [c3])
          have h9 := hp.nodup
          have h10 : (p.take (k + 1)).Nodup := (List.take_sublist _ _).nodup h9
          rw [ht, List.nodup_append] at h10
          exact h10.2.2 _ h8 _ (by simp) rfl
        · rw [Bool.not_eq_true] at c3
          rw [c3, cond_false, Option.bind_some, chk_ok (by omega) (by omega), Option.bind_some]
          left
          have h8 : p[k]'(by omega) ∉ p.take k := fun hm => by have := h7.2 hm; rw [c3] at this; cases this
          refine ⟨_, rfl, ⟨k + 1, by simp, by omega, by simpa using h3, ?_, ?_, ?_⟩, by dsimp only; omega⟩
          · intro x hx
            rw [ht] at hx
            rcases List.mem_append.1 hx with h9 | h9
            · exact h4 x h9
            · simp only [List.mem_singleton] at h9; subst h9; omega
          · rw [ht, List.nodup_append]
            exact ⟨h5, by simp, fun a ha b hb e => by simp only [List.mem_singleton] at hb; subst hb; subst e; exact h8 ha⟩
          · intro x hx
            dsimp only
            rw [ht, List.mem_append, List.mem_singleton, List.getElem?_set]
            by_cases e : (p[k]'(by omega)).toNat = x
            · rw [if_pos e, if_pos hk3]
              exact ⟨fun _ => .inr (by omega), fun _ => rfl⟩
            · rw [if_neg e, h6 x hx]
              exact ⟨fun h => .inl h, fun h => h.resolve_right (by omega)⟩
      · rw [decide_eq_false hlt, cond_false]; right
        obtain rfl : k = p.length := by omega
        rw [List.take_length] at h4 h5
        exact ⟨_, rfl, isP_of h4 h5⟩) n (0, List.replicate (p.length : Int).toNat false) ⟨0, rfl, by omega, by simp, by simp, by simp, fun x hx => by simp [List.getElem?_replicate, hx]⟩ (by dsimp only; omega)
  rw [hr1, Option.bind_some]
  rcases r with s | b
  · exact ⟨true, rfl, ⟨fun _ => hr2, fun _ => rfl⟩⟩
  · obtain ⟨rfl, h⟩ := hr2
    exact ⟨false, rfl, ⟨fun h' => absurd h' (by decide), fun h' => absurd h' h⟩⟩
theorem permValid_li (h : Pm N f g) (n : Nat) (hn : N < n) (hl : N ≤ 1000) : F.perm_Valid n (li N f) = some true := by
  obtain ⟨r, h1, h2⟩ := permValid (p := li N f) n (by rw [li_len]; exact hn) (by rw [li_len]; omega)
  rw [h1, h2.2 (isP_li h)]
theorem permInverse (h : Pm N f g) (n : Nat) (hn : N < n) (hl : N ≤ 1000) : F.perm_Inverse n (li N f) = some (li N g) := by
  unfold F.perm_Inverse
  rw [permValid_li h n hn hl, Option.bind_some, Bool.not_true, cond_false, pos_ok (by rw [li_len]; omega) (by rw [li_len]; omega), Option.bind_some, li_len, show ((N : Int)).toNat = N by omega]
  have := count_loop (body := F.perm_Inverse_b0 n (li N f)) (fun k => ((k : Int), li N (fun y => if g y < k then g y else 0))) N (r := ((N : Int), li N g)) (fun k hk => by
    unfold F.perm_Inverse_b0
    dsimp only
    have hfk := h.lt hk
    rw [li_len, decide_eq_true (by omega), cond_true, get_li (by omega) (by omega), Option.bind_some, show (k : Int).toNat = k by omega, get_li (by omega) (by omega), Option.bind_some, chk_ok (by omega) (by omega), Option.bind_some, show ((f k : Nat) : Int).toNat = f k by omega, li_set]
    congr 3
    apply li_ext
    intro y hy
    by_cases e : y = f k
    · subst e; rw [if_pos rfl, h.gf, if_pos (by omega)]
    · rw [if_neg e]
      have : g y ≠ k := fun e2 => e (by rw [← e2, h.fg])
      by_cases e3 : g y < k
      · rw [if_pos e3, if_pos (by omega)]
      · rw [if_neg e3, if_neg (by omega)]) (by
    unfold F.perm_Inverse_b0
    dsimp only
    rw [li_len, decide_eq_false (by omega), cond_false]
    congr 3
    apply li_ext
    intro y hy
    rw [if_pos (h.symm.lt hy)]) n hn
  have e0 : List.replicate N (0 : Int) = li N (fun y => if g y < 0 then g y else 0) := by
    rw [li_rep]; exact li_ext fun y _ => (if_neg (by omega)).symm
  rw [e0]
  rw [show ((0 : Int), li N (fun y => if g y < 0 then g y else 0)) = ((((0 : Nat)) : Int), li N (fun y => if g y < 0 then g y else 0)) from rfl, this, Option.bind_some]
theorem identity_eq (n : Nat) (hn : N < n) (hl : N ≤ 1000) : F.garside_identity n (N : Int) = some (li N fun k => k) := by
  unfold F.garside_identity
  rw [pos_ok (by omega) (by omega), Option.bind_some, show ((N : Int)).toNat = N by omega]
  have := count_loop (body := F.garside_identity_b0 n (N : Int)) (fun k => ((k : Int), li N (fill (fun k => k) k))) N (r := ((N : Int), li N fun k => k)) (fun k hk => by
    unfold F.garside_identity_b0
    dsimp only
    rw [List.length_replicate, show ((N : Int)).toNat = N by omega, decide_eq_true (by omega), cond_true, get_li (by omega) (by omega), Option.bind_some, chk_ok (by omega) (by omega), Option.bind_some, show (k : Int).toNat = k by omega, li_fill (f := fun k => k)]
    rfl) (by
    unfold F.garside_identity_b0
    dsimp only
    rw [List.length_replicate, show ((N : Int)).toNat = N by omega, decide_eq_false (by omega), cond_false, li_full]) n hn
  rw [li_empty (f := fun k => k), show ((0 : Int), li N (fill (fun k => k) 0)) = ((((0 : Nat)) : Int), li N (fill (fun k => k) 0)) from rfl, this, Option.bind_some]
theorem halfTwist_eq (n : Nat) (hn : N < n) (hl : N ≤ 1000) : F.garside_halfTwist n (N : Int) = some (li N (dl N)) := by
  unfold F.garside_halfTwist
  rw [pos_ok (by omega) (by omega), Option.bind_some, show ((N : Int)).toNat = N by omega]
  have := count_loop (body := F.garside_halfTwist_b0 n (N : Int)) (fun k => ((k : Int), li N (fill (dl N) k))) N (r := ((N : Int), li N (dl N))) (fun k hk => by
    unfold F.garside_halfTwist_b0
    dsimp only
    rw [List.length_replicate, show ((N : Int)).toNat = N by omega, decide_eq_true (by omega), cond_true, chk_ok (by omega) (by omega), Option.bind_some, chk_ok (by omega) (by omega), Option.bind_some, get_li (by omega) (by omega), Option.bind_some, chk_ok (by omega) (by omega), Option.bind_some, show (k : Int).toNat = k by omega]
    have : (N : Int) - 1 - (k : Int) = ((dl N k : Nat) : Int) := by rw [dl_lt hk]; omega
    rw [this, li_fill (f := dl N)]
    rfl) (by
    unfold F.garside_halfTwist_b0
    dsimp only
    rw [List.length_replicate, show ((N : Int)).toNat = N by omega, decide_eq_false (by omega), cond_false, li_full]) n hn
  rw [li_empty (f := dl N), show ((0 : Int), li N (fill (dl N) 0)) = ((((0 : Nat)) : Int), li N (fill (dl N) 0)) from rfl, this, Option.bind_some]
theorem reverse_eq (n : Nat) (hn : N < n) (hl : N ≤ 1000) : F.slices_Reverse_Perm_int n (li N f) = some (li N fun x => f (N - 1 - x)) := by
  unfold F.slices_Reverse_Perm_int
  rw [li_len, chk_ok (by omega) (by omega), Option.bind_some]
  have := count_loop (body := F.slices_Reverse_Perm_int_b0 n) (fun k => ((k : Int), (N : Int) - 1 - (k : Int), li N (fun x => if x < k ∨ N < x + k + 1 then f (N - 1 - x) else f x))) (N / 2) (r := (((N / 2 : Nat) : Int), (N : Int) - 1 - ((N / 2 : Nat) : Int), li N fun x => f (N - 1 - x))) (fun k hk => by
    unfold F.slices_Reverse_Perm_int_b0
    dsimp only
    rw [decide_eq_true (by omega), cond_true, get_li (by omega) (by omega), Option.bind_some, get_li (by omega) (by omega), Option.bind_some, Option.bind_some]
    rw [show (k : Int).toNat = k by omega, show ((N : Int) - 1 - (k : Int)).toNat = N - 1 - k by omega, if_neg (by omega), if_neg (by omega), li_set, get_li (by omega) (by omega), Option.bind_some, chk_ok (by omega) (by omega), Option.bind_some, chk_ok (by omega) (by omega), Option.bind_some, li_set]
    rw [show (N : Int) - 1 - (k : Int) - 1 = (N : Int) - 1 - ((k + 1 : Nat) : Int) by omega]
    congr 4
    apply li_ext
    intro x hx
    by_cases e1 : x = N - 1 - k
    · subst e1; rw [if_pos rfl, if_pos (by omega)]; congr 1; omega
    · rw [if_neg e1]
      by_cases e2 : x = k
      · subst e2; rw [if_pos rfl, if_pos (by omega)]
      · rw [if_neg e2]
        by_cases e3 : x < k ∨ N < x + k + 1
        · rw [if_pos e3, if_pos (by omega)]
        · rw [if_neg e3, if_neg (by omega)]) (by
    unfold F.slices_Reverse_Perm_int_b0
    dsimp only
    rw [decide_eq_false (by omega), cond_false]
    congr 4
    apply li_ext
    intro x hx
    by_cases e3 : x < N / 2 ∨ N < x + N / 2 + 1
    · rw [if_pos e3]
    · rw [if_neg e3]; congr 1; omega) n (by omega)
  have e0 : li N f = li N (fun x => if x < 0 ∨ N < x + 0 + 1 then f (N - 1 - x) else f x) := li_ext fun x hx => (if_neg (by omega)).symm
  rw [e0, show ((0 : Int), (N : Int) - 1, li N (fun x => if x < 0 ∨ N < x + 0 + 1 then f (N - 1 - x) else f x)) = ((((0 : Nat)) : Int), (N : Int) - 1 - (((0 : Nat)) : Int), li N (fun x => if x < 0 ∨ N < x + 0 + 1 then f (N - 1 - x) else f x)) by simp, this, Option.bind_some]
theorem turn_eq (h : Pm N f g) (n : Nat) (hn : N < n) (hl : N ≤ 1000) : F.garside_turnAround n (li N f) = some (li N (tn N f)) := by
  unfold F.garside_turnAround
  rw [reverse_eq n hn hl, Option.bind_some]
  have := count_loop (body := F.garside_turnAround_b0 n (li N f)) (fun k => ((k : Int), li N (fun x => if x < k then tn N f x else f (N - 1 - x)))) N (r := ((N : Int), li N (tn N f))) (fun k hk => by
    unfold F.garside_turnAround_b0
    dsimp only
    have hb := h.lt (show N - 1 - k < N by omega)
    rw [li_len, decide_eq_true (by omega), cond_true, chk_ok (by omega) (by omega), Option.bind_some, get_li (by omega) (by omega), Option.bind_some, show (k : Int).toNat = k by omega, if_neg (by omega), chk_ok (by omega) (by omega), Option.bind_some, Option.bind_some, chk_ok (by omega) (by omega), Option.bind_some]
    have e : (N : Int) - 1 - ((f (N - 1 - k) : Nat) : Int) = ((tn N f k : Nat) : Int) := by unfold tn; rw [dl_lt hk, dl_lt hb]; omega
    rw [e, li_set]
    congr 3
    apply li_ext
    intro x hx
    by_cases e1 : x = k
    · subst e1; rw [if_pos rfl, if_pos (by omega)]
    · rw [if_neg e1]
      by_cases e2 : x < k
      · rw [if_pos e2, if_pos (by omega)]
      · rw [if_neg e2, if_neg (by omega)]) (by
    unfold F.garside_turnAround_b0
    dsimp only
    rw [li_len, decide_eq_false (by omega), cond_false]
    congr 3
    exact li_ext fun x hx => if_pos hx) n hn
  have e0 : li N (fun x => f (N - 1 - x)) = li N (fun x => if x < 0 then tn N f x else f (N - 1 - x)) := li_ext fun x _ => (if_neg (by omega)).symm
  rw [e0, show ((0 : Int), li N (fun x => if x < 0 then tn N f x else f (N - 1 - x))) = ((((0 : Nat)) : Int), li N (fun x => if x < 0 then tn N f x else f (N - 1 - x))) from rfl, this, Option.bind_some]
theorem clone_li (n : Nat) (hl : N ≤ 1000) : F.slices_Clone_Perm_int n (li N f) = some (li N f) := by
  unfold F.slices_Clone_Perm_int
  rw [lim_ok (by simp; omega)]; simp
theorem less_eq (n : Nat) (x y : Int) : F.cmp_Less_int n x y = some (decide (x < y)) := by
  unfold F.cmp_Less_int F.cmp_isNaN_int
  rw [decide_eq_true rfl]; rfl
end
end Gar
end Go.Proofs.Ytlkmcbgkohpmiaa

/- Letters move from a factor to the one before it; factors settle. -/
set_option linter.unusedVariables false
set_option linter.unusedSimpArgs false
namespace Go.Proofs.Ytlkmcbgkohpmiaa
open Ev
namespace Gar
theorem equalP {a b : List Int} (n : Nat) (hn : a.length < n) (hl : a.length ≤ 1000) : ∃ r, F.slices_Equal_Perm_int n a b = some r ∧ (r = true ↔ a = b) := by
  unfold F.slices_Equal_Perm_int
  by_cases h : (a.length : Int) = (b.length : Int)
  · rw [decide_eq_true h, Bool.not_true, cond_false]
    have hab : a.length = b.length := by omega
    obtain ⟨r, hr1, hr2⟩ := loop_spec (body := F.slices_Equal_Perm_int_b0 n a b) (fun s => ∃ k : Nat, s = (k : Int) ∧ k ≤ a.length ∧ a.take k = b.take k) (fun s => a.length - s.toNat)
      (fun r => match r with | .inl _ => a = b | .inr q => q = false ∧ a ≠ b) (fun s ⟨k, h1, h2, h3⟩ => by
        subst h1
        unfold F.slices_Equal_Perm_int_b0
        dsimp only
        by_cases hlt : (k : Int) < (a.length : Int)
        · have k1 : k < a.length := by omega
          have k2 : k < b.length := by omega
          rw [decide_eq_true hlt, cond_true, get_nat, List.getElem?_eq_getElem k1, Option.bind_some, get_nat, List.getElem?_eq_getElem k2, Option.bind_some]
          by_cases e : a[k] = b[k]
          · rw [decide_eq_true e, Bool.not_true, cond_false, chk_ok (by omega) (by omega), Option.bind_some]
            left
            refine ⟨_, rfl, ⟨k + 1, by simp, by omega, ?_⟩, by omega⟩
            rw [List.take_add_one, List.take_add_one, h3, List.getElem?_eq_getElem k1, List.getElem?_eq_getElem k2, e]
          · rw [decide_eq_false e, Bool.not_false, cond_true]
            right
            refine ⟨_, rfl, rfl, fun hab => ?_⟩
            have h4 : a[k]? = b[k]? := by rw [hab]
            rw [List.getElem?_eq_getElem k1, List.getElem?_eq_getElem k2] at h4
            injection h4 with h4
            exact e h4
        · rw [decide_eq_false hlt, cond_false]
          right
          obtain rfl : k = a.length := by omega
          rw [List.take_length, hab, List.take_length] at h3
          exact ⟨_, rfl, h3⟩) n 0 ⟨0, rfl, by omega, by simp⟩ (by simpa using hn)
    rw [hr1, Option.bind_some]
    rcases r with s | q
    · exact ⟨true, rfl, ⟨fun _ => hr2, fun _ => rfl⟩⟩
    · obtain ⟨rfl, h5⟩ := hr2
      exact ⟨false, rfl, ⟨fun h' => absurd h' (by decide), fun h' => absurd h' h5⟩⟩
  · rw [decide_eq_false h, Bool.not_false, cond_true]
    exact ⟨false, rfl, ⟨fun h' => absurd h' (by decide), fun h' => absurd (by rw [h']) h⟩⟩
section
variable {N : Nat}
theorem sorted_eq {f g : Nat → Nat} (h : Pm N f g) (n : Nat) (hn : N < n) (hl : N ≤ 1000) (h1 : 1 ≤ N) : ∃ r, F.slices_IsSorted_Perm_int n (li N f) = some r ∧ (r = true ↔ f = fun k => k) := by
  unfold F.slices_IsSorted_Perm_int
  rw [li_len, chk_ok (by omega) (by omega), Option.bind_some]
  obtain ⟨r, hr1, hr2⟩ := loop_spec (body := F.slices_IsSorted_Perm_int_b0 n (li N f)) (fun s => ∃ k : Nat, s = (k : Int) ∧ k < N ∧ ∀ i, k < i → i < N → ¬ ds f i) (fun s => s.toNat)
    (fun r => match r with | .inl _ => f = (fun k => k) | .inr q => q = false ∧ f ≠ fun k => k) (fun s ⟨k, e1, e2, e3⟩ => by
      subst e1
      unfold F.slices_IsSorted_Perm_int_b0
      dsimp only
      by_cases hk : 0 < (k : Int)
      · rw [decide_eq_true hk, cond_true, get_li (by omega) (by omega), Option.bind_some, chk_ok (by omega) (by omega), Option.bind_some, get_li (by omega) (by omega), Option.bind_some, less_eq, Option.bind_some, show (k : Int).toNat = k by omega, show ((k : Int) - 1).toNat = k - 1 by omega]
        by_cases hd : f k < f (k - 1)
        · rw [decide_eq_true (by omega), cond_true]
          right
          refine ⟨_, rfl, rfl, fun e => ?_⟩
          rw [e] at hd; dsimp only at hd; omega
        · rw [decide_eq_false (by omega), cond_false, Option.bind_some]
          left
          refine ⟨_, rfl, ⟨k - 1, by omega, by omega, fun i i1 i2 => ?_⟩, by omega⟩
          by_cases e : i = k
          · subst e; exact hd
          · exact e3 i (by omega) i2
      · rw [decide_eq_false hk, cond_false]
        right
        exact ⟨_, rfl, h.noDs fun i i1 i2 => e3 i (by omega) i2⟩) n ((N : Int) - 1) ⟨N - 1, by omega, by omega, fun i i1 i2 => by omega⟩ (by omega)
  rw [hr1, Option.bind_some]
  rcases r with s | q
  · exact ⟨true, rfl, ⟨fun _ => hr2, fun _ => rfl⟩⟩
  · obtain ⟨rfl, h5⟩ := hr2
    exact ⟨false, rfl, ⟨fun h' => absurd h' (by decide), fun h' => absurd h' h5⟩⟩
/-- Letters move one after the other. -/
inductive Mvs (N : Nat) : (Nat → Nat) × (Nat → Nat) × (Nat → Nat) → (Nat → Nat) × (Nat → Nat) × (Nat → Nat) → Prop
  | refl (s) : Mvs N s s
  | step {s : (Nat → Nat) × (Nat → Nat) × (Nat → Nat)} {f1 g1 f2 : Nat → Nat} {i : Nat} : Mvs N s (f1, g1, f2) → 1 ≤ i → i < N → ds f2 i → g1 (i - 1) < g1 i → Mvs N s (fun k => tr i (f1 k), fun k => g1 (tr i k), fun k => f2 (tr i k))
theorem inv_le (l : List Nat) : inv l ≤ l.length * l.length := by
  induction l with
  | nil => simp [inv]
  | cons a l ih =>
    have h := List.countP_le_length (p := fun x => decide (x < a)) (l := l)
    simp only [inv, List.length_cons]
    rw [Nat.add_mul, Nat.mul_add]; omega
theorem inv_lst_le (f : Nat → Nat) : inv (lst N f) ≤ N * N := by
  have := inv_le (lst N f)
  simpa [lst] using this
/-- Letters of the first factor count. -/
theorem inv_up {f g : Nat → Nat} (h : Pm N f g) {i : Nat} (h1 : 1 ≤ i) (h2 : i < N) (ha : g (i - 1) < g i) : inv (lst N fun k => tr i (f k)) = inv (lst N f) + 1 := by
  obtain ⟨w, hw⟩ := h.word
  have := (hw.snoc h h1 h2 ha).len
  have e := hw.len
  simp at this; omega
theorem Mvs.pm {s t : (Nat → Nat) × (Nat → Nat) × (Nat → Nat)} (h : Mvs N s t) (h1 : Pm N s.1 s.2.1) (h2 : ∃ g2, Pm N s.2.2 g2) : Pm N t.1 t.2.1 ∧ (∃ g2, Pm N t.2.2 g2) ∧ inv (lst N t.1) + inv (lst N t.2.2) = inv (lst N s.1) + inv (lst N s.2.2) := by
  induction h with
  | refl => exact ⟨h1, h2, rfl⟩
  | @step f1 g1 f2 i k1 k2 k3 k4 k5 ih =>
    obtain ⟨q1, ⟨g2, q2⟩, q3⟩ := ih
    dsimp only at q1 q2 q3 ⊢
    refine ⟨(q1.symm.ex k2 k3).symm, ⟨_, q2.ex k2 k3⟩, ?_⟩
    have a1 := inv_up q1 k2 k3 k5
    have a2 := inv_tr k2 k3 k4
    omega
theorem moveLoop {f1 g1 f2 g2 : Nat → Nat} (h1 : Pm N f1 g1) (h2 : Pm N f2 g2) (n : Nat) (hl : N ≤ 100) (hn : N * N * (N + 1) + N < n) :
    ∃ c i f1' g1' f2', loopN n (F.garside_moveLetters_b0 n (li N f2)) (false, 1, li N f2, li N g1) = some (c, i, li N f2', li N g1') ∧ Mvs N (f1, g1, f2) (f1', g1', f2') ∧ (∀ j, 1 ≤ j → j < N → ds f2' j → ds g1' j) ∧ (c = false → f1' = f1 ∧ g1' = g1 ∧ f2' = f2) ∧ (c = true → inv (lst N f2') < inv (lst N f2)) := by
  obtain ⟨r, hr1, hr2⟩ := loop_spec (body := F.garside_moveLetters_b0 n (li N f2))
    (fun s => ∃ c k f1' g1' f2', s = (c, ((k : Nat) : Int), li N f2', li N g1') ∧ 1 ≤ k ∧ (k ≤ N ∨ k = 1) ∧ Mvs N (f1, g1, f2) (f1', g1', f2') ∧ (∀ j, 1 ≤ j → j < k → j < N → ds f2' j → ds g1' j) ∧ (c = false → f1' = f1 ∧ g1' = g1 ∧ f2' = f2) ∧ (c = true → inv (lst N f2') < inv (lst N f2)))
    (fun s => inv (s.2.2.1.map Int.toNat) * (N + 1) + (N - s.2.1.toNat))
    (fun r => ∃ c i f1' g1' f2', r = (c, i, li N f2', li N g1') ∧ Mvs N (f1, g1, f2) (f1', g1', f2') ∧ (∀ j, 1 ≤ j → j < N → ds f2' j → ds g1' j) ∧ (c = false → f1' = f1 ∧ g1' = g1 ∧ f2' = f2) ∧ (c = true → inv (lst N f2') < inv (lst N f2)))
    (fun s ⟨c, k, f1', g1', f2', e, k1, k2, hm, hw, hc, hc2⟩ => by
      subst e
      have hmap : ∀ f : Nat → Nat, (li N f).map Int.toNat = lst N f := fun f => by
        unfold li lst; rw [List.map_map]; apply List.map_congr_left; intro x _; simp
      obtain ⟨p1, ⟨g2', p2⟩, p3⟩ := hm.pm h1 ⟨g2, h2⟩
      dsimp only at p1 p2 p3
      unfold F.garside_moveLetters_b0
      dsimp only
      by_cases hk : k < N
      · rw [li_len, decide_eq_true (by omega), cond_true, chk_ok (by omega) (by omega), Option.bind_some, get_li (by omega) (by omega), Option.bind_some, get_li (by omega) (by omega), Option.bind_some]
        rw [show ((k : Int) - 1).toNat = k - 1 by omega, show (k : Int).toNat = k by omega]
        have hne : f2' (k - 1) ≠ f2' k := fun e => by have := p2.inj e; omega
        have next : ¬ (ds f2' k ∧ g1' (k - 1) < g1' k) → ∃ s', (chk ((k : Int) + 1)).bind (fun z => some (.inl (c, z, li N f2', li N g1'))) = some (Sum.inl (β := Bool × Int × List Int × List Int) s') ∧
            (∃ c_1 k f1'_1 g1'_1 f2'_1, s' = (c_1, ((k : Nat) : Int), li N f2'_1, li N g1'_1) ∧ 1 ≤ k ∧ (k ≤ N ∨ k = 1) ∧ Mvs N (f1, g1, f2) (f1'_1, g1'_1, f2'_1) ∧ (∀ j, 1 ≤ j → j < k → j < N → ds f2'_1 j → ds g1'_1 j) ∧ (c_1 = false → f1'_1 = f1 ∧ g1'_1 = g1 ∧ f2'_1 = f2) ∧ (c_1 = true → inv (lst N f2'_1) < inv (lst N f2))) ∧
            inv (s'.2.2.1.map Int.toNat) * (N + 1) + (N - s'.2.1.toNat) < inv ((li N f2').map Int.toNat) * (N + 1) + (N - k) := fun hno => by
          rw [chk_ok (by omega) (by omega), Option.bind_some]
          refine ⟨_, rfl, ⟨c, k + 1, f1', g1', f2', rfl, by omega, by omega, hm, fun j j1 j2 j3 j4 => ?_, hc, hc2⟩, by dsimp only; omega⟩
          by_cases e : j = k
          · subst e
            have : ¬ g1' (j - 1) < g1' j := fun h => hno ⟨j4, h⟩
            have hne2 : g1' (j - 1) ≠ g1' j := fun e => by have := p1.symm.inj e; omega
            unfold ds; omega
          · exact hw j j1 (by omega) j3 j4
        by_cases hd : f2' (k - 1) < f2' k
        · rw [decide_eq_true (by omega), cond_true]
          exact .inl (next fun ⟨h, _⟩ => by unfold ds at h; omega)
        · rw [decide_eq_false (by omega), cond_false, Option.bind_some, get_li (by omega) (by omega), Option.bind_some, get_li (by omega) (by omega), Option.bind_some]
          rw [show ((k : Int) - 1).toNat = k - 1 by omega, show (k : Int).toNat = k by omega]
          by_cases ha : g1' k < g1' (k - 1)
          · rw [decide_eq_true (by omega), cond_true]
            exact .inl (next fun ⟨_, h⟩ => by omega)
          · rw [decide_eq_false (by omega), cond_false]
            have hne2 : g1' (k - 1) ≠ g1' k := fun e => by have := p1.symm.inj e; omega
            have hd' : ds f2' k := by unfold ds; omega
            have ha' : g1' (k - 1) < g1' k := by omega
            left
            simp only [Option.bind_some]
            have e1 : ∀ f : Nat → Nat, Ev.get (li N f) ((k : Int) - 1) = some ((f (k - 1) : Nat) : Int) := fun f => by
              rw [get_li (by omega) (by omega), show ((k : Int) - 1).toNat = k - 1 by omega]
            have e2 : ∀ (f : Nat → Nat) (v : Int), ∃ x, Ev.get ((li N f).set (k - 1) v) (k : Int) = some x := fun f v => ⟨_, get_ok (by omega) (by rw [List.length_set, li_len]; omega)⟩
            obtain ⟨x1, q1⟩ := e2 f2' ((f2' k : Nat) : Int)
            obtain ⟨x2, q2⟩ := e2 g1' ((g1' k : Nat) : Int)
            have hk1 : ((k : Int) - 1).toNat = k - 1 := by omega
            rw [e1]
            simp only [Option.bind_some, hk1]
            rw [q1]
            simp only [Option.bind_some]
            rw [e1]
            simp only [Option.bind_some]
            rw [q2]
            simp only [Option.bind_some]
            rw [li_sw k1 hk, li_sw k1 hk]
            have hdec := inv_tr k1 hk hd'
            refine ⟨_, rfl, ⟨true, max 1 (k - 1), _, _, _, ?_, by omega, by omega, hm.step k1 hk hd' ha', fun j j1 j2 j3 j4 => ?_, fun h => absurd h (by decide), fun _ => ?_⟩, ?_⟩
            · congr 2; omega
            · -- letters below k - 1 are as they were
              have t1 : tr k j = j := tr_o (by omega) (by omega)
              have t2 : tr k (j - 1) = j - 1 := tr_o (by omega) (by omega)
              unfold ds at j4 ⊢
              dsimp only at j4 ⊢
              rw [t1, t2] at j4 ⊢
              exact hw j j1 (by omega) j3 j4
            · cases c with
              | false => obtain ⟨_, _, e⟩ := hc rfl; rw [← e]; omega
              | true => have := hc2 rfl; omega
            · dsimp only
              rw [hmap, hmap]
              rw [hdec, Nat.add_mul]
              omega
      · rw [li_len, decide_eq_false (by omega), cond_false]
        right
        exact ⟨_, rfl, c, _, f1', g1', f2', rfl, hm, fun j j1 j2 j3 => hw j j1 (by omega) j2 j3, hc, hc2⟩) n (false, 1, li N f2, li N g1) ⟨false, 1, f1, g1, f2, rfl, by omega, .inr rfl, .refl _, fun j j1 j2 => by omega, fun _ => ⟨rfl, rfl, rfl⟩, fun h => absurd h (by decide)⟩ (by
      dsimp only
      have hmap : (li N f2).map Int.toNat = lst N f2 := by
        unfold li lst; rw [List.map_map]; apply List.map_congr_left; intro x _; simp
      rw [hmap]
      have := Nat.mul_le_mul_right (N + 1) (inv_lst_le (N := N) f2)
      omega)
  obtain ⟨c, i, f1', g1', f2', rfl, h3, h4, h5, h6⟩ := hr2
  exact ⟨c, i, f1', g1', f2', hr1, h3, h4, h5, h6⟩
theorem moveLetters_eq {f1 g1 f2 g2 : Nat → Nat} (h1 : Pm N f1 g1) (h2 : Pm N f2 g2) (n : Nat) (hl : N ≤ 100) (hn : N * N * (N + 1) + N < n) :
    ∃ c f1' g1' f2', F.garside_moveLetters n (li N f1) (li N f2) = some (c, li N f1', li N f2') ∧ Mvs N (f1, g1, f2) (f1', g1', f2') ∧ (∀ j, 1 ≤ j → j < N → ds f2' j → ds g1' j) ∧ (c = false → f1' = f1 ∧ g1' = g1 ∧ f2' = f2) ∧ (c = true → inv (lst N f2') < inv (lst N f2)) := by
  unfold F.garside_moveLetters
  rw [permInverse h1 n (by omega) (by omega), Option.bind_some]
  obtain ⟨c, i, f1', g1', f2', e1, e2, e3, e4, e5⟩ := moveLoop h1 h2 n hl hn
  obtain ⟨p1, -, -⟩ := e2.pm h1 ⟨g2, h2⟩
  dsimp only at p1
  refine ⟨c, f1', g1', f2', ?_, e2, e3, e4, e5⟩
  rw [e1, Option.bind_some]
  dsimp only
  rw [permInverse p1.symm n (by omega) (by omega), Option.bind_some, li_len, li_len, Nat.min_self, List.take_of_length_le (by rw [li_len]; omega), List.drop_of_length_le (by rw [li_len]; omega), List.append_nil]
end
end Gar
end Go.Proofs.Ytlkmcbgkohpmiaa
