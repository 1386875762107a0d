/- Permutations as lists: what layer 30 needs. -/
import Derived.Test.YtmlkiafidahnbaaPLoop
import Derived.Test.YtmlkiafidahnbaaPGw
import Derived.Test.YtmlkiafidahnbaaPEq
set_option linter.unusedVariables false
set_option linter.unusedSimpArgs false
namespace Go.Proofs.Ytmlkiafidahnbaa
open Ev
namespace Gar
def li (N : Nat) (f : Nat → Nat) : List Int := (List.range N).map fun k => (f k : Int)
section
variable {N : Nat} {f g : Nat → Nat}
@[simp] theorem li_len : (li N f).length = N := by simp [li]
theorem li_at {k : Nat} (h : k < N) : (li N f)[k]? = some (f k : Int) := by simp [li, h]
theorem li_none {k : Nat} (h : N ≤ k) : (li N f)[k]? = none := by simp [li]; omega
theorem get_li {z : Int} (h0 : 0 ≤ z) (h1 : z < N) : Ev.get (li N f) z = some (f z.toNat : Int) := by
 unfold Ev.get; rw [if_pos h0, li_at (by omega)]
theorem li_ext (h : ∀ k, k < N → f k = g k) : li N f = li N g := by
 unfold li; apply List.map_congr_left; intro k hk; rw [List.mem_range] at hk; rw [h k hk]
theorem li_eq (hf : ∀ k, N ≤ k → f k = k) (hg : ∀ k, N ≤ k → g k = k) (h : li N f = li N g) : f = g := by
 funext k
 rcases Nat.lt_or_ge k N with hk | hk
 ·
  have := congrArg (·[k]?) h
  simp only [li_at hk] at this
  injection this with this; omega
 · rw [hf k hk, hg k hk]
theorem li_set (k v : Nat) : (li N f).set k (v : Int) = li N (fun j => if j = k then v else f j) := by
 apply List.ext_getElem?
 intro j
 rw [List.getElem?_set]
 by_cases h : k = j
 ·
  subst h
  rw [if_pos rfl, li_len]
  by_cases h1 : k < N
  · rw [if_pos h1, li_at h1, if_pos rfl]
  · rw [if_neg h1, li_none (by omega)]
 ·
  rw [if_neg h]
  by_cases h1 : j < N
  · rw [li_at h1, li_at h1, if_neg (Ne.symm h)]
  · rw [li_none (by omega), li_none (by omega)]
/-- Two neighbours change places. -/
theorem li_sw {i : Nat} (h1 : 1 ≤ i) (h2 : i < N) : ((li N f).set (i - 1) (f i : Int)).set i (f (i - 1) : Int) = li N (fun k => f (tr i k)) := by
 rw [li_set, li_set]
 apply li_ext
 intro k hk
 by_cases e1 : k = i
 · subst e1; rw [if_pos rfl, tr_r h1]
 ·
  rw [if_neg e1]
  by_cases e2 : k = i - 1
  · subst e2; rw [if_pos rfl, tr_l h1]
  · rw [if_neg e2, tr_o (by omega) e1]
theorem li_rep : List.replicate N (0 : Int) = li N (fun _ => 0) := by
 apply List.ext_getElem?
 intro j
 by_cases h : j < N
 · rw [li_at h]; simp [h]
 · rw [li_none (by omega)]; simp; omega
/-- Filled up to k. -/
def fill (f : Nat → Nat) (k j : Nat) : Nat := if j < k then f j else 0
theorem li_fill {k : Nat} : (li N (fill f k)).set k (f k : Int) = li N (fill f (k + 1)) := by
 rw [li_set]
 apply li_ext
 intro j hj
 unfold fill
 by_cases h : j = k
 · subst h; rw [if_pos rfl, if_pos (by omega)]
 ·
  rw [if_neg h]
  by_cases h1 : j < k
  · rw [if_pos h1, if_pos (by omega)]
  · rw [if_neg h1, if_neg (by omega)]
theorem li_full : li N (fill f N) = li N f := li_ext fun k hk => if_pos hk
theorem li_empty : List.replicate N (0 : Int) = li N (fill f 0) := by
 rw [li_rep]; exact li_ext fun k _ => (if_neg (by omega)).symm
theorem pigeon : ∀ (N : Nat) (f : Nat → Nat), (∀ k, k < N → f k < N) → (∀ j k, j < N → k < N → f j = f k → j = k) → ∀ y, y < N → ∃ k, k < N ∧ f k = y
 | 0, _, _, _, y, hy => absurd hy (Nat.not_lt_zero _)
 | N + 1, f, h, inj, y, hy => by
  have hm : f N < N + 1 := h N (by omega)
  have ih := pigeon N (fun k => if f k = N then f N else f k) (fun k hk => by
   by_cases e : f k = N
   ·
    simp only [e, if_true]
    have : f N ≠ N := fun e2 => by have := inj k N (by omega) (by omega) (by omega); omega
    omega
   ·
    simp only [e, if_false]
    have := h k (by omega); omega) (fun j k hj hk e => by
   by_cases e1 : f j = N <;> by_cases e2 : f k = N <;> simp only [e1, e2, if_true, if_false] at e
   · exact inj j k (by omega) (by omega) (by omega)
   · have := inj N k (by omega) (by omega) e; omega
   · have := inj j N (by omega) (by omega) e; omega
   · exact inj j k (by omega) (by omega) e)
  by_cases hy1 : y = f N
  · exact ⟨N, by omega, hy1.symm⟩
  by_cases hy2 : y = N
  ·
   obtain ⟨k, hk, e⟩ := ih (f N) (by omega)
   by_cases e1 : f k = N
   · exact ⟨k, by omega, by omega⟩
   ·
    simp only [e1, if_false] at e
    have := inj k N (by omega) (by omega) e; omega
  ·
   obtain ⟨k, hk, e⟩ := ih y (by omega)
   by_cases e1 : f k = N
   · simp only [e1, if_true] at e; omega
   ·
    simp only [e1, if_false] at e
    exact ⟨k, by omega, e⟩
/-- A list that lists a permutation. -/
def IsP (p : List Int) : Prop := ∃ f g, Pm p.length f g ∧ p = li p.length f
theorem isP_of {p : List Int} (hr : ∀ x ∈ p, 0 ≤ x ∧ x < p.length) (hn : p.Nodup) : IsP p := by
 have hf : ∀ k, k < p.length → p[k]? = some (((p.getD k 0).toNat : Nat) : Int) := fun k hk => by
  have h1 : p[k]? = some p[k] := List.getElem?_eq_getElem hk
  have h2 := hr p[k] (List.getElem_mem hk)
  rw [h1, List.getD_eq_getElem?_getD, h1, Option.getD_some, show ((p[k].toNat : Nat) : Int) = p[k] by omega]
 have hlt : ∀ k, k < p.length → (p.getD k 0).toNat < p.length := fun k hk => by
  have h1 := hf k hk
  have h2 := hr _ (List.mem_of_getElem? h1)
  omega
 have hinj : ∀ j k, j < p.length → k < p.length → (p.getD j 0).toNat = (p.getD k 0).toNat → j = k := fun j k hj hk e => by
  have h1 := hf j hj; have h2 := hf k hk
  rw [e, ← h2] at h1
  exact (List.getElem?_inj hj hn).1 h1
 have hs := pigeon p.length _ hlt hinj
 have hg : ∀ y, ∃ k, (y < p.length → k < p.length ∧ (p.getD k 0).toNat = y) ∧ (¬ y < p.length → k = y) := fun y => by
  by_cases h : y < p.length
  ·
   obtain ⟨k, h1, h2⟩ := hs y h
   exact ⟨k, fun _ => ⟨h1, h2⟩, fun h' => absurd h h'⟩
  · exact ⟨y, fun h' => absurd h' h, fun _ => rfl⟩
 obtain ⟨g, hg⟩ := Classical.skolem.1 hg
 refine ⟨fun k => if k < p.length then (p.getD k 0).toNat else k, g, ⟨fun k hk => if_neg (by omega), fun k => ?_, fun y => ?_⟩, ?_⟩
 ·
  by_cases h : k < p.length
  ·
   simp only [h, if_true]
   have h2 := (hg (p.getD k 0).toNat).1 (hlt k h)
   exact hinj _ _ h2.1 h h2.2
  ·
   simp only [h, if_false]
   exact (hg k).2 h
 ·
  by_cases h : y < p.length
  ·
   have h2 := (hg y).1 h
   simp only [h2.1, if_true, h2.2]
  ·
   have h2 := (hg y).2 h
   simp only [h2, h, if_false]
 ·
  apply List.ext_getElem?
  intro k
  by_cases h : k < p.length
  · rw [hf k h, li_at h, if_pos h]
  · rw [List.getElem?_eq_none (by omega), li_none (by omega)]
theorem IsP.nodup {p : List Int} (h : IsP p) : p.Nodup := by
 obtain ⟨f, g, hp, e⟩ := h
 rw [e]
 unfold li
 rw [List.Nodup, List.pairwise_map]
 refine List.Pairwise.imp ?_ List.nodup_range
 intro a b hab e
 exact hab (hp.inj (by omega))
theorem IsP.rng {p : List Int} (h : IsP p) : ∀ x ∈ p, 0 ≤ x ∧ x < p.length := by
 obtain ⟨f, g, hp, e⟩ := h
 intro x hx
 rw [e] at hx
 simp only [li, List.mem_map, List.mem_range] at hx
 obtain ⟨k, hk, rfl⟩ := hx
 have := hp.lt hk; omega
theorem isP_li (h : Pm N f g) : IsP (li N f) := ⟨f, g, by rw [li_len]; exact h, by rw [li_len]⟩
/-! The program's functions on permutations. -/
theorem permValid {p : List Int} (n : Nat) (hn : p.length < n) (hl : p.length ≤ 100000000) : ∃ r, F.perm_Valid n p = some r ∧ (r = true ↔ IsP p) := by
 unfold F.perm_Valid
 rw [pos_ok (by omega) (by omega), Option.bind_some]
 obtain ⟨r, hr1, hr2⟩ := loop_spec (body := F.perm_Valid_b0 n p) (fun s => ∃ k : Nat, s.1 = (k : Int) ∧ k ≤ p.length ∧ s.2.length = p.length ∧ (∀ x ∈ p.take k, 0 ≤ x ∧ x < p.length) ∧ (p.take k).Nodup ∧ ∀ x : Nat, x < p.length → (s.2[x]? = some true ↔ (x : Int) ∈ p.take k))
  (fun s => p.length - s.1.toNat) (fun r => match r with | .inl _ => IsP p | .inr b => b = false ∧ ¬ IsP p) (fun s ⟨k, h1, h2, h3, h4, h5, h6⟩ => by
   obtain ⟨i, seen⟩ := s
   dsimp only at h1 h3 h6
   subst h1
   unfold F.perm_Valid_b0
   dsimp only
   by_cases hlt : (k : Int) < (p.length : Int)
   ·
    rw [decide_eq_true hlt, cond_true, get_nat, List.getElem?_eq_getElem (by omega : k < p.length), Option.bind_some]
    have hmem : p[k]'(by omega) ∈ p := List.getElem_mem _
    by_cases c1 : p[k]'(by omega) < 0
    · rw [decide_eq_true c1, cond_true]; right; exact ⟨_, rfl, rfl, fun hp => by have := (hp.rng _ hmem).1; omega⟩
    rw [decide_eq_false c1, cond_false]
    by_cases c2 : (p.length : Int) ≤ p[k]'(by omega)
    · rw [decide_eq_true c2, cond_true]; right; exact ⟨_, rfl, rfl, fun hp => by have := (hp.rng _ hmem).2; omega⟩
    rw [decide_eq_false c2, cond_false]
    have hk3 : (p[k]'(by omega)).toNat < seen.length := by omega
    rw [get_ok (by omega) hk3, Option.bind_some]
    have h7 := h6 (p[k]'(by omega)).toNat (by omega)
    rw [List.getElem?_eq_getElem hk3, show (((p[k]'(by omega)).toNat : Nat) : Int) = p[k]'(by omega) by omega] at h7
    have ht : p.take (k + 1) = p.take k ++ [p[k]'(by omega)] := by rw [List.take_add_one, List.getElem?_eq_getElem (by omega : k < p.length)]; rfl
    by_cases c3 : seen[(p[k]'(by omega)).toNat] = true
    ·
     rw [c3, cond_true]; right
     refine ⟨_, rfl, rfl, fun hp => ?_⟩
     have h8 := h7.1 (by rw [c3])
     have h9 := hp.nodup
     have h10 : (p.take (k + 1)).Nodup := (List.take_sublist _ _).nodup h9
     rw [ht, List.nodup_append] at h10
     exact h10.2.2 _ h8 _ (by simp) rfl
    ·
     rw [Bool.not_eq_true] at c3
     rw [c3, cond_false, Option.bind_some, chk_ok (by omega) (by omega), Option.bind_some]
     left
     have h8 : p[k]'(by omega) ∉ p.take k := fun hm => by have := h7.2 hm; rw [c3] at this; cases this
     refine ⟨_, rfl, ⟨k + 1, by simp, by omega, by simpa using h3, ?_, ?_, ?_⟩, by dsimp only; omega⟩
     ·
      intro x hx
      rw [ht] at hx
      rcases List.mem_append.1 hx with h9 | h9
      · exact h4 x h9
      · simp only [List.mem_singleton] at h9; subst h9; omega
     ·
      rw [ht, List.nodup_append]
      exact ⟨h5, by simp, fun a ha b hb e => by simp only [List.mem_singleton] at hb; subst hb; subst e; exact h8 ha⟩
     ·
      intro x hx
      dsimp only
      rw [ht, List.mem_append, List.mem_singleton, List.getElem?_set]
      by_cases e : (p[k]'(by omega)).toNat = x
      ·
       rw [if_pos e, if_pos hk3]
       exact ⟨fun _ => .inr (by omega), fun _ => rfl⟩
      ·
       rw [if_neg e, h6 x hx]
       exact ⟨fun h => .inl h, fun h => h.resolve_right (by omega)⟩
   ·
    rw [decide_eq_false hlt, cond_false]; right
    obtain rfl : k = p.length := by omega
    rw [List.take_length] at h4 h5
    exact ⟨_, rfl, isP_of h4 h5⟩) n (0, List.replicate (p.length : Int).toNat false) ⟨0, rfl, by omega, by simp, by simp, by simp, fun x hx => by simp [List.getElem?_replicate, hx]⟩ (by dsimp only; omega)
 rw [hr1, Option.bind_some]
 rcases r with s | b
 · exact ⟨true, rfl, ⟨fun _ => hr2, fun _ => rfl⟩⟩
 ·
  obtain ⟨rfl, h⟩ := hr2
  exact ⟨false, rfl, ⟨fun h' => absurd h' (by decide), fun h' => absurd h' h⟩⟩
theorem permValid_li (h : Pm N f g) (n : Nat) (hn : N < n) (hl : N ≤ 1000) : F.perm_Valid n (li N f) = some true := by
 obtain ⟨r, h1, h2⟩ := permValid (p := li N f) n (by rw [li_len]; exact hn) (by rw [li_len]; omega)
 rw [h1, h2.2 (isP_li h)]
theorem permInverse (h : Pm N f g) (n : Nat) (hn : N < n) (hl : N ≤ 1000) : F.perm_Inverse n (li N f) = some (li N g) := by
 unfold F.perm_Inverse
 rw [permValid_li h n hn hl, Option.bind_some, Bool.not_true, cond_false, pos_ok (by rw [li_len]; omega) (by rw [li_len]; omega), Option.bind_some, li_len, show ((N : Int)).toNat = N by omega]
 have := count_loop (body := F.perm_Inverse_b0 n (li N f)) (fun k => ((k : Int), li N (fun y => if g y < k then g y else 0))) N (r := ((N : Int), li N g)) (fun k hk => by
  unfold F.perm_Inverse_b0
  dsimp only
  have hfk := h.lt hk
  rw [li_len, decide_eq_true (by omega), cond_true, get_li (by omega) (by omega), Option.bind_some, show (k : Int).toNat = k by omega, get_li (by omega) (by omega), Option.bind_some, chk_ok (by omega) (by omega), Option.bind_some, show ((f k : Nat) : Int).toNat = f k by omega, li_set]
  congr 3
  apply li_ext
  intro y hy
  by_cases e : y = f k
  · subst e; rw [if_pos rfl, h.gf, if_pos (by omega)]
  ·
   rw [if_neg e]
   have : g y ≠ k := fun e2 => e (by rw [← e2, h.fg])
   by_cases e3 : g y < k
   · rw [if_pos e3, if_pos (by omega)]
   · rw [if_neg e3, if_neg (by omega)]) (by
  unfold F.perm_Inverse_b0
  dsimp only
  rw [li_len, decide_eq_false (by omega), cond_false]
  congr 3
  apply li_ext
  intro y hy
  rw [if_pos (h.symm.lt hy)]) n hn
 have e0 : List.replicate N (0 : Int) = li N (fun y => if g y < 0 then g y else 0) := by
  rw [li_rep]; exact li_ext fun y _ => (if_neg (by omega)).symm
 rw [e0]
 rw [show ((0 : Int), li N (fun y => if g y < 0 then g y else 0)) = ((((0 : Nat)) : Int), li N (fun y => if g y < 0 then g y else 0)) from rfl, this, Option.bind_some]
theorem clone_li (n : Nat) (hl : N ≤ 1000) : F.slices_Clone_Perm_int n (li N f) = some (li N f) := by
 unfold F.slices_Clone_Perm_int
 rw [lim_ok (by simp; omega)]; simp
end
theorem equalP {a b : List Int} (n : Nat) (hn : a.length < n) (hl : a.length ≤ 1000) : ∃ r, F.slices_Equal_Perm_int n a b = some r ∧ (r = true ↔ a = b) := by
 unfold F.slices_Equal_Perm_int
 by_cases h : (a.length : Int) = (b.length : Int)
 ·
  rw [decide_eq_true h, Bool.not_true, cond_false]
  have hab : a.length = b.length := by omega
  obtain ⟨r, hr1, hr2⟩ := loop_spec (body := F.slices_Equal_Perm_int_b0 n a b) (fun s => ∃ k : Nat, s = (k : Int) ∧ k ≤ a.length ∧ a.take k = b.take k) (fun s => a.length - s.toNat)
   (fun r => match r with | .inl _ => a = b | .inr q => q = false ∧ a ≠ b) (fun s ⟨k, h1, h2, h3⟩ => by
    subst h1
    unfold F.slices_Equal_Perm_int_b0
    dsimp only
    by_cases hlt : (k : Int) < (a.length : Int)
    ·
     have k1 : k < a.length := by omega
     have k2 : k < b.length := by omega
     rw [decide_eq_true hlt, cond_true, get_nat, List.getElem?_eq_getElem k1, Option.bind_some, get_nat, List.getElem?_eq_getElem k2, Option.bind_some]
     by_cases e : a[k] = b[k]
     ·
      rw [decide_eq_true e, Bool.not_true, cond_false, chk_ok (by omega) (by omega), Option.bind_some]
      left
      refine ⟨_, rfl, ⟨k + 1, by simp, by omega, ?_⟩, by omega⟩
      rw [List.take_add_one, List.take_add_one, h3, List.getElem?_eq_getElem k1, List.getElem?_eq_getElem k2, e]
     ·
      rw [decide_eq_false e, Bool.not_false, cond_true]
      right
      refine ⟨_, rfl, rfl, fun hab => ?_⟩
      have h4 : a[k]? = b[k]? := by rw [hab]
      rw [List.getElem?_eq_getElem k1, List.getElem?_eq_getElem k2] at h4
      injection h4 with h4
      exact e h4
    ·
     rw [decide_eq_false hlt, cond_false]
     right
     obtain rfl : k = a.length := by omega
     rw [List.take_length, hab, List.take_length] at h3
     exact ⟨_, rfl, h3⟩) n 0 ⟨0, rfl, by omega, by simp⟩ (by simpa using hn)
  rw [hr1, Option.bind_some]
  rcases r with s | q
  · exact ⟨true, rfl, ⟨fun _ => hr2, fun _ => rfl⟩⟩
  ·
   obtain ⟨rfl, h5⟩ := hr2
   exact ⟨false, rfl, ⟨fun h' => absurd h' (by decide), fun h' => absurd h' h5⟩⟩
 ·
  rw [decide_eq_false h, Bool.not_false, cond_true]
  exact ⟨false, rfl, ⟨fun h' => absurd h' (by decide), fun h' => absurd (by rw [h']) h⟩⟩
section
variable {N : Nat}
theorem inv_le (l : List Nat) : inv l ≤ l.length * l.length := by
 induction l with
 | nil => simp [inv]
 | cons a l ih =>
  have h := List.countP_le_length (p := fun x => decide (x < a)) (l := l)
  simp only [inv, List.length_cons]
  rw [Nat.add_mul, Nat.mul_add]; omega
theorem inv_lst_le (f : Nat → Nat) : inv (lst N f) ≤ N * N := by
 have := inv_le (lst N f)
 simpa [lst] using this
end
theorem refIn (l : List Int) (x : Int) (n : Nat) (hl : l.length ≤ 1000) (hn : l.length < n) : F.ref01_In n l x = some (decide (x ∈ l)) := by
 unfold F.ref01_In
 obtain ⟨r, r1, r2⟩ := loop_spec (body := F.ref01_In_b0 n l x) (fun s => ∃ k : Nat, s = (k : Int) ∧ k ≤ l.length ∧ x ∉ l.take k) (fun s => l.length - s.toNat)
  (fun r => match r with | .inl _ => x ∉ l | .inr b => b = true ∧ x ∈ l) (fun s ⟨k, h1, h2, h3⟩ => by
   subst h1
   unfold F.ref01_In_b0
   dsimp only
   by_cases hk : k < l.length
   ·
    have ka := List.getElem?_eq_getElem hk
    rw [decide_eq_true (by omega), cond_true, get_at rfl ka, Option.bind_some]
    by_cases e : l[k] = x
    ·
     rw [decide_eq_true e, cond_true]
     exact .inr ⟨_, rfl, rfl, e ▸ List.getElem_mem hk⟩
    ·
     rw [decide_eq_false e, cond_false, chk_ok (by omega) (by omega), Option.bind_some]
     refine .inl ⟨_, rfl, ⟨k + 1, rfl, by omega, fun h => ?_⟩, by omega⟩
     rw [List.take_add_one, ka] at h
     rcases List.mem_append.1 h with h | h
     · exact h3 h
     · rw [Option.toList_some, List.mem_singleton] at h; exact e h.symm
   ·
    rw [decide_eq_false (by omega), cond_false]
    refine .inr ⟨_, rfl, ?_⟩
    rwa [List.take_of_length_le (by omega)] at h3) n 0 ⟨0, rfl, by omega, by simp⟩ (by simpa using hn)
 rw [r1, Option.bind_some]
 rcases r with _ | b
 · rw [decide_eq_false r2]
 · rw [decide_eq_true r2.2, r2.1]
/-- A list that holds as many things as another, without repetition, holds no others. -/
theorem sub_nodup {α : Type} [DecidableEq α] : ∀ {l1 l2 : List α}, l1.Nodup → (∀ x ∈ l1, x ∈ l2) → l2.length ≤ l1.length → l2.Nodup ∧ ∀ x ∈ l2, x ∈ l1
 | [], l2, _, _, h3 => by
  obtain rfl := List.eq_nil_of_length_eq_zero (by simpa using h3)
  exact ⟨List.nodup_nil, fun x hx => hx⟩
 | a :: t, l2, h1, h2, h3 => by
  have ha : a ∈ l2 := h2 a (by simp)
  obtain ⟨h4, h5⟩ := List.nodup_cons.1 h1
  have hp := List.perm_cons_erase ha
  have hlen := hp.length_eq
  rw [List.length_cons] at hlen h3
  obtain ⟨h6, h7⟩ := sub_nodup (l1 := t) (l2 := l2.erase a) h5 (fun x hx => by
   have h8 : x ∈ a :: l2.erase a := hp.mem_iff.1 (h2 x (by simp [hx]))
   rcases List.mem_cons.1 h8 with h9 | h9
   · subst h9; exact absurd hx h4
   · exact h9) (by omega)
  refine ⟨hp.nodup_iff.2 (List.nodup_cons.2 ⟨fun h => h4 (h7 a h), h6⟩), fun x hx => ?_⟩
  rcases List.mem_cons.1 (hp.mem_iff.1 hx) with h9 | h9
  · subst h9; simp
  · exact List.mem_cons_of_mem _ (h7 x h9)
theorem isP_all {p : List Int} : (∀ k : Nat, k < p.length → (k : Int) ∈ p) ↔ IsP p := by
 refine ⟨fun h => ?_, fun h => ?_⟩
 ·
  have hr : ((List.range p.length).map fun k : Nat => (k : Int)).Nodup := by
   unfold List.Nodup
   rw [List.pairwise_map]
   exact List.Pairwise.imp (fun h e => h (by omega)) List.nodup_range
  obtain ⟨h1, h2⟩ := sub_nodup (l1 := (List.range p.length).map fun k : Nat => (k : Int)) (l2 := p) hr (fun x hx => by
   obtain ⟨k, h3, rfl⟩ := List.mem_map.1 hx
   exact h k (List.mem_range.1 h3)) (by simp)
  exact isP_of (fun x hx => by
   obtain ⟨k, h3, rfl⟩ := List.mem_map.1 (h2 x hx)
   have := List.mem_range.1 h3
   omega) h1
 ·
  obtain ⟨f, g, hp, he⟩ := h
  intro k hk
  have h1 : g k < p.length := hp.symm.lt hk
  rw [he]
  unfold li
  exact List.mem_map.2 ⟨g k, List.mem_range.2 h1, by rw [hp.fg]⟩
theorem refPerm {p : List Int} (n : Nat) (hl : p.length ≤ 1000) (hn : p.length < n) : ∃ r, F.ref30_Valid n p = some r ∧ (r = true ↔ IsP p) := by
 unfold F.ref30_Valid F.ref01_IsPerm
 rw [decide_eq_true rfl, Bool.not_true, cond_false]
 obtain ⟨r, r1, r2⟩ := loop_spec (body := F.ref01_IsPerm_b0 n p (p.length : Int)) (fun s => ∃ k : Nat, s = (k : Int) ∧ k ≤ p.length ∧ ∀ j : Nat, j < k → (j : Int) ∈ p) (fun s => p.length - s.toNat)
  (fun r => match r with | .inl _ => IsP p | .inr b => b = false ∧ ¬ IsP p) (fun s ⟨k, h1, h2, h3⟩ => by
   subst h1
   unfold F.ref01_IsPerm_b0
   dsimp only
   by_cases hk : k < p.length
   ·
    rw [decide_eq_true (by omega), cond_true, refIn p _ n hl hn, Option.bind_some]
    by_cases e : (k : Int) ∈ p
    ·
     rw [decide_eq_true e, Bool.not_true, cond_false, chk_ok (by omega) (by omega), Option.bind_some]
     refine .inl ⟨_, rfl, ⟨k + 1, rfl, by omega, fun j hj => ?_⟩, by omega⟩
     by_cases hjk : j = k
     · subst hjk; exact e
     · exact h3 j (by omega)
    ·
     rw [decide_eq_false e, Bool.not_false, cond_true]
     exact .inr ⟨_, rfl, rfl, fun h => e (isP_all.2 h k hk)⟩
   ·
    rw [decide_eq_false (by omega), cond_false]
    exact .inr ⟨_, rfl, isP_all.1 fun j hj => h3 j (by omega)⟩) n 0 ⟨0, rfl, by omega, fun j hj => by omega⟩ (by simpa using hn)
 rw [r1, Option.bind_some]
 rcases r with _ | b
 · exact ⟨true, rfl, fun _ => r2, fun _ => rfl⟩
 ·
  obtain ⟨rfl, h⟩ := r2
  exact ⟨false, rfl, fun h' => absurd h' (by decide), fun h' => absurd h' h⟩
section
variable {N : Nat}
theorem refInverse {f g : Nat → Nat} (h : Pm N f g) (n : Nat) (hn : N < n) (hl : N ≤ 1000) : F.ref30_Inverse n (li N f) = some (li N g) := by
 have := permInverse h n hn hl
 unfold F.perm_Inverse at this
 rw [permValid_li h n hn hl, Option.bind_some, Bool.not_true, cond_false] at this
 unfold F.ref30_Inverse
 exact this
end
section
variable {N : Nat}
/-! The program's functions. -/
theorem mul_eq {f g f' g' : Nat → Nat} (h : Pm N f g) (h' : Pm N f' g') (n : Nat) (hl : N ≤ 100) (hn : N < n) : F.perm_Mul n (li N f) (li N f') = some (li N (fun k => f' (f k)), 0) := by
 unfold F.perm_Mul
 rw [permValid_li h n hn (by omega), Option.bind_some, Bool.not_true, cond_false, permValid_li h' n hn (by omega), Option.bind_some, Bool.not_true, cond_false, li_len, li_len, decide_eq_true rfl, Bool.not_true, cond_false, pos_ok (by omega) (by omega), Option.bind_some, show ((N : Int)).toNat = N by omega]
 have := count_loop (body := F.perm_Mul_b0 n (li N f) (li N f')) (fun k => ((k : Int), li N (fill (fun k => f' (f k)) k))) N (r := ((N : Int), li N fun k => f' (f k))) (fun k hk => by
  unfold F.perm_Mul_b0
  dsimp only
  have := h.lt hk
  rw [li_len, decide_eq_true (by omega), cond_true, get_li (by omega) (by omega), Option.bind_some, show (k : Int).toNat = k by omega, get_li (by omega) (by omega), Option.bind_some, get_li (by omega) (by omega), Option.bind_some, chk_ok (by omega) (by omega), Option.bind_some, show ((f k : Nat) : Int).toNat = f k by omega, li_fill (f := fun k => f' (f k))]; rfl) (by
  unfold F.perm_Mul_b0
  dsimp only
  rw [li_len, decide_eq_false (by omega), cond_false, li_full]) n hn
 rw [li_empty (f := fun k => f' (f k)), show ((0 : Int), li N (fill (fun k => f' (f k)) 0)) = ((((0 : Nat)) : Int), li N (fill (fun k => f' (f k)) 0)) from rfl, this, Option.bind_some]
end
theorem refInts {a b : List Int} (n : Nat) (hn : a.length < n) (hl : a.length ≤ 100000000) : F.ref01_Ints n a b = some (decide (a = b)) := by
 unfold F.ref01_Ints
 by_cases h : a.length = b.length
 ·
  rw [decide_eq_true (by omega), Bool.not_true, cond_false]
  refine eqList n h hn (fun k x y hx hy => ?_) ?_
  ·
   have hk := (List.getElem?_eq_some_iff.1 hx).1
   unfold F.ref01_Ints_b0
   dsimp only
   rw [decide_eq_true (by omega), cond_true, get_at rfl hx, Option.bind_some, get_at rfl hy, Option.bind_some]
   by_cases e : x = y
   · left; rw [decide_eq_true e, Bool.not_true, cond_false, chk_ok (by omega) (by omega)]; exact ⟨e, rfl⟩
   · right; rw [decide_eq_false e]; exact ⟨e, rfl⟩
  ·
   unfold F.ref01_Ints_b0
   dsimp only
   rw [decide_eq_false (by omega)]; rfl
 ·
  rw [decide_eq_false (by omega)]
  rw [decide_eq_false (fun e => h (by rw [e]))]; rfl
theorem refLists {a b : List (List Int)} (n : Nat) (hn : a.length < n) (hr : ∀ x ∈ a, x.length ≤ 100000000) (hn2 : 100000000 < n) (hl : a.length ≤ 100000000) : F.ref01_Lists n a b = some (decide (a = b)) := by
 unfold F.ref01_Lists
 by_cases h : a.length = b.length
 ·
  rw [decide_eq_true (by omega), Bool.not_true, cond_false]
  refine eqList n h hn (fun k x y hx hy => ?_) ?_
  ·
   have hk := (List.getElem?_eq_some_iff.1 hx).1
   have hxl := hr x (List.mem_of_getElem? hx)
   unfold F.ref01_Lists_b0
   dsimp only
   rw [decide_eq_true (by omega), cond_true, get_at rfl hx, Option.bind_some, get_at rfl hy, Option.bind_some, refInts n (by omega) hxl, Option.bind_some]
   by_cases e : x = y
   · left; rw [decide_eq_true e, Bool.not_true, cond_false, chk_ok (by omega) (by omega)]; exact ⟨e, rfl⟩
   · right; rw [decide_eq_false e]; exact ⟨e, rfl⟩
  ·
   unfold F.ref01_Lists_b0
   dsimp only
   rw [decide_eq_false (by omega)]; rfl
 ·
  rw [decide_eq_false (by omega)]
  rw [decide_eq_false (fun e => h (by rw [e]))]; rfl
section
variable {N : Nat}
end
end Gar
end Go.Proofs.Ytmlkiafidahnbaa
