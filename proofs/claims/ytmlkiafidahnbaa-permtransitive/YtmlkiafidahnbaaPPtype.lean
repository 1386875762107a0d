/- The type of a permutation. -/
import Derived.Test.YtmlkiafidahnbaaPPcyc
set_option linter.unusedVariables false
set_option linter.unusedSimpArgs false
namespace Go.Proofs.Ytmlkiafidahnbaa
open Ev
namespace Gar
def lens (cs : List (List Int)) : List Int := cs.map fun c => (c.length : Int)
/-- The numbers from v down, each as often as it is in l. -/
def dsc (l : List Int) : Nat → List Int
  | 0 => []
  | v + 1 => List.replicate (l.count ((v + 1 : Nat) : Int)) ((v + 1 : Nat) : Int) ++ dsc l v
theorem dsc_mem {l : List Int} {x : Int} : ∀ {v : Nat}, x ∈ dsc l v → x ≤ v ∧ 1 ≤ x
  | 0, h => absurd h (by simp [dsc])
  | v + 1, h => by
    unfold dsc at h
    rcases List.mem_append.1 h with h1 | h1
    · have := (List.mem_replicate.1 h1).2; omega
    · have := dsc_mem h1; omega
theorem dsc_count {l : List Int} (a : Int) : ∀ (v : Nat), (dsc l v).count a = if 1 ≤ a ∧ a ≤ v then l.count a else 0
  | 0 => by rw [if_neg (by omega)]; rfl
  | v + 1 => by
    unfold dsc
    rw [List.count_append, dsc_count a v, List.count_replicate]
    by_cases e : ((v + 1 : Nat) : Int) = a
    · rw [if_pos (by simpa using e), if_neg (by omega), if_pos (by omega), e]; rfl
    · rw [if_neg (by simpa using e)]
      by_cases h : 1 ≤ a ∧ a ≤ v
      · rw [if_pos h, if_pos (by omega)]; omega
      · rw [if_neg h, if_neg (by omega)]
theorem dsc_sorted {l : List Int} : ∀ (v : Nat), (dsc l v).Pairwise (fun x y => y ≤ x)
  | 0 => by simp [dsc]
  | v + 1 => by
    unfold dsc
    rw [List.pairwise_append]
    refine ⟨?_, dsc_sorted v, fun a ha b hb => ?_⟩
    · rw [List.pairwise_replicate]; right; exact Int.le_refl _
    · have h1 := (List.mem_replicate.1 ha).2
      have h2 := dsc_mem hb
      omega
theorem dsc_perm {l : List Int} {N : Nat} (h : ∀ x ∈ l, 1 ≤ x ∧ x ≤ N) : (dsc l N).Perm l := by
  rw [List.perm_iff_count]
  intro a
  rw [dsc_count]
  by_cases hm : a ∈ l
  · rw [if_pos (h a hm)]
  · rw [List.count_eq_zero.2 hm]; split <;> rfl
theorem dsc_of_perm {l l' : List Int} (h : l.Perm l') (v : Nat) : dsc l v = dsc l' v := by
  induction v with
  | zero => rfl
  | succ v ih => unfold dsc; rw [ih, h.count_eq]
section
variable {N : Nat} {f g : Nat → Nat}
theorem cyc_len (h : Pm N f g) : ∀ k, k ≤ N → ∀ c ∈ cyc N f k, 1 ≤ c.length ∧ c.length ≤ N
  | 0, _, c, hc => absurd hc (by simp [cyc])
  | k + 1, hk, c, hc => by
    unfold cyc at hc
    split at hc
    · exact cyc_len h k (by omega) c hc
    · rcases List.mem_append.1 hc with hc | hc
      · exact cyc_len h k (by omega) c hc
      · rw [List.mem_singleton] at hc
        subst hc
        have := ordN_spec h (show k < N by omega)
        rw [orb_len]; omega
theorem refType_b1 (cs : List (List Int)) (v : Int) (acc : List Int) (n : Nat) (hc : cs.length ≤ 1000) (ha : acc.length ≤ 1000000000) (hn : 1000 < n) : loopN n (F.ref30_Type_b1 n cs v) (acc, 0) = some (acc ++ List.replicate ((lens cs).count v) v, (cs.length : Int)) := by
  have := count_loop (body := F.ref30_Type_b1 n cs v) (fun k => (acc ++ List.replicate ((lens (cs.take k)).count v) v, (k : Int))) cs.length (r := (acc ++ List.replicate ((lens cs).count v) v, (cs.length : Int))) (fun k hk => by
    have ka : cs[k]? = some (cs[k]'hk) := List.getElem?_eq_getElem _
    unfold F.ref30_Type_b1
    dsimp only
    rw [decide_eq_true (by omega), cond_true, get_at rfl ka, Option.bind_some]
    have ht : lens (cs.take (k + 1)) = lens (cs.take k) ++ [((cs[k]'hk).length : Int)] := by
      unfold lens; rw [List.take_add_one, ka, List.map_append]; rfl
    have hcl : (lens (cs.take k)).count v ≤ 1000 := by
      refine Nat.le_trans List.count_le_length ?_
      unfold lens; rw [List.length_map, List.length_take]; omega
    by_cases e : ((cs[k]'hk).length : Int) = v
    · rw [decide_eq_true e, cond_true, lim_ok (by rw [List.length_append, List.length_replicate]; simp; omega), Option.bind_some, chk_ok (by omega) (by omega), Option.bind_some, ht, List.count_append, List.append_assoc]
      congr 3
      rw [show List.count v [((cs[k]'hk).length : Int)] = 1 by rw [e]; simp, ← List.replicate_append_replicate]
      rfl
    · rw [decide_eq_false e, cond_false, chk_ok (by omega) (by omega), Option.bind_some, ht, List.count_append]
      congr 3
      rw [show List.count v [((cs[k]'hk).length : Int)] = 0 by rw [List.count_eq_zero]; simp; exact fun e2 => e e2.symm]
      rfl) (by
    unfold F.ref30_Type_b1
    dsimp only
    rw [decide_eq_false (by omega), cond_false, List.take_length]) n (by omega)
  simpa [lens] using this
/-- The first k parts of what counts down from N. -/
def pre (l : List Int) (N : Nat) : Nat → List Int
  | 0 => []
  | k + 1 => pre l N k ++ List.replicate (l.count ((N - k : Nat) : Int)) ((N - k : Nat) : Int)
theorem pre_dsc (l : List Int) (N : Nat) : ∀ k, k ≤ N → pre l N k ++ dsc l (N - k) = dsc l N
  | 0, _ => by simp [pre]
  | k + 1, hk => by
    rw [← pre_dsc l N k (by omega)]
    show (pre l N k ++ List.replicate (l.count ((N - k : Nat) : Int)) ((N - k : Nat) : Int)) ++ dsc l (N - (k + 1)) = pre l N k ++ dsc l (N - k)
    rw [List.append_assoc]
    congr 1
    obtain ⟨v, hv⟩ : ∃ v, N - k = v + 1 := ⟨N - k - 1, by omega⟩
    rw [show N - (k + 1) = v by omega, hv]
    rfl
theorem pre_len (l : List Int) (N : Nat) (k : Nat) : (pre l N k).length ≤ k * l.length := by
  induction k with
  | zero => simp [pre]
  | succ k ih =>
    unfold pre
    rw [List.length_append, List.length_replicate, Nat.succ_mul]
    exact Nat.add_le_add ih List.count_le_length
theorem refType_eq (h : Pm N f g) (hN : N ≤ 1000) (n : Nat) (hn : 1000 < n) : F.ref30_Type n (li N f) = some (dsc (lens (cyc N f N)) N) := by
  unfold F.ref30_Type
  have hcl := (cyc_dec h N (Nat.le_refl N)).2.2
  rw [refCycles_eq h hN n (by omega), Option.bind_some]
  generalize cyc N f N = cs at hcl
  have := count_loop (body := F.ref30_Type_b0 n cs) (fun k => (pre (lens cs) N k, ((N - k : Nat) : Int))) N (r := (dsc (lens cs) N, (0 : Int))) (fun k hk => by
    unfold F.ref30_Type_b0
    dsimp only
    have hpl := pre_len (lens cs) N k
    have hll : (lens cs).length = cs.length := by simp [lens]
    have : k * (lens cs).length ≤ 1000 * 1000 := Nat.mul_le_mul (by omega) (by omega)
    rw [decide_eq_true (by omega), cond_true, refType_b1 cs _ _ n (by omega) (by omega) (by omega), Option.bind_some]
    dsimp only
    rw [chk_ok (by omega) (by omega), Option.bind_some]
    rw [show ((N - k : Nat) : Int) - 1 = ((N - (k + 1) : Nat) : Int) by omega]
    rfl) (by
    unfold F.ref30_Type_b0
    dsimp only
    rw [decide_eq_false (by omega), cond_false]
    have := pre_dsc (lens cs) N N (Nat.le_refl N)
    rw [Nat.sub_self] at this ⊢
    simp only [dsc, List.append_nil] at this
    rw [this]; rfl) n (by omega)
  rw [li_len]
  have e : (([] : List Int), (N : Int)) = (pre (lens cs) N 0, ((N - 0 : Nat) : Int)) := rfl
  rw [e, this, Option.bind_some]
theorem cmp_eq (n : Nat) {x y : List Int} (hx : x.length ≤ 1000) (hy : y.length ≤ 1000) : F.perm_Type_c1 n x y = some ((y.length : Int) - (x.length : Int)) := by
  unfold F.perm_Type_c1
  rw [chk_ok (by omega) (by omega)]; rfl
theorem swoL_of {α : Type} {cf : α → α → Int} {xs : List α} (m : α → Int) (h : ∀ x ∈ xs, ∀ y ∈ xs, cf x y = m y - m x) : swoL cf xs = true := by
  unfold swoL
  rw [List.all_eq_true]; intro x hx
  rw [Bool.and_eq_true]
  refine ⟨by rw [h x hx x hx]; simp, ?_⟩
  rw [List.all_eq_true]; intro y hy
  rw [List.all_eq_true]; intro z hz
  rw [h x hx y hy, h y hy z hz, h x hx z hz]
  by_cases a : m y - m x < 0 <;> by_cases b : m z - m y < 0 <;> by_cases c : m z - m x < 0 <;> simp [a, b, c] <;> omega
theorem sort_eq (n : Nat) {cs : List (List Int)} (hc : cs.length ≤ 1000) (hl : ∀ c ∈ cs, c.length ≤ 1000) : ∃ cs', F.slices_SortFunc_LLint_Lint_perm_Type_c1 n cs = some cs' ∧ cs'.Perm cs ∧ cs'.Pairwise (fun x y => y.length ≤ x.length) := by
  unfold F.slices_SortFunc_LLint_Lint_perm_Type_c1
  have h1 : (cs.all fun x => cs.all fun y => (F.perm_Type_c1 n x y).isSome) = true := by
    rw [List.all_eq_true]; intro x hx
    rw [List.all_eq_true]; intro y hy
    rw [cmp_eq n (hl x hx) (hl y hy)]; rfl
  have cf : ∀ x ∈ cs, ∀ y ∈ cs, (F.perm_Type_c1 n x y).getD 0 = (y.length : Int) - (x.length : Int) := fun x hx y hy => by rw [cmp_eq n (hl x hx) (hl y hy)]; rfl
  have h2 : swoL (fun x y : List Int => (F.perm_Type_c1 n x y).getD 0) cs = true := by
    exact swoL_of (fun c => (c.length : Int)) cf
  rw [if_pos ⟨h1, h2, by omega⟩]
  obtain ⟨h3, h4⟩ := sortL_perm h2
  refine ⟨_, rfl, h3, List.Pairwise.imp_of_mem ?_ h4⟩
  intro x y hx hy hxy
  rw [cf y (h3.mem_iff.1 hy) x (h3.mem_iff.1 hx)] at hxy
  omega
theorem type_b0 (cs cs' : List (List Int)) (n : Nat) (hl : cs'.length = cs.length) (hc : cs.length ≤ 1000) (hn : 1000 < n) : loopN n (F.perm_Type_b0 n cs cs') (([] : List Int), 0) = some (lens cs', (cs.length : Int)) := by
  have := count_loop (body := F.perm_Type_b0 n cs cs') (fun k => (lens (cs'.take k), (k : Int))) cs.length (r := (lens cs', (cs.length : Int))) (fun k hk => by
    have ka : cs'[k]? = some (cs'[k]'(by omega)) := List.getElem?_eq_getElem _
    unfold F.perm_Type_b0
    dsimp only
    rw [decide_eq_true (by omega), cond_true, get_at rfl ka, Option.bind_some, lim_ok (by simp [lens]; omega), Option.bind_some, chk_ok (by omega) (by omega), Option.bind_some]
    have ht : lens (cs'.take (k + 1)) = lens (cs'.take k) ++ [((cs'[k]'(by omega)).length : Int)] := by
      unfold lens; rw [List.take_add_one, ka, List.map_append]; rfl
    rw [ht]; rfl) (by
    unfold F.perm_Type_b0
    dsimp only
    rw [decide_eq_false (by omega), cond_false, ← hl, List.take_length]) n (by omega)
  exact this
theorem type_eq (h : Pm N f g) (hN : N ≤ 1000) (n : Nat) (hn : 1000 < n) : F.perm_Type n (li N f) = some (dsc (lens (cyc N f N)) N) := by
  unfold F.perm_Type
  have hcl := (cyc_dec h N (Nat.le_refl N)).2.2
  have hle := cyc_len h N (Nat.le_refl N)
  rw [cycles_eq h hN n (by omega), Option.bind_some]
  obtain ⟨cs', h1, h2, h3⟩ := sort_eq n (cs := cyc N f N) (by omega) (fun c hc => by have := hle c hc; omega)
  rw [h1, Option.bind_some, type_b0 _ _ n h2.length_eq (by omega) hn, Option.bind_some]
  show some (lens cs') = _
  congr 1
  refine List.Perm.eq_of_pairwise (le := fun x y : Int => y ≤ x) (fun a b _ _ h1 h2 => Int.le_antisymm h2 h1) ?_ (dsc_sorted N) ?_
  · unfold lens
    rw [List.pairwise_map]
    exact h3.imp fun h => by omega
  · refine (h2.map _).trans (dsc_perm fun x hx => ?_).symm
    obtain ⟨c, hc, rfl⟩ := List.mem_map.1 hx
    have := hle c hc
    omega
end
end Gar
end Go.Proofs.Ytmlkiafidahnbaa
