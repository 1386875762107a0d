/- Letters move from a factor to the one before it; factors settle. -/
import Derived.Test.YtkeaonceaaafcaaPGli
set_option linter.unusedVariables false
set_option linter.unusedSimpArgs false
namespace Go.Proofs.Ytkeaonceaaafcaa
open Ev
namespace Gar
theorem equalP {a b : List Int} (n : Nat) (hn : a.length < n) (hl : a.length ≤ 1000) : ∃ r, F.slices_Equal_Perm_int n a b = some r ∧ (r = true ↔ a = b) := by
  unfold F.slices_Equal_Perm_int
  by_cases h : (a.length : Int) = (b.length : Int)
  · rw [decide_eq_true h, Bool.not_true, cond_false]
    have hab : a.length = b.length := by omega
    obtain ⟨r, hr1, hr2⟩ := loop_spec (body := F.slices_Equal_Perm_int_b0 n a b) (fun s => ∃ k : Nat, s = (k : Int) ∧ k ≤ a.length ∧ a.take k = b.take k) (fun s => a.length - s.toNat)
      (fun r => match r with | .inl _ => a = b | .inr q => q = false ∧ a ≠ b) (fun s ⟨k, h1, h2, h3⟩ => by
        subst h1
        unfold F.slices_Equal_Perm_int_b0
        dsimp only
        by_cases hlt : (k : Int) < (a.length : Int)
        · have k1 : k < a.length := by omega
          have k2 : k < b.length := by omega
          rw [decide_eq_true hlt, cond_true, get_nat, List.getElem?_eq_getElem k1, Option.bind_some, get_nat, List.getElem?_eq_getElem k2, Option.bind_some]
          by_cases e : a[k] = b[k]
          · rw [decide_eq_true e, Bool.not_true, cond_false, chk_ok (by omega) (by omega), Option.bind_some]
            left
            refine ⟨_, rfl, ⟨k + 1, by simp, by omega, ?_⟩, by omega⟩
            rw [List.take_add_one, List.take_add_one, h3, List.getElem?_eq_getElem k1, List.getElem?_eq_getElem k2, e]
          · rw [decide_eq_false e, Bool.not_false, cond_true]
            right
            refine ⟨_, rfl, rfl, fun hab => ?_⟩
            have h4 : a[k]? = b[k]? := by rw [hab]
            rw [List.getElem?_eq_getElem k1, List.getElem?_eq_getElem k2] at h4
            injection h4 with h4
            exact e h4
        · rw [decide_eq_false hlt, cond_false]
          right
          obtain rfl : k = a.length := by omega
          rw [List.take_length, hab, List.take_length] at h3
          exact ⟨_, rfl, h3⟩) n 0 ⟨0, rfl, by omega, by simp⟩ (by simpa using hn)
    rw [hr1, Option.bind_some]
    rcases r with s | q
    · exact ⟨true, rfl, ⟨fun _ => hr2, fun _ => rfl⟩⟩
    · obtain ⟨rfl, h5⟩ := hr2
      exact ⟨false, rfl, ⟨fun h' => absurd h' (by decide), fun h' => absurd h' h5⟩⟩
  · rw [decide_eq_false h, Bool.not_false, cond_true]
    exact ⟨false, rfl, ⟨fun h' => absurd h' (by decide), fun h' => absurd (by rw [h']) h⟩⟩
section
variable {N : Nat}
theorem sorted_eq {f g : Nat → Nat} (h : Pm N f g) (n : Nat) (hn : N < n) (hl : N ≤ 1000) (h1 : 1 ≤ N) : ∃ r, F.slices_IsSorted_Perm_int n (li N f) = some r ∧ (r = true ↔ f = fun k => k) := by
  unfold F.slices_IsSorted_Perm_int
  rw [li_len, chk_ok (by omega) (by omega), Option.bind_some]
  obtain ⟨r, hr1, hr2⟩ := loop_spec (body := F.slices_IsSorted_Perm_int_b0 n (li N f)) (fun s => ∃ k : Nat, s = (k : Int) ∧ k < N ∧ ∀ i, k < i → i < N → ¬ ds f i) (fun s => s.toNat)
    (fun r => match r with | .inl _ => f = (fun k => k) | .inr q => q = false ∧ f ≠ fun k => k) (fun s ⟨k, e1, e2, e3⟩ => by
      subst e1
      unfold F.slices_IsSorted_Perm_int_b0
      dsimp only
      by_cases hk : 0 < (k : Int)
      · rw [decide_eq_true hk, cond_true, get_li (by omega) (by omega), Option.bind_some, chk_ok (by omega) (by omega), Option.bind_some, get_li (by omega) (by omega), Option.bind_some, less_eq, Option.bind_some, show (k : Int).toNat = k by omega, show ((k : Int) - 1).toNat = k - 1 by omega]
        by_cases hd : f k < f (k - 1)
        · rw [decide_eq_true (by omega), cond_true]
          right
          refine ⟨_, rfl, rfl, fun e => ?_⟩
          rw [e] at hd; dsimp only at hd; omega
        · rw [decide_eq_false (by omega), cond_false, Option.bind_some]
          left
          refine ⟨_, rfl, ⟨k - 1, by omega, by omega, fun i i1 i2 => ?_⟩, by omega⟩
          by_cases e : i = k
          · subst e; exact hd
          · exact e3 i (by omega) i2
      · rw [decide_eq_false hk, cond_false]
        right
        exact ⟨_, rfl, h.noDs fun i i1 i2 => e3 i (by omega) i2⟩) n ((N : Int) - 1) ⟨N - 1, by omega, by omega, fun i i1 i2 => by omega⟩ (by omega)
  rw [hr1, Option.bind_some]
  rcases r with s | q
  · exact ⟨true, rfl, ⟨fun _ => hr2, fun _ => rfl⟩⟩
  · obtain ⟨rfl, h5⟩ := hr2
    exact ⟨false, rfl, ⟨fun h' => absurd h' (by decide), fun h' => absurd h' h5⟩⟩
/-- Letters move one after the other. -/
inductive Mvs (N : Nat) : (Nat → Nat) × (Nat → Nat) × (Nat → Nat) → (Nat → Nat) × (Nat → Nat) × (Nat → Nat) → Prop
  | refl (s) : Mvs N s s
  | step {s : (Nat → Nat) × (Nat → Nat) × (Nat → Nat)} {f1 g1 f2 : Nat → Nat} {i : Nat} : Mvs N s (f1, g1, f2) → 1 ≤ i → i < N → ds f2 i → g1 (i - 1) < g1 i → Mvs N s (fun k => tr i (f1 k), fun k => g1 (tr i k), fun k => f2 (tr i k))
theorem inv_le (l : List Nat) : inv l ≤ l.length * l.length := by
  induction l with
  | nil => simp [inv]
  | cons a l ih =>
    have h := List.countP_le_length (p := fun x => decide (x < a)) (l := l)
    simp only [inv, List.length_cons]
    rw [Nat.add_mul, Nat.mul_add]; omega
theorem inv_lst_le (f : Nat → Nat) : inv (lst N f) ≤ N * N := by
  have := inv_le (lst N f)
  simpa [lst] using this
/-- Letters of the first factor count. -/
theorem inv_up {f g : Nat → Nat} (h : Pm N f g) {i : Nat} (h1 : 1 ≤ i) (h2 : i < N) (ha : g (i - 1) < g i) : inv (lst N fun k => tr i (f k)) = inv (lst N f) + 1 := by
  obtain ⟨w, hw⟩ := h.word
  have := (hw.snoc h h1 h2 ha).len
  have e := hw.len
  simp at this; omega
theorem Mvs.pm {s t : (Nat → Nat) × (Nat → Nat) × (Nat → Nat)} (h : Mvs N s t) (h1 : Pm N s.1 s.2.1) (h2 : ∃ g2, Pm N s.2.2 g2) : Pm N t.1 t.2.1 ∧ (∃ g2, Pm N t.2.2 g2) ∧ inv (lst N t.1) + inv (lst N t.2.2) = inv (lst N s.1) + inv (lst N s.2.2) := by
  induction h with
  | refl => exact ⟨h1, h2, rfl⟩
  | @step f1 g1 f2 i k1 k2 k3 k4 k5 ih =>
    obtain ⟨q1, ⟨g2, q2⟩, q3⟩ := ih
    dsimp only at q1 q2 q3 ⊢
    refine ⟨(q1.symm.ex k2 k3).symm, ⟨_, q2.ex k2 k3⟩, ?_⟩
    have a1 := inv_up q1 k2 k3 k5
    have a2 := inv_tr k2 k3 k4
    omega
theorem moveLoop {f1 g1 f2 g2 : Nat → Nat} (h1 : Pm N f1 g1) (h2 : Pm N f2 g2) (n : Nat) (hl : N ≤ 100) (hn : N * N * (N + 1) + N < n) :
    ∃ c i f1' g1' f2', loopN n (F.garside_moveLetters_b0 n (li N f2)) (false, 1, li N f2, li N g1) = some (c, i, li N f2', li N g1') ∧ Mvs N (f1, g1, f2) (f1', g1', f2') ∧ (∀ j, 1 ≤ j → j < N → ds f2' j → ds g1' j) ∧ (c = false → f1' = f1 ∧ g1' = g1 ∧ f2' = f2) ∧ (c = true → inv (lst N f2') < inv (lst N f2)) := by
  obtain ⟨r, hr1, hr2⟩ := loop_spec (body := F.garside_moveLetters_b0 n (li N f2))
    (fun s => ∃ c k f1' g1' f2', s = (c, ((k : Nat) : Int), li N f2', li N g1') ∧ 1 ≤ k ∧ (k ≤ N ∨ k = 1) ∧ Mvs N (f1, g1, f2) (f1', g1', f2') ∧ (∀ j, 1 ≤ j → j < k → j < N → ds f2' j → ds g1' j) ∧ (c = false → f1' = f1 ∧ g1' = g1 ∧ f2' = f2) ∧ (c = true → inv (lst N f2') < inv (lst N f2)))
    (fun s => inv (s.2.2.1.map Int.toNat) * (N + 1) + (N - s.2.1.toNat))
    (fun r => ∃ c i f1' g1' f2', r = (c, i, li N f2', li N g1') ∧ Mvs N (f1, g1, f2) (f1', g1', f2') ∧ (∀ j, 1 ≤ j → j < N → ds f2' j → ds g1' j) ∧ (c = false → f1' = f1 ∧ g1' = g1 ∧ f2' = f2) ∧ (c = true → inv (lst N f2') < inv (lst N f2)))
    (fun s ⟨c, k, f1', g1', f2', e, k1, k2, hm, hw, hc, hc2⟩ => by
      subst e
      have hmap : ∀ f : Nat → Nat, (li N f).map Int.toNat = lst N f := fun f => by
        unfold li lst; rw [List.map_map]; apply List.map_congr_left; intro x _; simp
      obtain ⟨p1, ⟨g2', p2⟩, p3⟩ := hm.pm h1 ⟨g2, h2⟩
      dsimp only at p1 p2 p3
      unfold F.garside_moveLetters_b0
      dsimp only
      by_cases hk : k < N
      · rw [li_len, decide_eq_true (by omega), cond_true, chk_ok (by omega) (by omega), Option.bind_some, get_li (by omega) (by omega), Option.bind_some, get_li (by omega) (by omega), Option.bind_some]
        rw [show ((k : Int) - 1).toNat = k - 1 by omega, show (k : Int).toNat = k by omega]
        have hne : f2' (k - 1) ≠ f2' k := fun e => by have := p2.inj e; omega
        have next : ¬ (ds f2' k ∧ g1' (k - 1) < g1' k) → ∃ s', (chk ((k : Int) + 1)).bind (fun z => some (.inl (c, z, li N f2', li N g1'))) = some (Sum.inl (β := Bool × Int × List Int × List Int) s') ∧
            (∃ c_1 k f1'_1 g1'_1 f2'_1, s' = (c_1, ((k : Nat) : Int), li N f2'_1, li N g1'_1) ∧ 1 ≤ k ∧ (k ≤ N ∨ k = 1) ∧ Mvs N (f1, g1, f2) (f1'_1, g1'_1, f2'_1) ∧ (∀ j, 1 ≤ j → j < k → j < N → ds f2'_1 j → ds g1'_1 j) ∧ (c_1 = false → f1'_1 = f1 ∧ g1'_1 = g1 ∧ f2'_1 = f2) ∧ (c_1 = true → inv (lst N f2'_1) < inv (lst N f2))) ∧
            inv (s'.2.2.1.map Int.toNat) * (N + 1) + (N - s'.2.1.toNat) < inv ((li N f2').map Int.toNat) * (N + 1) + (N - k) := fun hno => by
          rw [chk_ok (by omega) (by omega), Option.bind_some]
          refine ⟨_, rfl, ⟨c, k + 1, f1', g1', f2', rfl, by omega, by omega, hm, fun j j1 j2 j3 j4 => ?_, hc, hc2⟩, by dsimp only; omega⟩
          by_cases e : j = k
          · subst e
            have : ¬ g1' (j - 1) < g1' j := fun h => hno ⟨j4, h⟩
            have hne2 : g1' (j - 1) ≠ g1' j := fun e => by have := p1.symm.inj e; omega
            unfold ds; omega
          · exact hw j j1 (by omega) j3 j4
        by_cases hd : f2' (k - 1) < f2' k
        · rw [decide_eq_true (by omega), cond_true]
          exact .inl (next fun ⟨h, _⟩ => by unfold ds at h; omega)
        · rw [decide_eq_false (by omega), cond_false, Option.bind_some, get_li (by omega) (by omega), Option.bind_some, get_li (by omega) (by omega), Option.bind_some]
          rw [show ((k : Int) - 1).toNat = k - 1 by omega, show (k : Int).toNat = k by omega]
          by_cases ha : g1' k < g1' (k - 1)
          · rw [decide_eq_true (by omega), cond_true]
            exact .inl (next fun ⟨_, h⟩ => by omega)
          · rw [decide_eq_false (by omega), cond_false]
            have hne2 : g1' (k - 1) ≠ g1' k := fun e => by have := p1.symm.inj e; omega
            have hd' : ds f2' k := by unfold ds; omega
            have ha' : g1' (k - 1) < g1' k := by omega
            left
            simp only [Option.bind_some]
            have e1 : ∀ f : Nat → Nat, Ev.get (li N f) ((k : Int) - 1) = some ((f (k - 1) : Nat) : Int) := fun f => by
              rw [get_li (by omega) (by omega), show ((k : Int) - 1).toNat = k - 1 by omega]
            have e2 : ∀ (f : Nat → Nat) (v : Int), ∃ x, Ev.get ((li N f).set (k - 1) v) (k : Int) = some x := fun f v => ⟨_, get_ok (by omega) (by rw [List.length_set, li_len]; omega)⟩
            obtain ⟨x1, q1⟩ := e2 f2' ((f2' k : Nat) : Int)
            obtain ⟨x2, q2⟩ := e2 g1' ((g1' k : Nat) : Int)
            have hk1 : ((k : Int) - 1).toNat = k - 1 := by omega
            rw [e1]
            simp only [Option.bind_some, hk1]
            rw [q1]
            simp only [Option.bind_some]
            rw [e1]
            simp only [Option.bind_some]
            rw [q2]
            simp only [Option.bind_some]
            rw [li_sw k1 hk, li_sw k1 hk]
            have hdec := inv_tr k1 hk hd'
            refine ⟨_, rfl, ⟨true, max 1 (k - 1), _, _, _, ?_, by omega, by omega, hm.step k1 hk hd' ha', fun j j1 j2 j3 j4 => ?_, fun h => absurd h (by decide), fun _ => ?_⟩, ?_⟩
            · congr 2; omega
            · -- letters below k - 1 are as they were
              have t1 : tr k j = j := tr_o (by omega) (by omega)
              have t2 : tr k (j - 1) = j - 1 := tr_o (by omega) (by omega)
              unfold ds at j4 ⊢
              dsimp only at j4 ⊢
              rw [t1, t2] at j4 ⊢
              exact hw j j1 (by omega) j3 j4
            · cases c with
              | false => obtain ⟨_, _, e⟩ := hc rfl; rw [← e]; omega
              | true => have := hc2 rfl; omega
            · dsimp only
              rw [hmap, hmap]
              rw [hdec, Nat.add_mul]
              omega
      · rw [li_len, decide_eq_false (by omega), cond_false]
        right
        exact ⟨_, rfl, c, _, f1', g1', f2', rfl, hm, fun j j1 j2 j3 => hw j j1 (by omega) j2 j3, hc, hc2⟩) n (false, 1, li N f2, li N g1) ⟨false, 1, f1, g1, f2, rfl, by omega, .inr rfl, .refl _, fun j j1 j2 => by omega, fun _ => ⟨rfl, rfl, rfl⟩, fun h => absurd h (by decide)⟩ (by
      dsimp only
      have hmap : (li N f2).map Int.toNat = lst N f2 := by
        unfold li lst; rw [List.map_map]; apply List.map_congr_left; intro x _; simp
      rw [hmap]
      have := Nat.mul_le_mul_right (N + 1) (inv_lst_le (N := N) f2)
      omega)
  obtain ⟨c, i, f1', g1', f2', rfl, h3, h4, h5, h6⟩ := hr2
  exact ⟨c, i, f1', g1', f2', hr1, h3, h4, h5, h6⟩
theorem moveLetters_eq {f1 g1 f2 g2 : Nat → Nat} (h1 : Pm N f1 g1) (h2 : Pm N f2 g2) (n : Nat) (hl : N ≤ 100) (hn : N * N * (N + 1) + N < n) :
    ∃ c f1' g1' f2', F.garside_moveLetters n (li N f1) (li N f2) = some (c, li N f1', li N f2') ∧ Mvs N (f1, g1, f2) (f1', g1', f2') ∧ (∀ j, 1 ≤ j → j < N → ds f2' j → ds g1' j) ∧ (c = false → f1' = f1 ∧ g1' = g1 ∧ f2' = f2) ∧ (c = true → inv (lst N f2') < inv (lst N f2)) := by
  unfold F.garside_moveLetters
  rw [permInverse h1 n (by omega) (by omega), Option.bind_some]
  obtain ⟨c, i, f1', g1', f2', e1, e2, e3, e4, e5⟩ := moveLoop h1 h2 n hl hn
  obtain ⟨p1, -, -⟩ := e2.pm h1 ⟨g2, h2⟩
  dsimp only at p1
  refine ⟨c, f1', g1', f2', ?_, e2, e3, e4, e5⟩
  rw [e1, Option.bind_some]
  dsimp only
  rw [permInverse p1.symm n (by omega) (by omega), Option.bind_some, li_len, li_len, Nat.min_self, List.take_of_length_le (by rw [li_len]; omega), List.drop_of_length_le (by rw [li_len]; omega), List.append_nil]
end
end Gar
end Go.Proofs.Ytkeaonceaaafcaa
