/- All steps: both list the same. -/
import Derived.Test.YtkjpldmelafooaaPMwalk
import Derived.Test.YtkjpldmelafooaaPLoop
set_option linter.unusedVariables false
set_option linter.unusedSimpArgs false
namespace Go.Proofs.Ytkjpldmelafooaa
open Ev
abbrev St3 := Int × (Int × Int)
section
variable (s : Int) (w : List Int)
def okS (t : St3) : Bool := decide ((stepS s w t.1 t.2.1 t.2.2).2.2.2.2.2 = 0)
/-- The steps of a kind and a generator, with ats below m. -/
def row (k g : Int) (m : Nat) : List St3 := ((List.range m).map fun (i : Nat) => ((k, g, (i : Int)) : St3)).filter (okS s w)
theorem row_succ (k g : Int) (m : Nat) : row s w k g (m + 1) = row s w k g m ++ (if okS s w (k, g, (m : Int)) = true then [(k, g, (m : Int))] else []) := by
  unfold row
  rw [List.range_succ, List.map_append, List.filter_append]
  congr 1
  cases h : okS s w (k, g, (m : Int)) <;> simp [h]
theorem row_len (k g : Int) (m : Nat) : (row s w k g m).length ≤ m := by
  unfold row; exact Nat.le_trans (List.length_filter_le _ _) (by simp)
/-- Rows of generators from lo on. -/
def band (k lo : Int) (c m : Nat) : List St3 := (List.range c).flatMap fun (j : Nat) => row s w k (lo + (j : Int)) m
theorem band_succ (k lo : Int) (c m : Nat) : band s w k lo (c + 1) m = band s w k lo c m ++ row s w k (lo + (c : Int)) m := by
  unfold band; rw [List.range_succ, List.flatMap_append]; simp
theorem band_len (k lo : Int) (c m : Nat) : (band s w k lo c m).length ≤ c * m := by
  induction c with
  | zero => simp [band]
  | succ c ih => rw [band_succ, List.length_append, Nat.succ_mul]; have := row_len s w k (lo + c) m; omega
theorem band_add (k lo : Int) (c d m : Nat) : band s w k lo (c + d) m = band s w k lo c m ++ band s w k (lo + (c : Int)) d m := by
  induction d with
  | zero => simp [band]
  | succ d ih => rw [← Nat.add_assoc, band_succ, ih, band_succ, List.append_assoc]; congr 3; omega
theorem row_nil {k g : Int} {m : Nat} (h : ∀ a, (stepS s w k g a).2.2.2.2.2 ≠ 0) : row s w k g m = [] := by
  unfold row; rw [List.filter_eq_nil_iff]
  intro t ht
  obtain ⟨i, -, rfl⟩ := List.mem_map.1 ht
  unfold okS; simp [h]
theorem band_nil {k lo : Int} {c m : Nat} (h : ∀ j : Nat, j < c → ∀ a, (stepS s w k (lo + (j : Int)) a).2.2.2.2.2 ≠ 0) : band s w k lo c m = [] := by
  induction c with
  | zero => rfl
  | succ c ih => rw [band_succ, ih (fun j hj => h j (by omega)), row_nil s w (h c (by omega))]; rfl
/-- What the reference lists of a kind. -/
def kindR (k : Int) : List St3 := band s w k (-s - 1) (2 * s + 3).toNat (w.length + 2)
/-- What the program lists of a kind. -/
def kindP (k : Int) : List St3 := if k = 1 ∨ k = 6 then band s w k (1 - s) (2 * s - 1).toNat (w.length + 2) else if k = 2 then row s w 2 (-1) 1 ++ row s w 2 1 1 else row s w k 0 (w.length + 1)
theorem gens {k g a : Int} (h : (stepS s w k g a).2.2.2.2.2 = 0) : (k = 1 ∨ k = 6 → isL s g) ∧ (k = 2 → (g = 1 ∨ g = -1) ∧ a = 0) ∧ (k ≠ 1 → k ≠ 6 → k ≠ 2 → g = 0 ∧ a ≤ w.length) := by
  obtain ⟨hs, hc⟩ := step_cases h
  unfold C3 C7 at hc
  rcases hc with (⟨rfl, hl, -⟩ | ⟨rfl, hl, -, -⟩ | ⟨rfl, hg, ha⟩ | ⟨rfl, hg, ha, -⟩) | (⟨rfl, hl, -⟩ | ⟨rfl, hg, ha, hb⟩ | ⟨rfl, hg, ha, hb⟩ | ⟨rfl, hg, ha, hb⟩)
  · exact ⟨fun _ => hl, by omega, by omega⟩
  · exact ⟨fun _ => hl, by omega, by omega⟩
  · exact ⟨by omega, fun _ => ⟨hg, ha⟩, by omega⟩
  · exact ⟨by omega, by omega, fun _ _ _ => ⟨hg, by omega⟩⟩
  · exact ⟨fun _ => hl, by omega, by omega⟩
  · exact ⟨by omega, by omega, fun _ _ _ => ⟨hg, by omega⟩⟩
  · exact ⟨by omega, by omega, fun _ _ _ => ⟨hg, by omega⟩⟩
  · exact ⟨by omega, by omega, fun _ _ _ => ⟨hg, by omega⟩⟩
theorem row_cut {k g : Int} {m : Nat} (d : Nat) (h : ∀ a, (stepS s w k g a).2.2.2.2.2 = 0 → a < m) : row s w k g (m + d) = row s w k g m := by
  induction d with
  | zero => rfl
  | succ d ih =>
    rw [← Nat.add_assoc, row_succ, ih, if_neg, List.append_nil]
    unfold okS; rw [decide_eq_true_eq]; intro hh; have := h ((m + d : Nat) : Int) hh; omega
theorem kind_eq (hs : 1 ≤ s) (k : Int) : kindR s w k = kindP s w k := by
  obtain ⟨S, rfl⟩ : ∃ S : Nat, s = (S : Int) + 1 := ⟨(s - 1).toNat, by omega⟩
  unfold kindR kindP
  by_cases h16 : k = 1 ∨ k = 6
  · rw [if_pos h16, show (2 * ((S : Int) + 1) + 3).toNat = 2 + (2 * ((S : Int) + 1) - 1).toNat + 2 by omega, band_add, band_add, band_nil (c := 2), List.nil_append, band_nil (c := 2), List.append_nil]
    · congr 1; omega
    · intro j hj a h0
      have := (gens _ w h0).1 h16
      unfold isL at this; omega
    · intro j hj a h0
      have := (gens _ w h0).1 h16
      unfold isL at this; omega
  rw [if_neg h16]
  by_cases h2 : k = 2
  · subst h2
    rw [if_pos rfl, show (2 * ((S : Int) + 1) + 3).toNat = (S + 1) + 1 + 1 + 1 + (S + 1) by omega, band_add, band_succ, band_succ, band_succ, band_nil (c := S + 1), band_nil (c := S + 1), List.append_nil, List.nil_append]
    · rw [show -((S : Int) + 1) - 1 + ((S + 1 : Nat) : Int) = -1 by omega, show -((S : Int) + 1) - 1 + ((S + 1 + 1 : Nat) : Int) = 0 by omega, show -((S : Int) + 1) - 1 + ((S + 1 + 1 + 1 : Nat) : Int) = 1 by omega]
      have z : ∀ g, row ((S : Int) + 1) w 2 g (w.length + 2) = row ((S : Int) + 1) w 2 g 1 := fun g => by
        rw [show w.length + 2 = 1 + (w.length + 1) by omega]
        exact row_cut _ w _ (fun a ha => by have := (gens _ w ha).2.1 rfl; omega)
      rw [z, z, z, row_nil (g := 0), List.append_nil]
      intro a h0
      have := (gens _ w h0).2.1 rfl; omega
    · intro j hj a h0
      have := (gens _ w h0).2.1 rfl; omega
    · intro j hj a h0
      have := (gens _ w h0).2.1 rfl; omega
  · rw [if_neg h2, show (2 * ((S : Int) + 1) + 3).toNat = (S + 1 + 1) + 1 + (S + 1 + 1) by omega, band_add, band_succ, band_nil (c := S + 1 + 1), band_nil (c := S + 1 + 1), List.append_nil, List.nil_append]
    · rw [show -((S : Int) + 1) - 1 + ((S + 1 + 1 : Nat) : Int) = 0 by omega, show w.length + 2 = w.length + 1 + 1 by omega]
      exact row_cut _ w 1 (fun a ha => by have := (gens _ w ha).2.2 (by omega) (by omega) h2; omega)
    · intro j hj a h0
      have := (gens _ w h0).2.2 (by omega) (by omega) h2; omega
    · intro j hj a h0
      have := (gens _ w h0).2.2 (by omega) (by omega) h2; omega
/-- The kinds from 1 on. -/
def allR (c : Nat) : List St3 := (List.range c).flatMap fun (j : Nat) => kindR s w ((j : Int) + 1)
theorem allR_succ (c : Nat) : allR s w (c + 1) = allR s w c ++ kindR s w ((c : Int) + 1) := by
  unfold allR; rw [List.range_succ, List.flatMap_append]; simp
end
section
variable {s : Int} {w : List Int} {n : Nat} (hs : 1 ≤ s ∧ s ≤ 5) (hw : w.length ≤ 10) (hn : 300 ≤ n)
theorem kindR_len (hs : 1 ≤ s ∧ s ≤ 5) (hw : w.length ≤ 10) (k : Int) : (kindR s w k).length ≤ 156 := by
  have h := band_len s w k (-s - 1) (2 * s + 3).toNat (w.length + 2)
  have : (2 * s + 3).toNat * (w.length + 2) ≤ 13 * 12 := Nat.mul_le_mul (by omega) (by omega)
  unfold kindR; omega
theorem allR_len (hs : 1 ≤ s ∧ s ≤ 5) (hw : w.length ≤ 10) (c : Nat) : (allR s w c).length ≤ c * 156 := by
  induction c with
  | zero => simp [allR]
  | succ c ih => rw [allR_succ, List.length_append]; have := kindR_len hs hw ((c : Int) + 1); omega
include hs hw hn
omit hs in
theorem ref_row (acc : List St3) (ha : acc.length ≤ 5000) (k g : Int) : loopN n (F.ref36_All_b2 n s w k g) (acc, 0) = some (acc ++ row s w k g (w.length + 2), ((w.length + 2 : Nat) : Int)) := by
  have := count_loop (body := F.ref36_All_b2 n s w k g) (fun i => (acc ++ row s w k g i, (i : Int))) (w.length + 2) (r := (acc ++ row s w k g (w.length + 2), ((w.length + 2 : Nat) : Int))) (fun i hi => by
    unfold F.ref36_All_b2
    dsimp only
    rw [chk_ok (by omega) (by omega), Option.bind_some, decide_eq_true (by omega), cond_true, refApply_eq n (by omega), Option.bind_some, row_succ]
    have hl := row_len s w k g i
    by_cases h : (stepS s w k g i).2.2.2.2.2 = 0
    · rw [decide_eq_true h, cond_true, lim_ok (by simp; omega), Option.bind_some, chk_ok (by omega) (by omega), Option.bind_some, if_pos (by unfold okS; exact decide_eq_true h), List.append_assoc]; rfl
    · rw [decide_eq_false h, cond_false, chk_ok (by omega) (by omega), Option.bind_some, if_neg (by unfold okS; simpa using h), List.append_nil]; rfl) (by
    unfold F.ref36_All_b2
    dsimp only
    rw [chk_ok (by omega) (by omega), Option.bind_some, decide_eq_false (by omega), cond_false]) n (by omega)
  simpa [row] using this
theorem ref_band (acc : List St3) (ha : acc.length ≤ 2000) (k : Int) : loopN n (F.ref36_All_b1 n s w k) (acc, -s - 1) = some (acc ++ kindR s w k, s + 2) := by
  have := count_loop (body := F.ref36_All_b1 n s w k) (fun i => (acc ++ band s w k (-s - 1) i (w.length + 2), -s - 1 + (i : Int))) (2 * s + 3).toNat (r := (acc ++ kindR s w k, s + 2)) (fun i hi => by
    unfold F.ref36_All_b1
    dsimp only
    have hl := band_len s w k (-s - 1) i (w.length + 2)
    have hm : i * (w.length + 2) ≤ 13 * 12 := Nat.mul_le_mul (by omega) (by omega)
    rw [chk_ok (by omega) (by omega), Option.bind_some, decide_eq_true (by omega), cond_true, ref_row hw hn _ (by rw [List.length_append]; omega), Option.bind_some]
    dsimp only
    rw [chk_ok (by omega) (by omega), Option.bind_some, band_succ, List.append_assoc, show -s - 1 + (i : Int) + 1 = -s - 1 + ((i + 1 : Nat) : Int) by omega]) (by
    unfold F.ref36_All_b1
    dsimp only
    rw [chk_ok (by omega) (by omega), Option.bind_some, decide_eq_false (by omega), cond_false]
    unfold kindR
    rw [show -s - 1 + ((2 * s + 3).toNat : Int) = s + 2 by omega]) n (by omega)
  simpa [band] using this
theorem ref_all (hok : okB s w = true) : F.ref36_All n s w = some (allR s w 7) := by
  unfold F.ref36_All
  rw [refValid n (by omega), Option.bind_some, hok, Bool.not_true, cond_false]
  have := count_loop (body := F.ref36_All_b0 n s w) (fun i => (allR s w i, (i : Int) + 1)) 7 (r := (allR s w 7, 8)) (fun i hi => by
    unfold F.ref36_All_b0
    dsimp only
    have hl := allR_len hs hw i
    rw [decide_eq_true (by omega), cond_true, chk_ok (by omega) (by omega), Option.bind_some, chk_ok (by omega) (by omega), Option.bind_some, ref_band hs hw hn _ (by omega), Option.bind_some]
    dsimp only
    rw [chk_ok (by omega) (by omega), Option.bind_some, allR_succ]; rfl) (by
    unfold F.ref36_All_b0
    dsimp only
    rw [decide_eq_false (by omega), cond_false]; rfl) n (by omega)
  rw [show ((([] : List St3)), (1 : Int)) = (allR s w 0, ((0 : Nat) : Int) + 1) by simp [allR], this, Option.bind_some]
omit hs in
/-- One try. -/
theorem try_eq (acc : List St3) (ha : acc.length ≤ 5000) (k g a : Int) (hg : -9223372036854775808 ≤ g ∧ g ≤ 9223372036854775807) : F.markov_All_c1 n k g a s w acc = some (acc ++ (if okS s w (k, g, a) = true then [(k, g, a)] else [])) := by
  unfold F.markov_All_c1
  rw [apply_eq n (by omega) hg, Option.bind_some]
  by_cases h : (stepS s w k g a).2.2.2.2.2 = 0
  · rw [decide_eq_true h, cond_true, lim_ok (by simp; omega), Option.bind_some, if_pos (by unfold okS; exact decide_eq_true h)]
  · rw [decide_eq_false h, cond_false, if_neg (by unfold okS; simpa using h), List.append_nil]
omit hs in
theorem pro_row3 (acc : List St3) (ha : acc.length ≤ 4000) (k g : Int) (hg : -9223372036854775808 ≤ g ∧ g ≤ 9223372036854775807) : loopN n (F.markov_All_b3 n s w k g ((w.length : Int) + 2)) (0, acc) = some (((w.length + 2 : Nat) : Int), acc ++ row s w k g (w.length + 2)) := by
  have := count_loop (body := F.markov_All_b3 n s w k g ((w.length : Int) + 2)) (fun i => ((i : Int), acc ++ row s w k g i)) (w.length + 2) (r := (((w.length + 2 : Nat) : Int), acc ++ row s w k g (w.length + 2))) (fun i hi => by
    unfold F.markov_All_b3
    dsimp only
    have hl := row_len s w k g i
    rw [decide_eq_true (by omega), cond_true, try_eq hw hn _ (by rw [List.length_append]; omega) _ _ _ hg, Option.bind_some, chk_ok (by omega) (by omega), Option.bind_some, row_succ, List.append_assoc]; rfl) (by
    unfold F.markov_All_b3
    dsimp only
    rw [decide_eq_false (by omega), cond_false]) n (by omega)
  simpa [row] using this
omit hs in
theorem pro_row4 (acc : List St3) (ha : acc.length ≤ 4000) (k : Int) : loopN n (F.markov_All_b4 n s w k ((w.length : Int) + 1)) (0, acc) = some (((w.length + 1 : Nat) : Int), acc ++ row s w k 0 (w.length + 1)) := by
  have := count_loop (body := F.markov_All_b4 n s w k ((w.length : Int) + 1)) (fun i => ((i : Int), acc ++ row s w k 0 i)) (w.length + 1) (r := (((w.length + 1 : Nat) : Int), acc ++ row s w k 0 (w.length + 1))) (fun i hi => by
    unfold F.markov_All_b4
    dsimp only
    have hl := row_len s w k 0 i
    rw [decide_eq_true (by omega), cond_true, try_eq hw hn _ (by rw [List.length_append]; omega) _ _ _ (by omega), Option.bind_some, chk_ok (by omega) (by omega), Option.bind_some, row_succ, List.append_assoc]; rfl) (by
    unfold F.markov_All_b4
    dsimp only
    rw [decide_eq_false (by omega), cond_false]) n (by omega)
  simpa [row] using this
theorem pro_band (acc : List St3) (ha : acc.length ≤ 2000) (k : Int) : loopN n (F.markov_All_b2 n s w k) (1 - s, acc) = some (s, acc ++ band s w k (1 - s) (2 * s - 1).toNat (w.length + 2)) := by
  have := count_loop (body := F.markov_All_b2 n s w k) (fun i => (1 - s + (i : Int), acc ++ band s w k (1 - s) i (w.length + 2))) (2 * s - 1).toNat (r := (s, acc ++ band s w k (1 - s) (2 * s - 1).toNat (w.length + 2))) (fun i hi => by
    unfold F.markov_All_b2
    dsimp only
    have hl := band_len s w k (1 - s) i (w.length + 2)
    have hm : i * (w.length + 2) ≤ 13 * 12 := Nat.mul_le_mul (by omega) (by omega)
    rw [decide_eq_true (by omega), cond_true, chk_ok (by omega) (by omega), Option.bind_some, pro_row3 hw hn _ (by rw [List.length_append]; omega) _ _ (by omega), Option.bind_some]
    dsimp only
    rw [chk_ok (by omega) (by omega), Option.bind_some, band_succ, List.append_assoc, show 1 - s + (i : Int) + 1 = 1 - s + ((i + 1 : Nat) : Int) by omega]) (by
    unfold F.markov_All_b2
    dsimp only
    rw [decide_eq_false (by omega), cond_false, show 1 - s + ((2 * s - 1).toNat : Int) = s by omega]) n (by omega)
  simpa [band] using this
theorem pro_kind (i : Nat) (hi : i < 7) : F.markov_All_b0 n s w ((i : Int) + 1, allR s w i) = some (.inl (((i + 1 : Nat) : Int) + 1, allR s w (i + 1))) := by
  have hl := allR_len hs hw i
  have hlim : (allR s w i).length ≤ 2000 := by omega
  unfold F.markov_All_b0
  dsimp only
  rw [decide_eq_true (by omega : (i : Int) + 1 ≤ 7), cond_true, allR_succ, kind_eq s w hs.1]
  unfold F.markov_All_j1 kindP
  have big : ∀ b : Bool, b = true → ((i : Int) + 1 = 1 ∨ (i : Int) + 1 = 6) → (cond b ((chk (1 - s)).bind fun z41 => ((loopN n (F.markov_All_b2 n s w ((i : Int) + 1)) (z41, allR s w i)).bind fun o43 => match o43 with
    | (v6_2, kf17_0_2) => (chk ((i : Int) + 1 + 1)).bind fun z86 => some (Sum.inl (β := Int × List St3) (z86, kf17_0_2)))) (cond (decide ((i : Int) + 1 = 2)) ((F.markov_All_c1 n ((i : Int) + 1) (-1) 0 s w (allR s w i)).bind fun y91 => (F.markov_All_c1 n ((i : Int) + 1) 1 0 s w y91).bind fun y100 => (chk ((i : Int) + 1 + 1)).bind fun z109 => some (.inl (z109, y100))) ((chk ((w.length : Int) + 1)).bind fun z112 => ((loopN n (F.markov_All_b4 n s w ((i : Int) + 1) z112) (0, allR s w i)).bind fun o114 => match o114 with
    | (v22_4, kf17_0_4) => (chk ((i : Int) + 1 + 1)).bind fun z139 => some (.inl (z139, kf17_0_4)))))) = some (.inl (((i + 1 : Nat) : Int) + 1, allR s w i ++ band s w ((i : Int) + 1) (1 - s) (2 * s - 1).toNat (w.length + 2))) := by
    intro b hb _
    rw [hb, cond_true, chk_ok (by omega) (by omega), Option.bind_some, pro_band hs hw hn _ hlim, Option.bind_some]
    dsimp only
    rw [chk_ok (by omega) (by omega), Option.bind_some]; rfl
  by_cases h1 : (i : Int) + 1 = 1
  · rw [decide_eq_true h1, cond_true, if_pos (Or.inl h1)]
    exact big true rfl (.inl h1)
  rw [decide_eq_false h1, cond_false]
  by_cases h6 : (i : Int) + 1 = 6
  · rw [decide_eq_true h6, if_pos (Or.inr h6)]
    exact big true rfl (.inr h6)
  rw [decide_eq_false h6, cond_false, if_neg (by omega)]
  by_cases h2 : (i : Int) + 1 = 2
  · rw [decide_eq_true h2, cond_true, if_pos h2, h2, try_eq hw hn _ (by omega) _ _ _ (by omega), Option.bind_some, try_eq hw hn _ (by rw [List.length_append]; split <;> simp <;> omega) _ _ _ (by omega), Option.bind_some, chk_ok (by omega) (by omega), Option.bind_some]
    have z : ∀ g, row s w 2 g 1 = (if okS s w (2, g, 0) = true then [(2, g, 0)] else []) := fun g => by
      have := row_succ s w 2 g 0
      simpa [row] using this
    rw [z, z, List.append_assoc, show ((i + 1 : Nat) : Int) + 1 = 2 + 1 by omega]
  · rw [decide_eq_false h2, cond_false, if_neg h2, chk_ok (by omega) (by omega), Option.bind_some, pro_row4 hw hn _ (by omega), Option.bind_some]
    dsimp only
    rw [chk_ok (by omega) (by omega), Option.bind_some]; rfl
theorem pro_all (hok : okB s w = true) : F.markov_All n s w = some (allR s w 7) := by
  unfold F.markov_All
  rw [braidValid n (by omega), Option.bind_some, hok, Bool.not_true, cond_false]
  have := count_loop (body := F.markov_All_b0 n s w) (fun i => ((i : Int) + 1, allR s w i)) 7 (r := (8, allR s w 7)) (fun i hi => pro_kind hs hw hn i hi) (by
    unfold F.markov_All_b0
    dsimp only
    rw [decide_eq_false (by omega), cond_false]; rfl) n (by omega)
  rw [show ((1 : Int), ([] : List St3)) = (((0 : Nat) : Int) + 1, allR s w 0) by simp [allR], this, Option.bind_some]
end
theorem same_step {n : Nat} {l : List St3} {i : Nat} (hi : i < l.length) (hl : l.length ≤ 2000) : F.law36_MarkovAll_b0 n l l (i : Int) = some (.inl ((i : Int) + 1)) := by
  unfold F.law36_MarkovAll_b0
  dsimp only
  rw [decide_eq_true (by omega), cond_true, get_nat, List.getElem?_eq_getElem hi]
  generalize l[i] = x
  rw [Option.bind_some, Option.bind_some, decide_eq_true (Eq.refl x.1), decide_eq_true (Eq.refl x.2.1), decide_eq_true (Eq.refl x.2.2), Bool.and_true, Bool.and_true, Bool.and_true, Bool.not_true, cond_false, chk_ok (by omega) (by omega), Option.bind_some]
theorem all_same {n : Nat} (l : List St3) (hl : l.length ≤ 2000) (hn : 2000 < n) : ∃ q, loopN n (F.law36_MarkovAll_b0 n l l) 0 = some (.inl q) := by
  refine ⟨_, count_loop (body := F.law36_MarkovAll_b0 n l l) (fun i => (i : Int)) l.length (r := .inl (l.length : Int)) (fun i hi => ?_) ?_ n (by omega)⟩
  · rw [same_step hi hl, Int.natCast_add]; rfl
  · unfold F.law36_MarkovAll_b0
    dsimp only
    rw [decide_eq_false (by omega), cond_false]
theorem law36_MarkovAll_true (z0 : Int) (x1 : List Int) (o0 : Ev.Sh.ok (.int .i64) z0) (o1 : Ev.Sh.ok (.sl (.int .i64)) x1) : ∃ n, F.law36_MarkovAll n z0 x1 = some true := by
  refine ⟨3000, ?_⟩
  unfold F.law36_MarkovAll
  rw [awake36 3000 (by decide), Option.bind_some, Bool.not_true, cond_false]
  by_cases hl : 10 < (x1.length : Int)
  · rw [decide_eq_true hl]; rfl
  rw [decide_eq_false hl, cond_false]
  by_cases h5 : 5 < z0
  · rw [decide_eq_true h5]; rfl
  rw [decide_eq_false h5, cond_false]
  have fin : ∀ l : List St3, l.length ≤ 2000 → (cond (!(decide ((l.length : Int) = (l.length : Int)))) (some false) (((loopN 3000 (F.law36_MarkovAll_b0 3000 l l) 0).bind fun o43 => match o43 with
    | (.inl v7_0) => some true
    | (.inr q) => some q))) = some true := by
    intro l hl
    obtain ⟨q, hq⟩ := all_same (n := 3000) l hl (by omega)
    rw [decide_eq_true rfl, Bool.not_true, cond_false, hq, Option.bind_some]
  cases hok : okB z0 x1
  · have e1 : F.markov_All 3000 z0 x1 = some [] := by
      unfold F.markov_All; rw [braidValid 3000 (by omega), Option.bind_some, hok]; rfl
    have e2 : F.ref36_All 3000 z0 x1 = some [] := by
      unfold F.ref36_All; rw [refValid 3000 (by omega), Option.bind_some, hok]; rfl
    rw [e1, Option.bind_some, e2, Option.bind_some]
    exact fin [] (by simp)
  · obtain ⟨h1, h2, h3, hv⟩ := okB_iff.1 hok
    rw [pro_all ⟨h1, by omega⟩ (by omega) (by omega) hok, Option.bind_some, ref_all ⟨h1, by omega⟩ (by omega) (by omega) hok, Option.bind_some]
    have := allR_len ⟨h1, by omega⟩ (by omega : x1.length ≤ 10) 7
    exact fin _ (by omega)
end Go.Proofs.Ytkjpldmelafooaa
