/- The reference Apply answers stepS (part two). -/
import Derived.Test.YtkjpldmelafooaaPMref
set_option linter.unusedVariables false
set_option linter.unusedSimpArgs false
namespace Go.Proofs.Ytkjpldmelafooaa
open Ev
theorem get_w {w : List Int} (hw : w.length ≤ 200) {i : Int} (h0 : 0 ≤ i) (h1 : i < w.length) : Ev.get w i = some (w.getD i.toNat 0) := by
  rw [get_ok h0 (by omega), List.getD_eq_getElem?_getD, List.getElem?_eq_getElem (by omega : i.toNat < w.length)]; rfl
section
variable {s : Int} {w : List Int} (n : Nat) (hs : 1 ≤ s ∧ s ≤ 10) (hw : w.length ≤ 200)
include hs hw
/-- Conjugate. -/
theorem ref_k1 (g a : Int) (b : Bool) (hb : b = true → g ≠ 0 ∧ -s < g ∧ g < s) : F.ref36_Apply_j1 n s w 1 g a b (decide (0 ≤ a ∧ a < w.length)) = some (if b = true ∧ (a = 0 ∨ a = 1) then (if a = 0 then fin s (g :: (w ++ [-g])) 1 (-g) 1
      else if 2 ≤ w.length ∧ w[0]? = some (-g) ∧ w[w.length - 1]? = some g then fin s ((w.drop 1).take (w.length - 2)) 1 (-g) 0 else er 6) else er 2) := by
  unfold F.ref36_Apply_j1
  rw [decide_eq_true (rfl : (1 : Int) = 1), cond_true]
  have h3 : ∀ t : Bool, t = decide (b = true ∧ (a = 0 ∨ a = 1)) → F.ref36_Apply_j3 n s w g a t = some (if b = true ∧ (a = 0 ∨ a = 1) then (if a = 0 then fin s (g :: (w ++ [-g])) 1 (-g) 1
      else if 2 ≤ w.length ∧ w[0]? = some (-g) ∧ w[w.length - 1]? = some g then fin s ((w.drop 1).take (w.length - 2)) 1 (-g) 0 else er 6) else er 2) := by
    intro t ht
    by_cases h : b = true ∧ (a = 0 ∨ a = 1)
    · rw [if_pos h]
      rw [decide_eq_true h] at ht; subst ht
      obtain ⟨hb1, ha⟩ := h
      obtain ⟨g0, g1, g2⟩ := hb hb1
      unfold F.ref36_Apply_j3
      rw [cond_true]
      unfold F.ref36_Apply_j5
      rw [wr_ok (z := -g) (by omega) (by omega)]
      by_cases h0 : a = 0
      · subst h0
        rw [decide_eq_true rfl, cond_true, if_pos rfl, lim_ok (by simp; omega), Option.bind_some, lim_ok (by simp; omega), Option.bind_some]
        unfold F.ref36_Apply_j4
        rw [j2, if_pos rfl, if_pos rfl, wr_ok (by omega) (by omega), wr_ok (by omega) (by omega)]
        rfl
      · have h1 : a = 1 := by omega
        subst h1
        rw [decide_eq_false h0, cond_false, cond_true, if_neg h0]
        have key : ∀ c : Bool, (c = true → 2 ≤ w.length) → F.ref36_Apply_j6 n s w g 1 true c = some (if c = true then fin s ((w.drop 1).take (w.length - 2)) 1 (-g) 0 else er 6) := by
          intro c hc
          unfold F.ref36_Apply_j6
          cases c
          · rw [cond_false]; unfold F.ref36_Apply_j4; rw [j2]; rfl
          · have := hc rfl
            rw [cond_true, wr_ok (by omega) (by omega), cut_ok (by omega) (by omega) (by omega), Option.bind_some]
            unfold F.ref36_Apply_j4
            rw [j2, if_pos rfl, if_pos rfl, wr_ok (by omega) (by omega), wr_ok (by omega) (by omega), if_pos rfl]
            rw [show ((w.length : Int) - 1).toNat - (1 : Int).toNat = w.length - 2 by omega, show (1 : Int).toNat = 1 from rfl, show (1 : Int) - 1 = 0 from rfl]
        by_cases h2 : 2 ≤ w.length
        · rw [decide_eq_true (by omega), cond_true]
          rw [show w[0]? = some (w.getD 0 0) from getD_of (by omega), show w[w.length - 1]? = some (w.getD (w.length - 1) 0) from getD_of (by omega)]
          rw [get_w hw (by omega) (by omega), Option.bind_some, show (0 : Int).toNat = 0 from rfl]
          by_cases h3 : w.getD 0 0 = -g
          · rw [decide_eq_true h3, cond_true, wr_ok (by omega) (by omega), get_w hw (by omega) (by omega), Option.bind_some, show ((w.length : Int) - 1).toNat = w.length - 1 by omega, key _ (fun _ => h2)]
            by_cases h4 : w.getD (w.length - 1) 0 = g
            · rw [decide_eq_true h4, if_pos rfl, if_pos ⟨h2, by rw [h3], by rw [h4]⟩]
            · rw [decide_eq_false h4, if_neg (by decide), if_neg (fun h => h4 (Option.some.inj h.2.2))]
          · rw [decide_eq_false h3, cond_false, key _ (fun h => absurd h (by decide)), if_neg (by decide), if_neg (fun h => h3 (Option.some.inj h.2.1))]
        · rw [decide_eq_false (by omega), cond_false, key _ (fun h => absurd h (by decide)), if_neg (by decide), if_neg (fun h => h2 h.1)]
    · rw [if_neg h]
      rw [decide_eq_false h] at ht; subst ht
      unfold F.ref36_Apply_j3
      rw [cond_false]
      unfold F.ref36_Apply_j5
      rw [cond_false, cond_false]
      unfold F.ref36_Apply_j4
      rw [j2]; rfl
  cases b
  · rw [cond_false]; exact h3 _ (by simp)
  · rw [cond_true]
    by_cases h0 : a = 0
    · rw [decide_eq_true h0, cond_true]; exact h3 _ (by simp [h0])
    · rw [decide_eq_false h0, cond_false]; exact h3 _ (by simp [h0])
/-- Stabilize. -/
theorem ref_k2 (g a : Int) (b p : Bool) : F.ref36_Apply_j1 n s w 2 g a b p = some (if (g = 1 ∨ g = -1) ∧ a = 0 then fin (s + 1) (w ++ [g * s]) 3 0 0 else er 2) := by
  unfold F.ref36_Apply_j1
  rw [decide_eq_false (by decide : ¬ (2 : Int) = 1), cond_false, decide_eq_true (rfl : (2 : Int) = 2), cond_true]
  have h7 : ∀ t : Bool, t = decide ((g = 1 ∨ g = -1) ∧ a = 0) → F.ref36_Apply_j7 n s w g t = some (if (g = 1 ∨ g = -1) ∧ a = 0 then fin (s + 1) (w ++ [g * s]) 3 0 0 else er 2) := by
    intro t ht
    unfold F.ref36_Apply_j7
    rw [lim_ok (by simp; omega), Option.bind_some, lim_ok (by simp; omega), Option.bind_some, j2]
    by_cases h : (g = 1 ∨ g = -1) ∧ a = 0
    · rw [if_pos h]
      rw [decide_eq_true h] at ht; subst ht
      rw [if_pos rfl, if_pos rfl, wr_ok (by omega) (by omega), wr_ok (by rcases h.1 with rfl | rfl <;> omega) (by rcases h.1 with rfl | rfl <;> omega)]
      rfl
    · rw [if_neg h]
      rw [decide_eq_false h] at ht; subst ht; rfl
  by_cases h1 : g = 1
  · rw [decide_eq_true h1, cond_true]; exact h7 _ (by simp [h1])
  · rw [decide_eq_false h1, cond_false]
    by_cases h2 : g = -1
    · rw [decide_eq_true h2, cond_true]; exact h7 _ (by simp [h2])
    · rw [decide_eq_false h2, cond_false]; exact h7 _ (by simp [h1, h2])
/-- Destabilize. -/
theorem ref_k3 (g a : Int) (b p : Bool) (hv : ∀ x ∈ w, -s < x ∧ x < s) (hn : w.length < n) : F.ref36_Apply_j1 n s w 3 g a b p = some (if g = 0 ∧ a = 0 then
      (if ok3 s w = true then
        fin (s - 1) (w.take (w.length - 1)) 2 (if (w.getD (w.length - 1) 0) < 0 then -1 else 1) 0
      else er 6)
    else er 2) := by
  unfold F.ref36_Apply_j1
  rw [decide_eq_false (by decide : ¬ (3 : Int) = 1), cond_false, decide_eq_false (by decide : ¬ (3 : Int) = 2), cond_false, decide_eq_true (rfl : (3 : Int) = 3), cond_true]
  have hr : ∀ k, k < w.length → -s < w.getD k 0 ∧ w.getD k 0 < s := fun k hk => by
    refine hv _ ?_
    rw [List.getD_eq_getElem?_getD, List.getElem?_eq_getElem hk]; exact List.getElem_mem hk
  have h9 : ∀ (t c : Bool), c = decide (2 ≤ s ∧ 1 ≤ w.length ∧ ab (w.getD (w.length - 1) 0) = s - 1) → F.ref36_Apply_j9 n s w t c = some (if t = true then
      (if ok3 s w = true then
        fin (s - 1) (w.take (w.length - 1)) 2 (if (w.getD (w.length - 1) 0) < 0 then -1 else 1) 0
      else er 6)
    else er 2) := by
    intro t c hc
    unfold F.ref36_Apply_j9
    obtain ⟨r, hr1, hr2⟩ := loop_spec (body := F.ref36_Apply_b10 n s w) (fun v => ∃ k : Nat, v.2 = (k : Int) ∧ k ≤ w.length ∧ v.1 = (c && (w.take k).all fun x => !decide (ab x = s - 1)) ∧ k ≤ w.length - 1) (fun v => w.length - v.2.toNat)
      (fun r => r.1 = (c && (w.take (w.length - 1)).all fun x => !decide (ab x = s - 1))) (fun v ⟨k, hv1, hk, hI, hk2⟩ => by
        obtain ⟨p, i⟩ := v
        dsimp only at hv1 hI
        subst hv1
        unfold F.ref36_Apply_b10
        dsimp only
        rw [wr_ok (z := (w.length : Int) - 1) (by omega) (by omega)]
        by_cases hlt : (k : Int) < (w.length : Int) - 1
        · left
          rw [decide_eq_true hlt, cond_true, wr_ok (z := (k : Int) + 1) (by omega) (by omega)]
          have ht : (w.take (k + 1)).all (fun x => !decide (ab x = s - 1)) = ((w.take k).all (fun x => !decide (ab x = s - 1)) && !decide (ab (w.getD k 0) = s - 1)) := by
            have : w.take (k + 1) = w.take k ++ [w.getD k 0] := by
              rw [List.take_add_one, getD_of (by omega)]; rfl
            rw [this, List.all_append]; simp
          cases p
          · rw [cond_false]
            refine ⟨_, rfl, ⟨k + 1, by simp, by omega, ?_, by omega⟩, by dsimp only; omega⟩
            show false = _
            rw [ht, ← Bool.and_assoc, ← hI]; rfl
          · rw [cond_true, get_w hw (by omega) (by omega), Option.bind_some, show (k : Int).toNat = k by omega]
            have := hr k (by omega)
            rw [absEq n (by omega), Option.bind_some, wr_ok (z := s - 1) (by omega) (by omega)]
            refine ⟨_, rfl, ⟨k + 1, by simp, by omega, ?_, by omega⟩, by dsimp only; omega⟩
            show (!decide _) = _
            rw [ht, ← Bool.and_assoc, ← hI]; rfl
        · right
          rw [decide_eq_false hlt, cond_false]
          refine ⟨_, rfl, ?_⟩
          dsimp only
          rw [hI, show w.length - 1 = k by omega]) n (c, 0) ⟨0, rfl, by omega, by simp, by omega⟩ (by dsimp only; omega)
    rw [hr1, Option.bind_some]
    obtain ⟨p, i⟩ := r
    dsimp only at hr2 ⊢
    have ho : ok3 s w = p := by
      rw [hr2, hc]; unfold ok3
      by_cases a1 : 2 ≤ s <;> by_cases a2 : 1 ≤ w.length <;> by_cases a3 : ab (w.getD (w.length - 1) 0) = s - 1 <;> simp [a1, a2, a3]
    rw [ho]
    cases p
    · rw [cond_false, j2]; cases t <;> rfl
    · have h1 : 2 ≤ s ∧ 1 ≤ w.length := by
        have := (ok3_iff.1 ho); exact ⟨this.1, this.2.1⟩
      rw [cond_true, wr_ok (z := (w.length : Int) - 1) (by omega) (by omega), cut_ok (by omega) (by omega) (by omega), Option.bind_some, get_w hw (by omega) (by omega), Option.bind_some, wr_ok (z := s - 1) (by omega) (by omega)]
      have e2 : (w.drop (0 : Int).toNat).take (((w.length : Int) - 1).toNat - (0 : Int).toNat) = w.take (w.length - 1) := by
        rw [show ((w.length : Int) - 1).toNat - (0 : Int).toNat = w.length - 1 by omega]; rfl
      rw [e2, show ((w.length : Int) - 1).toNat = w.length - 1 by omega]
      by_cases hneg : w.getD (w.length - 1) 0 < 0
      · rw [decide_eq_true hneg, cond_true, j2, if_pos hneg]
      · rw [decide_eq_false hneg, cond_false, j2, if_neg hneg]
  have h8 : ∀ t : Bool, t = decide (g = 0 ∧ a = 0) → F.ref36_Apply_j8 n s w t = some (if g = 0 ∧ a = 0 then
      (if ok3 s w = true then
        fin (s - 1) (w.take (w.length - 1)) 2 (if (w.getD (w.length - 1) 0) < 0 then -1 else 1) 0
      else er 6)
    else er 2) := by
    intro t ht
    unfold F.ref36_Apply_j8
    have e : ∀ X Y : Ans, (if t = true then X else Y) = if g = 0 ∧ a = 0 then X else Y := by
      intro X Y; subst ht
      by_cases h : g = 0 ∧ a = 0
      · rw [if_pos h, decide_eq_true h, if_pos rfl]
      · rw [if_neg h, decide_eq_false h, if_neg (by decide)]
    by_cases a1 : 2 ≤ s
    · rw [decide_eq_true a1, cond_true]
      by_cases a2 : 1 ≤ w.length
      · rw [decide_eq_true (by omega : (1 : Int) ≤ w.length), cond_true, wr_ok (z := (w.length : Int) - 1) (by omega) (by omega), get_w hw (by omega) (by omega), Option.bind_some, show ((w.length : Int) - 1).toNat = w.length - 1 by omega]
        have := hr (w.length - 1) (by omega)
        rw [absEq n (by omega), Option.bind_some, wr_ok (z := s - 1) (by omega) (by omega), h9 _ _ (by simp [a1, a2]), e]
      · rw [decide_eq_false (by omega : ¬ (1 : Int) ≤ w.length), cond_false, h9 _ _ (by simp [a2]), e]
    · rw [decide_eq_false a1, cond_false, h9 _ _ (by simp [a1]), e]
  by_cases h1 : g = 0
  · rw [decide_eq_true h1, cond_true]; exact h8 _ (by simp [h1])
  · rw [decide_eq_false h1, cond_false]; exact h8 _ (by simp [h1])
end
end Go.Proofs.Ytkjpldmelafooaa
