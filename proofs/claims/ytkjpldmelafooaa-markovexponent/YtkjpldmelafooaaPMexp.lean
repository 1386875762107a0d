/- The exponent of a braid. -/
import Derived.Test.YtkjpldmelafooaaPMinverse
set_option linter.unusedVariables false
set_option linter.unusedSimpArgs false
namespace Go.Proofs.Ytkjpldmelafooaa
open Ev
def sg (x : Int) : Int := if 0 < x then 1 else -1
def expo : List Int → Int
  | [] => 0
  | x :: w => sg x + expo w
theorem expo_app (u w : List Int) : expo (u ++ w) = expo u + expo w := by
  induction u with
  | nil => simp [expo]
  | cons x u ih => simp only [List.cons_append, expo, ih]; omega
theorem expo_bound (w : List Int) : -(w.length : Int) ≤ expo w ∧ expo w ≤ w.length := by
  induction w with
  | nil => simp [expo]
  | cons x u ih => simp only [List.length_cons, expo]; unfold sg; split <;> omega
theorem take_succ {w : List Int} {k : Nat} (h : k < w.length) : w.take (k + 1) = w.take k ++ [w.getD k 0] := by
  rw [List.take_add_one, getD_of h]; rfl
theorem expStep {w : List Int} (n : Nat) (hl : w.length ≤ 1000) (k : Nat) (hk : k ≤ w.length) :
    (k < w.length ∧ F.braid_Exponent_b0 n w (expo (w.take k), (k : Int)) = some (.inl (expo (w.take (k + 1)), ((k + 1 : Nat) : Int)))) ∨ (k = w.length ∧ F.braid_Exponent_b0 n w (expo (w.take k), (k : Int)) = some (.inr (expo (w.take k), (k : Int)))) := by
  unfold F.braid_Exponent_b0
  dsimp only
  by_cases hlt : (k : Int) < (w.length : Int)
  · have hk' : k < w.length := by omega
    left
    refine ⟨hk', ?_⟩
    have b := expo_bound (w.take k)
    have b' : (w.take k).length ≤ 1000 := by rw [List.length_take]; omega
    rw [decide_eq_true hlt, cond_true, get_d rfl hk', Option.bind_some, take_succ hk', expo_app]
    by_cases hc : 0 < w.getD k 0
    · rw [decide_eq_true hc, cond_true, chk_ok (by omega) (by omega), Option.bind_some, chk_ok (by omega) (by omega), Option.bind_some]
      have : expo [w.getD k 0] = 1 := by simp only [expo, sg, if_pos hc]; rfl
      rw [this]; rfl
    · rw [decide_eq_false hc, cond_false, chk_ok (by omega) (by omega), Option.bind_some, chk_ok (by omega) (by omega), Option.bind_some]
      have : expo [w.getD k 0] = -1 := by simp only [expo, sg, if_neg hc]; rfl
      rw [this]; rfl
  · right
    exact ⟨by omega, by rw [decide_eq_false hlt, cond_false]⟩
theorem expEq {s : Int} {w : List Int} (n : Nat) (hs : okB s w = true) (hn : w.length < n) : F.braid_Exponent n s w = some (expo w) := by
  have hl := (okB_iff.1 hs).2.2.1
  unfold F.braid_Exponent
  rw [braidValid n hn, Option.bind_some, hs, Bool.not_true, cond_false]
  obtain ⟨r, hr, hq⟩ := loop_spec (body := F.braid_Exponent_b0 n w) (fun x => ∃ k : Nat, x = (expo (w.take k), (k : Int)) ∧ k ≤ w.length) (fun x => w.length - x.2.toNat) (fun r => r.1 = expo w) (fun x hx => by
    obtain ⟨k, hv, hk⟩ := hx
    subst hv
    rcases expStep (w := w) n (by omega) k hk with ⟨h3, h4⟩ | ⟨h3, h4⟩
    · exact .inl ⟨_, h4, ⟨k + 1, rfl, by omega⟩, by dsimp only; omega⟩
    · exact .inr ⟨_, h4, by dsimp only; rw [h3, List.take_length]⟩) n (0, 0) ⟨0, rfl, Nat.zero_le _⟩ (by simpa using hn)
  rw [hr, Option.bind_some]
  exact congrArg some hq
/-- The exponent after a step. -/
theorem expo_step {s : Int} {w : List Int} {k g a : Int} {s' k' g' a' : Int} {w' : List Int} (h : stepS s w k g a = (s', w', k', g', a', 0)) :
    expo w' = expo w + (if k = 2 then g else if k = 3 then -g' else 0) := by
  have h0 : (stepS s w k g a).2.2.2.2.2 = 0 := by rw [h]
  obtain ⟨hs, hc⟩ := step_cases h0
  have neg : ∀ x : Int, x ≠ 0 → sg x + sg (-x) = 0 := by intro x hx; unfold sg; split <;> split <;> omega
  rcases hc with (⟨rfl, hl, rfl⟩ | ⟨rfl, hl, rfl, hd⟩ | ⟨rfl, hg, rfl⟩ | ⟨rfl, rfl, rfl, hd⟩) | (⟨rfl, hl, a0, a1⟩ | ⟨rfl, rfl, a0, a1, hd⟩ | ⟨rfl, rfl, a0, a1, hd⟩ | ⟨rfl, rfl, a0, a1, hd⟩)
  · rw [st1a hs hl] at h h0
    rw [fin_of (fin_ok h0).1 (fin_ok h0).2] at h
    cases h
    have := neg g hl.1
    simp only [expo, expo_app]
    rw [if_neg (by decide), if_neg (by decide)]; omega
  · have hu := un1b hs hl hd h0
    rw [st1b hs hl hd] at hu h h0
    rw [fin_of (fin_ok h0).1 (fin_ok h0).2] at h hu
    cases h
    obtain ⟨ok, hu⟩ := hu
    dsimp only at hu ok
    rw [st1a ok (by unfold isL at hl ⊢; omega)] at hu
    have h1 : (fin s (-g :: (List.take (w.length - 2) (List.drop 1 w) ++ [- -g])) 1 (- -g) 1).2.2.2.2.2 = 0 := by rw [hu]
    rw [fin_of (fin_ok h1).1 (fin_ok h1).2] at hu
    have e : -g :: (List.take (w.length - 2) (List.drop 1 w) ++ [- -g]) = w := congrArg (fun r => r.2.1) hu
    have := neg g hl.1
    rw [Int.neg_neg] at e
    have e2 := congrArg expo e
    simp only [expo, expo_app] at e2
    rw [if_neg (by decide), if_neg (by decide)]; omega
  · rw [st2 hs hg] at h h0
    rw [fin_of (fin_ok h0).1 (fin_ok h0).2] at h
    cases h
    have q := okB_iff.1 hs
    rw [expo_app, if_pos rfl]
    simp only [expo]
    unfold sg
    rcases hg with rfl | rfl
    · rw [if_pos (by omega)]; omega
    · rw [if_neg (by omega)]; omega
  · obtain ⟨d1, d2, d3, d4⟩ := ok3_iff.1 hd
    rw [st3 hs hd] at h h0
    rw [fin_of (fin_ok h0).1 (fin_ok h0).2] at h
    cases h
    rw [if_neg (by decide), if_pos rfl]
    have e2 : w.take (w.length - 1) ++ [w.getD (w.length - 1) 0] = w := by
      have := List.take_add_one (l := w) (i := w.length - 1)
      rw [show w.length - 1 + 1 = w.length by omega, List.take_length, getD_of (show w.length - 1 < w.length by omega)] at this
      exact this.symm
    have e3 := congrArg expo e2
    rw [expo_app] at e3
    simp only [expo] at e3
    unfold sg at e3
    unfold ab at d3
    split at e3 <;> split <;> omega
  · obtain ⟨p, q, rfl, rfl⟩ := cut0 a0 a1
    rw [s6 hs hl] at h h0
    rw [fin_of (fin_ok h0).1 (fin_ok h0).2] at h
    cases h
    have := neg g hl.1
    simp only [expo, expo_app]
    rw [if_neg (by decide), if_neg (by decide)]; omega
  · obtain ⟨p, x, y, q, rfl, rfl⟩ := cut2 a0 a1
    simp only [Int.toNat_natCast, g0, g1] at hd
    rw [s4 hs hd] at h h0
    rw [fin_of (fin_ok h0).1 (fin_ok h0).2] at h
    cases h
    simp only [expo, expo_app]
    rw [if_neg (by decide), if_neg (by decide)]; omega
  · obtain ⟨p, x, y, z, q, rfl, rfl⟩ := cut3 a0 a1
    simp only [Int.toNat_natCast, g0, g1, g2] at hd
    obtain ⟨rfl, hd⟩ := hd
    rw [s5 hs hd] at h h0
    rw [fin_of (fin_ok h0).1 (fin_ok h0).2] at h
    cases h
    have : sg y = sg z := by unfold sg; split <;> split <;> omega
    simp only [expo, expo_app]
    rw [if_neg (by decide), if_neg (by decide)]; omega
  · obtain ⟨p, x, y, q, rfl, rfl⟩ := cut2 a0 a1
    simp only [Int.toNat_natCast, g0, g1] at hd
    subst hd
    rw [s7 hs] at h h0
    rw [fin_of (fin_ok h0).1 (fin_ok h0).2] at h
    cases h
    have q := okB_iff.1 hs
    have := neg g' (q.2.2.2 g' (by simp)).1
    simp only [expo, expo_app]
    rw [if_neg (by decide), if_neg (by decide)]; omega
end Go.Proofs.Ytkjpldmelafooaa
