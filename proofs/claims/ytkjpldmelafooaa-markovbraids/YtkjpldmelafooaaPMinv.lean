/- A step and its inverse step. -/
import Derived.Test.YtkjpldmelafooaaPMeq
set_option linter.unusedVariables false
set_option linter.unusedSimpArgs false
namespace Go.Proofs.Ytkjpldmelafooaa
open Ev
theorem fin_of {s : Int} {w : List Int} {k g a : Int} (h1 : s ≤ 10) (h2 : w.length ≤ 200) : fin s w k g a = (s, w, k, g, a, 0) := by
  unfold fin; rw [if_neg (by omega), if_neg (by omega)]
theorem fin_ok {s : Int} {w : List Int} {k g a : Int} (h : (fin s w k g a).2.2.2.2.2 = 0) : s ≤ 10 ∧ w.length ≤ 200 := by
  unfold fin at h
  split at h
  · exact absurd h (by decide)
  · split at h
    · exact absurd h (by decide)
    · omega
def EF (R : Ans) : Prop := (∃ e, R = er e) ∨ R.2.2.2.2.2 = 0
theorem EF_ite {c : Prop} [Decidable c] {A B : Ans} (h1 : EF A) (h2 : EF B) : EF (if c then A else B) := by
  by_cases h : c
  · rw [if_pos h]; exact h1
  · rw [if_neg h]; exact h2
theorem EF_er (e : Int) : EF (er e) := .inl ⟨e, rfl⟩
theorem EF_fin (s : Int) (w : List Int) (k g a : Int) : EF (fin s w k g a) := by
  unfold fin; exact EF_ite (EF_er _) (EF_ite (EF_er _) (.inr rfl))
theorem step_ef (s : Int) (w : List Int) (k g a : Int) : EF (stepS s w k g a) := by
  unfold stepS
  repeat' first | exact EF_er _ | exact EF_fin _ _ _ _ _ | apply EF_ite
theorem i1 {c : Prop} [Decidable c] {A : Ans} {e : Int} (he : e ≠ 0) (h : (if c then A else er e).2.2.2.2.2 = 0) : c ∧ A.2.2.2.2.2 = 0 := by
  by_cases hc : c
  · rw [if_pos hc] at h; exact ⟨hc, h⟩
  · rw [if_neg hc] at h; exact absurd h he
theorem i2 {c : Prop} [Decidable c] {A : Ans} {e : Int} (he : e ≠ 0) (h : (if c then er e else A).2.2.2.2.2 = 0) : ¬ c ∧ A.2.2.2.2.2 = 0 := by
  by_cases hc : c
  · rw [if_pos hc] at h; exact absurd h he
  · rw [if_neg hc] at h; exact ⟨hc, h⟩
theorem i3 {c : Prop} [Decidable c] {A B : Ans} (h : (if c then A else B).2.2.2.2.2 = 0) : (c ∧ A.2.2.2.2.2 = 0) ∨ (¬ c ∧ B.2.2.2.2.2 = 0) := by
  by_cases hc : c
  · rw [if_pos hc] at h; exact .inl ⟨hc, h⟩
  · rw [if_neg hc] at h; exact .inr ⟨hc, h⟩
def C3 (s : Int) (w : List Int) (k g a : Int) : Prop := (k = 1 ∧ isL s g ∧ a = 0) ∨ (k = 1 ∧ isL s g ∧ a = 1 ∧ 2 ≤ w.length ∧ w[0]? = some (-g) ∧ w[w.length - 1]? = some g) ∨ (k = 2 ∧ (g = 1 ∨ g = -1) ∧ a = 0)
  ∨ (k = 3 ∧ g = 0 ∧ a = 0 ∧ ok3 s w = true)
def C7 (s : Int) (w : List Int) (k g a : Int) : Prop := (k = 6 ∧ isL s g ∧ 0 ≤ a ∧ a ≤ w.length)
  ∨ (k = 4 ∧ g = 0 ∧ 0 ≤ a ∧ a + 1 < w.length ∧ 2 ≤ ab (ab (w.getD a.toNat 0) - ab (w.getD (a.toNat + 1) 0)))
  ∨ (k = 5 ∧ g = 0 ∧ 0 ≤ a ∧ a + 2 < w.length ∧ w.getD (a.toNat + 2) 0 = w.getD a.toNat 0 ∧ (0 < w.getD a.toNat 0 ↔ 0 < w.getD (a.toNat + 1) 0) ∧ ab (w.getD a.toNat 0 - w.getD (a.toNat + 1) 0) = 1)
  ∨ (k = 7 ∧ g = 0 ∧ 0 ≤ a ∧ a + 1 < w.length ∧ w.getD (a.toNat + 1) 0 = - w.getD a.toNat 0)
theorem step_cases {s : Int} {w : List Int} {k g a : Int} (h : (stepS s w k g a).2.2.2.2.2 = 0) : okB s w = true ∧ (C3 s w k g a ∨ C7 s w k g a) := by
  unfold stepS at h
  obtain ⟨hs, h⟩ := i2 (by decide) h
  refine ⟨by cases hq : okB s w with | true => rfl | false => exact absurd hq hs, ?_⟩
  obtain ⟨k1, h⟩ := i2 (by decide) h
  obtain ⟨k7, h⟩ := i2 (by decide) h
  rcases i3 h with ⟨kk, h⟩ | ⟨n1, h⟩
  · obtain ⟨hc, h⟩ := i1 (by decide) h
    rcases i3 h with ⟨a0, h⟩ | ⟨a0, h⟩
    · exact .inl (.inl ⟨kk, hc.1, a0⟩)
    · obtain ⟨hd, h⟩ := i1 (by decide) h
      exact .inl (.inr (.inl ⟨kk, hc.1, hc.2.resolve_left a0, hd⟩))
  rcases i3 h with ⟨kk, h⟩ | ⟨n2, h⟩
  · obtain ⟨hc, h⟩ := i1 (by decide) h
    exact .inl (.inr (.inr (.inl ⟨kk, hc⟩)))
  rcases i3 h with ⟨kk, h⟩ | ⟨n3, h⟩
  · obtain ⟨hc, h⟩ := i1 (by decide) h
    obtain ⟨hd, h⟩ := i1 (by decide) h
    exact .inl (.inr (.inr (.inr ⟨kk, hc.1, hc.2, hd⟩)))
  rcases i3 h with ⟨kk, h⟩ | ⟨n6, h⟩
  · obtain ⟨hc, h⟩ := i1 (by decide) h
    exact .inr (.inl ⟨kk, hc⟩)
  obtain ⟨hc, h⟩ := i1 (by decide) h
  rcases i3 h with ⟨kk, h⟩ | ⟨n4, h⟩
  · obtain ⟨hd, h⟩ := i1 (by decide) h
    exact .inr (.inr (.inl ⟨kk, hc.1, hc.2.1, hd⟩))
  rcases i3 h with ⟨kk, h⟩ | ⟨n5, h⟩
  · obtain ⟨hd, h⟩ := i1 (by decide) h
    exact .inr (.inr (.inr (.inl ⟨kk, hc.1, hc.2.1, hd⟩)))
  · obtain ⟨hd, h⟩ := i1 (by decide) h
    exact .inr (.inr (.inr (.inr ⟨by omega, hc.1, hc.2.1, hd⟩)))
section
variable {s : Int} {w : List Int} {g a : Int} (hs : okB s w = true)
include hs
theorem st1a (hl : isL s g) : stepS s w 1 g 0 = fin s (g :: (w ++ [-g])) 1 (-g) 1 := by
  unfold stepS; rw [if_neg (by simp [hs]), if_neg (by decide), if_neg (by decide), if_pos rfl, if_pos ⟨hl, .inl rfl⟩, if_pos rfl]
theorem st1b (hl : isL s g) (h : 2 ≤ w.length ∧ w[0]? = some (-g) ∧ w[w.length - 1]? = some g) : stepS s w 1 g 1 = fin s ((w.drop 1).take (w.length - 2)) 1 (-g) 0 := by
  unfold stepS; rw [if_neg (by simp [hs]), if_neg (by decide), if_neg (by decide), if_pos rfl, if_pos ⟨hl, .inr rfl⟩, if_neg (by decide), if_pos h]
theorem st2 (hg : g = 1 ∨ g = -1) : stepS s w 2 g 0 = fin (s + 1) (w ++ [g * s]) 3 0 0 := by
  unfold stepS; rw [if_neg (by simp [hs]), if_neg (by decide), if_neg (by decide), if_neg (by decide), if_pos rfl, if_pos ⟨hg, rfl⟩]
theorem st3 (h : ok3 s w = true) : stepS s w 3 0 0 = fin (s - 1) (w.take (w.length - 1)) 2 (if (w.getD (w.length - 1) 0) < 0 then -1 else 1) 0 := by
  unfold stepS; rw [if_neg (by simp [hs]), if_neg (by decide), if_neg (by decide), if_neg (by decide), if_neg (by decide), if_pos rfl, if_pos ⟨rfl, rfl⟩, if_pos h]
theorem st6 (h : isL s g ∧ 0 ≤ a ∧ a ≤ w.length) : stepS s w 6 g a = fin s (w.take a.toNat ++ [g, -g] ++ w.drop a.toNat) 7 0 a := by
  unfold stepS; rw [if_neg (by simp [hs]), if_neg (by decide), if_neg (by decide), if_neg (by decide), if_neg (by decide), if_neg (by decide), if_pos rfl, if_pos h]
theorem st4 (h0 : 0 ≤ a) (h : a + 1 < w.length ∧ 2 ≤ ab (ab (w.getD a.toNat 0) - ab (w.getD (a.toNat + 1) 0))) : stepS s w 4 0 a = fin s (w.take a.toNat ++ [w.getD (a.toNat + 1) 0, w.getD a.toNat 0] ++ w.drop (a.toNat + 2)) 4 0 a := by
  unfold stepS; rw [if_neg (by simp [hs]), if_neg (by decide), if_neg (by decide), if_neg (by decide), if_neg (by decide), if_neg (by decide), if_neg (by decide), if_pos ⟨rfl, h0, by omega⟩, if_pos rfl, if_pos h]
theorem st5 (h0 : 0 ≤ a) (h : a + 2 < w.length ∧ w.getD (a.toNat + 2) 0 = w.getD a.toNat 0 ∧ (0 < w.getD a.toNat 0 ↔ 0 < w.getD (a.toNat + 1) 0) ∧ ab (w.getD a.toNat 0 - w.getD (a.toNat + 1) 0) = 1) :
    stepS s w 5 0 a = fin s (w.take a.toNat ++ [w.getD (a.toNat + 1) 0, w.getD a.toNat 0, w.getD (a.toNat + 1) 0] ++ w.drop (a.toNat + 3)) 5 0 a := by
  unfold stepS; rw [if_neg (by simp [hs]), if_neg (by decide), if_neg (by decide), if_neg (by decide), if_neg (by decide), if_neg (by decide), if_neg (by decide), if_pos ⟨rfl, h0, by omega⟩, if_neg (by decide), if_pos rfl, if_pos h]
theorem st7 (h0 : 0 ≤ a) (h : a + 1 < w.length ∧ w.getD (a.toNat + 1) 0 = - w.getD a.toNat 0) : stepS s w 7 0 a = fin s (w.take a.toNat ++ w.drop (a.toNat + 2)) 6 (w.getD a.toNat 0) a := by
  unfold stepS; rw [if_neg (by simp [hs]), if_neg (by decide), if_neg (by decide), if_neg (by decide), if_neg (by decide), if_neg (by decide), if_neg (by decide), if_pos ⟨rfl, h0, by omega⟩, if_neg (by decide), if_neg (by decide), if_pos h]
end
theorem okB_mk {s : Int} {w : List Int} (h1 : 1 ≤ s ∧ s ≤ 10) (h2 : w.length ≤ 200) (h3 : ∀ x ∈ w, x ≠ 0 ∧ -s < x ∧ x < s) : okB s w = true := okB_iff.2 ⟨h1.1, h1.2, h2, h3⟩
/-- Undone: the answer is a valid braid, and the inverse step gives the first braid back. -/
def Und (s : Int) (w : List Int) (k g a : Int) (R : Ans) : Prop := okB R.1 R.2.1 = true ∧ stepS R.1 R.2.1 R.2.2.1 R.2.2.2.1 R.2.2.2.2.1 = (s, w, k, g, a, 0)
section
variable {s : Int} {w : List Int} {g a : Int} (hs : okB s w = true)
include hs
theorem un1a (hl : isL s g) (h : (stepS s w 1 g 0).2.2.2.2.2 = 0) : Und s w 1 g 0 (stepS s w 1 g 0) := by
  obtain ⟨h1, h2, h3, h4⟩ := okB_iff.1 hs
  rw [st1a hs hl] at h ⊢
  obtain ⟨q1, q2⟩ := fin_ok h
  rw [fin_of q1 q2]
  have ok : okB s (g :: (w ++ [-g])) = true := okB_mk ⟨h1, h2⟩ q2 (fun x hx => by
    simp only [List.mem_cons, List.mem_append, List.not_mem_nil, or_false] at hx
    unfold isL at hl
    rcases hx with rfl | hx | rfl
    · exact hl
    · exact h4 x hx
    · omega)
  refine ⟨ok, ?_⟩
  dsimp only
  rw [st1b ok (by unfold isL at hl ⊢; omega) ⟨by simp, by simp, by simp⟩]
  have e : ((g :: (w ++ [-g])).drop 1).take ((g :: (w ++ [-g])).length - 2) = w := by simp
  rw [e, fin_of h2 h3, Int.neg_neg]
theorem un1b (hl : isL s g) (hd : 2 ≤ w.length ∧ w[0]? = some (-g) ∧ w[w.length - 1]? = some g) (h : (stepS s w 1 g 1).2.2.2.2.2 = 0) : Und s w 1 g 1 (stepS s w 1 g 1) := by
  obtain ⟨h1, h2, h3, h4⟩ := okB_iff.1 hs
  rw [st1b hs hl hd] at h ⊢
  obtain ⟨q1, q2⟩ := fin_ok h
  rw [fin_of q1 q2]
  have e : -g :: ((w.drop 1).take (w.length - 2) ++ [g]) = w := by
    obtain ⟨d1, d2, d3⟩ := hd
    match w, d1, d2, d3 with
    | x :: t, d1, d2, d3 =>
      have : x = -g := by simpa using d2
      subst this
      have hne : t ≠ [] := by intro h; subst h; simp at d1
      have d4 : t.getLast? = some g := by
        rw [List.getLast?_eq_getElem?]
        simp only [List.length_cons, Nat.add_sub_cancel] at d3
        obtain ⟨m, hm⟩ : ∃ m, t.length = m + 1 := ⟨t.length - 1, by have : t.length ≠ 0 := by simpa using hne
                                                                    omega⟩
        rw [hm] at d3 ⊢; simpa using d3
      have : t = t.dropLast ++ [g] := by
        rw [List.getLast?_eq_some_getLast hne] at d4
        have d5 : t.getLast hne = g := by simpa using d4
        rw [← d5, List.dropLast_concat_getLast]
      rw [List.dropLast_eq_take] at this
      simp only [List.drop_succ_cons, List.drop_zero, List.length_cons]
      rw [show t.length + 1 - 2 = t.length - 1 by omega, ← this]
  have ok : okB s ((w.drop 1).take (w.length - 2)) = true := okB_mk ⟨h1, h2⟩ q2 (fun x hx => h4 x (List.mem_of_mem_drop (List.mem_of_mem_take hx)))
  refine ⟨ok, ?_⟩
  dsimp only
  rw [st1a ok (by unfold isL at hl ⊢; omega), Int.neg_neg, e, fin_of h2 h3]
theorem un2 (hg : g = 1 ∨ g = -1) (h : (stepS s w 2 g 0).2.2.2.2.2 = 0) : Und s w 2 g 0 (stepS s w 2 g 0) := by
  obtain ⟨h1, h2, h3, h4⟩ := okB_iff.1 hs
  rw [st2 hs hg] at h ⊢
  obtain ⟨q1, q2⟩ := fin_ok h
  rw [fin_of q1 q2]
  have hv : g * s = s ∨ g * s = -s := by rcases hg with rfl | rfl <;> simp
  have ok : okB (s + 1) (w ++ [g * s]) = true := okB_mk ⟨by omega, q1⟩ q2 (fun x hx => by
    simp only [List.mem_append, List.mem_cons, List.not_mem_nil, or_false] at hx
    rcases hx with hx | rfl
    · have := h4 x hx; omega
    · omega)
  refine ⟨ok, ?_⟩
  dsimp only
  have hlast : (w ++ [g * s]).getD ((w ++ [g * s]).length - 1) 0 = g * s := by simp
  have htake : (w ++ [g * s]).take ((w ++ [g * s]).length - 1) = w := by simp
  have o3 : ok3 (s + 1) (w ++ [g * s]) = true := ok3_iff.2 ⟨by omega, by simp, by rw [hlast]; unfold ab; omega, by
    rw [htake]; intro x hx; have := h4 x hx; unfold ab; omega⟩
  rw [st3 ok o3, hlast, htake, show s + 1 - 1 = s by omega, fin_of h2 h3]
  have : (if g * s < 0 then (-1 : Int) else 1) = g := by
    rcases hg with rfl | rfl
    · rw [if_neg (by omega)]
    · rw [if_pos (by omega)]
  rw [this]
theorem un3 (hd : ok3 s w = true) (h : (stepS s w 3 0 0).2.2.2.2.2 = 0) : Und s w 3 0 0 (stepS s w 3 0 0) := by
  obtain ⟨h1, h2, h3, h4⟩ := okB_iff.1 hs
  rw [st3 hs hd] at h ⊢
  obtain ⟨q1, q2⟩ := fin_ok h
  rw [fin_of q1 q2]
  obtain ⟨d1, d2, d3, d4⟩ := ok3_iff.1 hd
  have ok : okB (s - 1) (w.take (w.length - 1)) = true := okB_mk ⟨by omega, by omega⟩ q2 (fun x hx => by
    have a1 := h4 x (List.mem_of_mem_take hx)
    have a2 := d4 x hx
    unfold ab at a2
    omega)
  refine ⟨ok, ?_⟩
  dsimp only
  rw [st2 ok (by split <;> simp)]
  have e : (if w.getD (w.length - 1) 0 < 0 then (-1 : Int) else 1) * (s - 1) = w.getD (w.length - 1) 0 := by
    unfold ab at d3
    split <;> omega
  have e2 : w.take (w.length - 1) ++ [w.getD (w.length - 1) 0] = w := by
    have := List.take_add_one (l := w) (i := w.length - 1)
    rw [show w.length - 1 + 1 = w.length by omega, List.take_length, getD_of (show w.length - 1 < w.length by omega)] at this
    exact this.symm
  rw [e, e2, show s - 1 + 1 = s by omega, fin_of h2 h3]
end
theorem split2 {w : List Int} {m : Nat} (h : m + 1 < w.length) : w = w.take m ++ w.getD m 0 :: w.getD (m + 1) 0 :: w.drop (m + 2) := by
  have h1 : w.drop m = w.getD m 0 :: w.drop (m + 1) := by rw [drop_step (show m < w.length by omega)]; congr 1; simp [List.getD_eq_getElem?_getD, show m < w.length by omega]
  have h2 : w.drop (m + 1) = w.getD (m + 1) 0 :: w.drop (m + 2) := by rw [drop_step h]; congr 1; simp [List.getD_eq_getElem?_getD, h]
  rw [← h2, ← h1, List.take_append_drop]
theorem split3 {w : List Int} {m : Nat} (h : m + 2 < w.length) : w = w.take m ++ w.getD m 0 :: w.getD (m + 1) 0 :: w.getD (m + 2) 0 :: w.drop (m + 3) := by
  have h1 := split2 (w := w) (m := m) (by omega)
  have h2 : w.drop (m + 2) = w.getD (m + 2) 0 :: w.drop (m + 3) := by rw [drop_step h]; congr 1; simp [List.getD_eq_getElem?_getD, h]
  rw [← h2, ← h1]
theorem g0 {p q : List Int} {x : Int} : (p ++ x :: q).getD p.length 0 = x := by simp [List.getD_eq_getElem?_getD]
theorem g1 {p q : List Int} {x y : Int} : (p ++ x :: y :: q).getD (p.length + 1) 0 = y := by simp [List.getD_eq_getElem?_getD]
theorem g2 {p q : List Int} {x y z : Int} : (p ++ x :: y :: z :: q).getD (p.length + 2) 0 = z := by simp [List.getD_eq_getElem?_getD]
theorem t0 {p q : List Int} : (p ++ q).take p.length = p := by simp
theorem d2 {p q : List Int} {x y : Int} : (p ++ x :: y :: q).drop (p.length + 2) = q := by
  rw [List.drop_append, List.drop_eq_nil_of_le (by omega), show p.length + 2 - p.length = 2 by omega]; rfl
theorem d3 {p q : List Int} {x y z : Int} : (p ++ x :: y :: z :: q).drop (p.length + 3) = q := by
  rw [List.drop_append, List.drop_eq_nil_of_le (by omega), show p.length + 3 - p.length = 3 by omega]; rfl
theorem d0 {p q : List Int} : (p ++ q).drop p.length = q := by simp
theorem cut2 {w : List Int} {a : Int} (h0 : 0 ≤ a) (h : a + 1 < w.length) : ∃ (p : List Int) (x y : Int) (q : List Int), w = p ++ x :: y :: q ∧ a = (p.length : Int) :=
  ⟨_, _, _, _, split2 (m := a.toNat) (by omega), by rw [List.length_take]; omega⟩
theorem cut3 {w : List Int} {a : Int} (h0 : 0 ≤ a) (h : a + 2 < w.length) : ∃ (p : List Int) (x y z : Int) (q : List Int), w = p ++ x :: y :: z :: q ∧ a = (p.length : Int) :=
  ⟨_, _, _, _, _, split3 (m := a.toNat) (by omega), by rw [List.length_take]; omega⟩
theorem cut0 {w : List Int} {a : Int} (h0 : 0 ≤ a) (h : a ≤ w.length) : ∃ (p q : List Int), w = p ++ q ∧ a = (p.length : Int) :=
  ⟨_, _, (List.take_append_drop a.toNat w).symm, by rw [List.length_take]; omega⟩
theorem s4 {s x y : Int} {p q : List Int} (hs : okB s (p ++ x :: y :: q) = true) (h : 2 ≤ ab (ab x - ab y)) : stepS s (p ++ x :: y :: q) 4 0 (p.length : Int) = fin s (p ++ y :: x :: q) 4 0 (p.length : Int) := by
  rw [st4 hs (by omega) ⟨by simp; omega, by simpa only [Int.toNat_natCast, g0, g1] using h⟩]
  simp only [Int.toNat_natCast, g0, g1, t0, d2, List.append_assoc, List.cons_append, List.nil_append]
theorem s5 {s x y : Int} {p q : List Int} (hs : okB s (p ++ x :: y :: x :: q) = true) (h : (0 < x ↔ 0 < y) ∧ ab (x - y) = 1) : stepS s (p ++ x :: y :: x :: q) 5 0 (p.length : Int) = fin s (p ++ y :: x :: y :: q) 5 0 (p.length : Int) := by
  rw [st5 hs (by omega) ⟨by simp; omega, by simpa only [Int.toNat_natCast, g0, g1, g2, true_and] using h⟩]
  simp only [Int.toNat_natCast, g0, g1, t0, d3, List.append_assoc, List.cons_append, List.nil_append]
theorem s6 {s g : Int} {p q : List Int} (hs : okB s (p ++ q) = true) (h : isL s g) : stepS s (p ++ q) 6 g (p.length : Int) = fin s (p ++ g :: -g :: q) 7 0 (p.length : Int) := by
  rw [st6 hs ⟨h, by omega, by simp; omega⟩]
  simp only [Int.toNat_natCast, t0, d0, List.append_assoc, List.cons_append, List.nil_append]
theorem s7 {s x : Int} {p q : List Int} (hs : okB s (p ++ x :: -x :: q) = true) : stepS s (p ++ x :: -x :: q) 7 0 (p.length : Int) = fin s (p ++ q) 6 x (p.length : Int) := by
  rw [st7 hs (by omega) ⟨by simp; omega, by simp only [Int.toNat_natCast, g0, g1]⟩]
  simp only [Int.toNat_natCast, g0, t0, d2]
theorem okB_sub {s : Int} {u w : List Int} (hs : okB s w = true) (hl : u.length ≤ 200) (h : ∀ x ∈ u, x ∈ w) : okB s u = true := by
  obtain ⟨h1, h2, h3, h4⟩ := okB_iff.1 hs
  exact okB_mk ⟨h1, h2⟩ hl fun x hx => h4 x (h x hx)
theorem un7 {s : Int} {w : List Int} {k g a : Int} (hs : okB s w = true) (hc : C7 s w k g a) (h : (stepS s w k g a).2.2.2.2.2 = 0) : Und s w k g a (stepS s w k g a) := by
  obtain ⟨h1, h2, h3, h4⟩ := okB_iff.1 hs
  rcases hc with ⟨rfl, hl, a0, a1⟩ | ⟨rfl, rfl, a0, a1, hd⟩ | ⟨rfl, rfl, a0, a1, hd⟩ | ⟨rfl, rfl, a0, a1, hd⟩
  · obtain ⟨p, q, rfl, rfl⟩ := cut0 a0 a1
    rw [s6 hs hl] at h ⊢
    obtain ⟨q1, q2⟩ := fin_ok h
    rw [fin_of q1 q2]
    have ok : okB s (p ++ g :: -g :: q) = true := okB_mk ⟨h1, h2⟩ q2 (fun x hx => by
      simp only [List.mem_append, List.mem_cons] at hx h4
      unfold isL at hl
      rcases hx with hx | rfl | rfl | hx
      · exact h4 x (.inl hx)
      · exact hl
      · omega
      · exact h4 x (.inr hx))
    exact ⟨ok, by dsimp only; rw [s7 ok, fin_of h2 h3]⟩
  · obtain ⟨p, x, y, q, rfl, rfl⟩ := cut2 a0 a1
    simp only [Int.toNat_natCast, g0, g1] at hd
    rw [s4 hs hd] at h ⊢
    obtain ⟨q1, q2⟩ := fin_ok h
    rw [fin_of q1 q2]
    have ok : okB s (p ++ y :: x :: q) = true := okB_sub hs q2 (fun z hz => by
      simp only [List.mem_append, List.mem_cons] at hz ⊢
      rcases hz with hz | hz | hz | hz <;> simp [hz])
    exact ⟨ok, by dsimp only; rw [s4 ok (by unfold ab at hd ⊢; omega), fin_of h2 h3]⟩
  · obtain ⟨p, x, y, z, q, rfl, rfl⟩ := cut3 a0 a1
    simp only [Int.toNat_natCast, g0, g1, g2] at hd
    obtain ⟨rfl, hd⟩ := hd
    rw [s5 hs hd] at h ⊢
    obtain ⟨q1, q2⟩ := fin_ok h
    rw [fin_of q1 q2]
    have ok : okB s (p ++ y :: z :: y :: q) = true := okB_sub hs q2 (fun x hz => by
      simp only [List.mem_append, List.mem_cons] at hz ⊢
      rcases hz with hz | hz | hz | hz | hz <;> simp [hz])
    exact ⟨ok, by dsimp only; rw [s5 ok (by unfold ab at hd ⊢; omega), fin_of h2 h3]⟩
  · obtain ⟨p, x, y, q, rfl, rfl⟩ := cut2 a0 a1
    simp only [Int.toNat_natCast, g0, g1] at hd
    subst hd
    rw [s7 hs] at h ⊢
    obtain ⟨q1, q2⟩ := fin_ok h
    rw [fin_of q1 q2]
    have ok : okB s (p ++ q) = true := okB_sub hs q2 (fun z hz => by
      simp only [List.mem_append, List.mem_cons] at hz ⊢
      rcases hz with hz | hz <;> simp [hz])
    exact ⟨ok, by dsimp only; rw [s6 ok (h4 x (by simp)), fin_of h2 h3]⟩
theorem step_und {s : Int} {w : List Int} {k g a : Int} (h : (stepS s w k g a).2.2.2.2.2 = 0) : Und s w k g a (stepS s w k g a) := by
  obtain ⟨hs, hc | hc⟩ := step_cases h
  · rcases hc with ⟨rfl, hl, rfl⟩ | ⟨rfl, hl, rfl, hd⟩ | ⟨rfl, hg, rfl⟩ | ⟨rfl, rfl, rfl, hd⟩
    · exact un1a hs hl h
    · exact un1b hs hl hd h
    · exact un2 hs hg h
    · exact un3 hs hd h
  · exact un7 hs hc h
end Go.Proofs.Ytkjpldmelafooaa
