/- The permutation of a braid; the moves that leave it. -/
import Derived.Test.YtkjpldmelafooaaPMexp
set_option linter.unusedVariables false
set_option linter.unusedSimpArgs false
namespace Go.Proofs.Ytkjpldmelafooaa
open Ev
/-- Two neighbours of a row change places. -/
def sw (q : List Int) (m : Nat) : List Int := (q.set m (q.getD (m + 1) 0)).set (m + 1) (q.getD m 0)
theorem sw_len (q : List Int) (m : Nat) : (sw q m).length = q.length := by simp [sw]
theorem getD_set {q : List Int} {m j : Nat} {x : Int} : (q.set m x).getD j 0 = if m = j ∧ j < q.length then x else q.getD j 0 := by
  rw [List.getD_eq_getElem?_getD, List.getD_eq_getElem?_getD, List.getElem?_set]
  by_cases h : m = j
  · subst h
    by_cases h2 : m < q.length
    · rw [if_pos rfl, if_pos h2, if_pos ⟨rfl, h2⟩]; rfl
    · rw [if_pos rfl, if_neg h2, if_neg (by omega), List.getElem?_eq_none (by omega)]
  · rw [if_neg h, if_neg (by omega)]
theorem sw_get {q : List Int} {m : Nat} (h : m + 1 < q.length) (j : Nat) : (sw q m).getD j 0 = if j = m then q.getD (m + 1) 0 else if j = m + 1 then q.getD m 0 else q.getD j 0 := by
  unfold sw
  rw [getD_set, getD_set, List.length_set]
  by_cases h1 : j = m
  · subst h1; rw [if_neg (by omega), if_pos ⟨rfl, by omega⟩, if_pos rfl]
  · by_cases h2 : j = m + 1
    · subst h2; rw [if_pos ⟨rfl, h⟩, if_neg h1, if_pos rfl]
    · rw [if_neg (by omega), if_neg (by omega), if_neg h1, if_neg h2]
theorem ext_d {u v : List Int} (hl : u.length = v.length) (h : ∀ j, u.getD j 0 = v.getD j 0) : u = v := by
  apply List.ext_getElem hl
  intro j h1 h2
  have := h j
  rw [List.getD_eq_getElem?_getD, List.getD_eq_getElem?_getD, List.getElem?_eq_getElem h1, List.getElem?_eq_getElem h2] at this
  exact this
theorem sw_sw {q : List Int} {m : Nat} (h : m + 1 < q.length) : sw (sw q m) m = q := by
  apply ext_d (by simp [sw_len])
  intro j
  rw [sw_get (by simpa [sw_len] using h), sw_get h, sw_get h, sw_get h]
  by_cases h1 : j = m
  · subst h1; simp
  · by_cases h2 : j = m + 1
    · subst h2; simp
    · simp [h1, h2]
theorem sw_far {q : List Int} {m l : Nat} (h : m + 1 < q.length) (hl : l + 1 < q.length) (hf : m + 1 < l ∨ l + 1 < m) : sw (sw q m) l = sw (sw q l) m := by
  apply ext_d (by simp [sw_len])
  intro j
  rw [sw_get (by simpa [sw_len] using hl), sw_get h, sw_get h, sw_get h, sw_get (by simpa [sw_len] using h), sw_get hl, sw_get hl, sw_get hl]
  by_cases h1 : j = m
  · subst h1; rw [if_neg (by omega), if_neg (by omega), if_pos rfl, if_pos rfl, if_neg (by omega), if_neg (by omega)]
  by_cases h2 : j = m + 1
  · subst h2; rw [if_neg (by omega), if_neg (by omega), if_neg (by omega), if_pos rfl, if_neg (by omega), if_pos rfl, if_neg (by omega), if_neg (by omega)]
  by_cases h3 : j = l
  · subst h3; rw [if_pos rfl, if_neg (by omega), if_neg (by omega), if_neg (by omega), if_neg (by omega), if_pos rfl]
  by_cases h4 : j = l + 1
  · subst h4; rw [if_neg (by omega), if_pos rfl, if_neg (by omega), if_neg (by omega), if_neg (by omega), if_neg (by omega), if_neg (by omega), if_pos rfl]
  rw [if_neg h3, if_neg h4, if_neg h1, if_neg h2, if_neg h1, if_neg h2, if_neg h3, if_neg h4]
theorem sw_near {q : List Int} {m : Nat} (h : m + 2 < q.length) : sw (sw (sw q m) (m + 1)) m = sw (sw (sw q (m + 1)) m) (m + 1) := by
  have a1 : m + 1 < q.length := by omega
  apply ext_d (by simp [sw_len])
  intro j
  have e : ∀ j, (sw (sw (sw q m) (m + 1)) m).getD j 0 = if j = m then q.getD (m + 2) 0 else if j = m + 1 then q.getD (m + 1) 0 else if j = m + 2 then q.getD m 0 else q.getD j 0 := by
    intro j
    simp only [sw_get (show m + 1 < (sw (sw q m) (m + 1)).length by simpa [sw_len] using a1), sw_get (show m + 1 + 1 < (sw q m).length by simpa [sw_len] using h), sw_get a1]
    by_cases h1 : j = m
    · subst h1; simp [show ¬ (j + 1 + 1 = j) by omega, show ¬ (j = j + 1 + 1) by omega]
    by_cases h2 : j = m + 1
    · subst h2; simp [show ¬ (m + 1 + 1 = m) by omega, show ¬ (m = m + 1 + 1) by omega]
    by_cases h3 : j = m + 2
    · subst h3; simp [show ¬ (m + 1 + 1 = m) by omega, show ¬ (m = m + 1 + 1) by omega, show ¬ (m + 2 = m) by omega]
    · simp [h1, h2, h3]
  have e' : ∀ j, (sw (sw (sw q (m + 1)) m) (m + 1)).getD j 0 = if j = m then q.getD (m + 2) 0 else if j = m + 1 then q.getD (m + 1) 0 else if j = m + 2 then q.getD m 0 else q.getD j 0 := by
    intro j
    simp only [sw_get (show m + 1 + 1 < (sw (sw q (m + 1)) m).length by simpa [sw_len] using h), sw_get (show m + 1 < (sw q (m + 1)).length by simpa [sw_len] using a1), sw_get (show m + 1 + 1 < q.length by omega)]
    by_cases h1 : j = m
    · subst h1; simp [show ¬ (j + 1 + 1 = j) by omega, show ¬ (j = j + 1 + 1) by omega]
    by_cases h2 : j = m + 1
    · subst h2; simp [show ¬ (m + 1 + 1 = m) by omega, show ¬ (m = m + 1 + 1) by omega]
    by_cases h3 : j = m + 2
    · subst h3; simp [show ¬ (m + 1 + 1 = m) by omega, show ¬ (m = m + 1 + 1) by omega, show ¬ (m + 2 = m) by omega]
    · simp [h1, h2, h3]
  rw [e, e']
def gm (x : Int) : Nat := (ab x - 1).toNat
/-- The row after a word. -/
def run (q : List Int) (w : List Int) : List Int := w.foldl (fun q x => sw q (gm x)) q
theorem run_app (q u w : List Int) : run q (u ++ w) = run (run q u) w := by simp [run, List.foldl_append]
theorem run_cons (q w : List Int) (x : Int) : run q (x :: w) = run (sw q (gm x)) w := rfl
theorem run_len (q w : List Int) : (run q w).length = q.length := by
  induction w generalizing q with
  | nil => rfl
  | cons x w ih => rw [run_cons, ih, sw_len]
def inL (s x : Int) : Prop := x ≠ 0 ∧ -s < x ∧ x < s
theorem gm_lt {s x : Int} (h : inL s x) : (gm x : Int) + 1 < s := by unfold gm ab; unfold inL at h; omega
/-- A step that is no Markov or conjugation step leaves the row. -/
theorem run_step {s : Int} {w : List Int} {k g a : Int} {s' k' g' a' : Int} {w' : List Int} (h : stepS s w k g a = (s', w', k', g', a', 0)) (hk : 4 ≤ k) {q : List Int} (hq : (q.length : Int) = s) :
    s' = s ∧ run q w' = run q w := by
  have h0 : (stepS s w k g a).2.2.2.2.2 = 0 := by rw [h]
  obtain ⟨hs, hc⟩ := step_cases h0
  have hL := (okB_iff.1 hs).2.2.2
  rcases hc with (⟨rfl, -⟩ | ⟨rfl, -⟩ | ⟨rfl, -⟩ | ⟨rfl, -⟩) | (⟨rfl, hl, a0, a1⟩ | ⟨rfl, rfl, a0, a1, hd⟩ | ⟨rfl, rfl, a0, a1, hd⟩ | ⟨rfl, rfl, a0, a1, hd⟩)
  · exact absurd hk (by decide)
  · exact absurd hk (by decide)
  · exact absurd hk (by decide)
  · exact absurd hk (by decide)
  · obtain ⟨p, r, rfl, rfl⟩ := cut0 a0 a1
    rw [s6 hs hl] at h h0
    rw [fin_of (fin_ok h0).1 (fin_ok h0).2] at h
    cases h
    refine ⟨rfl, ?_⟩
    have := gm_lt (x := g) hl
    have e : gm (-g) = gm g := by unfold gm ab; omega
    rw [run_app, run_app, run_cons, run_cons, e, sw_sw (by rw [run_len]; omega)]
  · obtain ⟨p, x, y, r, rfl, rfl⟩ := cut2 a0 a1
    simp only [Int.toNat_natCast, g0, g1] at hd
    rw [s4 hs hd] at h h0
    rw [fin_of (fin_ok h0).1 (fin_ok h0).2] at h
    cases h
    refine ⟨rfl, ?_⟩
    have b1 := gm_lt (s := s) (x := x) (hL x (by simp))
    have b2 := gm_lt (s := s) (x := y) (hL y (by simp))
    have c1 := (hL x (by simp)).1
    have c2 := (hL y (by simp)).1
    rw [run_app, run_app, run_cons, run_cons, run_cons, run_cons, sw_far (by rw [run_len]; omega) (by rw [run_len]; omega) (by unfold gm; unfold ab at hd ⊢; omega)]
  · obtain ⟨p, x, y, z, r, rfl, rfl⟩ := cut3 a0 a1
    simp only [Int.toNat_natCast, g0, g1, g2] at hd
    obtain ⟨rfl, hd⟩ := hd
    rw [s5 hs hd] at h h0
    rw [fin_of (fin_ok h0).1 (fin_ok h0).2] at h
    cases h
    refine ⟨rfl, ?_⟩
    have b1 := gm_lt (s := s) (x := z) (hL z (by simp))
    have b2 := gm_lt (s := s) (x := y) (hL y (by simp))
    have c1 := (hL z (by simp)).1
    have c2 := (hL y (by simp)).1
    rw [run_app, run_app]
    simp only [run_cons]
    have : gm y = gm z + 1 ∨ gm z = gm y + 1 := by unfold gm; unfold ab at hd ⊢; omega
    rcases this with e | e
    · rw [e, sw_near (by rw [run_len]; omega)]
    · rw [e, sw_near (by rw [run_len]; omega)]
  · obtain ⟨p, x, y, r, rfl, rfl⟩ := cut2 a0 a1
    simp only [Int.toNat_natCast, g0, g1] at hd
    subst hd
    rw [s7 hs] at h h0
    rw [fin_of (fin_ok h0).1 (fin_ok h0).2] at h
    cases h
    refine ⟨rfl, ?_⟩
    have b1 := gm_lt (s := s) (x := g') (hL g' (by simp))
    have e : gm (-g') = gm g' := by unfold gm ab; omega
    rw [run_app, run_app, run_cons, run_cons, e, sw_sw (by rw [run_len]; omega)]
end Go.Proofs.Ytkjpldmelafooaa
