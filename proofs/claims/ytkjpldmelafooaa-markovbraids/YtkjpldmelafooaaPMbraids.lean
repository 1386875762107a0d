/- The plain law of MarkovBraids. -/
import Derived.Test.YtkjpldmelafooaaPMartin
import Derived.Test.YtkjpldmelafooaaPMinverse
set_option linter.unusedVariables false
set_option linter.unusedSimpArgs false
namespace Go.Proofs.Ytkjpldmelafooaa
open Ev
namespace Gar
section
variable {N : Nat}
def Lt (N : Nat) (x : Int) : Prop := x ≠ 0 ∧ -(N : Int) < x ∧ x < N
theorem Lt.neg {x : Int} (h : Lt N x) : Lt N (-x) := by unfold Lt at *; omega
theorem comm_neg {x y : Int} (hx : Lt N x) (h : BE N [x, y] [y, x]) : BE N [-x, y] [y, -x] := by
  have h1 : BE N ([-x] ++ [x, y] ++ [-x]) ([-x] ++ [y, x] ++ [-x]) := h.app [-x] [-x]
  have h2 : BE N [-x, x, y, -x] [y, -x] := by
    have := BE.one (N := N) (x := -x) hx.neg [] [y, -x]
    rwa [Int.neg_neg] at this
  have h3 : BE N [-x, y, x, -x] [-x, y] := BE.one (N := N) hx [-x, y] []
  exact h3.symm.trans (h1.symm.trans h2)
theorem comm_any {x y : Int} (hx : Lt N x) (hy : Lt N y) (h : x.natAbs + 1 < y.natAbs ∨ y.natAbs + 1 < x.natAbs) : BE N [x, y] [y, x] := by
  have pp : ∀ i j : Nat, 1 ≤ i → i < N → 1 ≤ j → j < N → (i + 1 < j ∨ j + 1 < i) → BE N [(i : Int), (j : Int)] [(j : Int), (i : Int)] := by
    intro i j h1 h2 h3 h4 h5
    rcases h5 with h5 | h5
    · exact BE.far [] [] h1 h2 h3 h4 h5
    · exact (BE.far [] [] h3 h4 h1 h2 h5).symm
  have np : ∀ (x : Int) (j : Nat), Lt N x → 1 ≤ j → j < N → (x.natAbs + 1 < j ∨ j + 1 < x.natAbs) → BE N [x, (j : Int)] [(j : Int), x] := by
    intro x j hx h3 h4 h5
    unfold Lt at hx
    have := pp x.natAbs j (by omega) (by omega) h3 h4 h5
    rcases (show x < 0 ∨ 0 ≤ x by omega) with hn | hn
    · have e : (x.natAbs : Int) = -x := by omega
      rw [e] at this
      have := comm_neg (N := N) (x := -x) (by unfold Lt; omega) this
      rwa [Int.neg_neg] at this
    · have e : (x.natAbs : Int) = x := by omega
      rwa [e] at this
  have hy' := hy
  unfold Lt at hy'
  have := np x y.natAbs hx (by omega) (by omega) h
  rcases (show y < 0 ∨ 0 ≤ y by omega) with hn | hn
  · have e : (y.natAbs : Int) = -y := by omega
    rw [e] at this
    have := comm_neg (N := N) (x := -y) (y := x) (by unfold Lt; omega) this.symm
    rw [Int.neg_neg] at this
    exact this.symm
  · have e : (y.natAbs : Int) = y := by omega
    rwa [e] at this
theorem braid_any {x y : Int} (hx : Lt N x) (hy : Lt N y) (h1 : 0 < x) (h2 : 0 < y) (h : x - y = 1 ∨ y - x = 1) : BE N [x, y, x] [y, x, y] := by
  unfold Lt at hx hy
  rcases h with h | h
  · have := BE.braid (N := N) [] [] (i := y.toNat) (by omega) (by omega)
    have e1 : ((y.toNat : Nat) : Int) = y := by omega
    have e2 : ((y.toNat + 1 : Nat) : Int) = x := by omega
    rw [e1, e2] at this
    exact this.symm
  · have := BE.braid (N := N) [] [] (i := x.toNat) (by omega) (by omega)
    have e1 : ((x.toNat : Nat) : Int) = x := by omega
    have e2 : ((x.toNat + 1 : Nat) : Int) = y := by omega
    rw [e1, e2] at this
    exact this
end

/-- Three neighbours, of one sign. -/
theorem triple_be {N : Nat} {x y : Int} (hx : Lt N x) (hy : Lt N y) (hs : 0 < x ↔ 0 < y) (h : x - y = 1 ∨ y - x = 1) : BE N [x, y, x] [y, x, y] := by
  by_cases hp : 0 < x
  · exact braid_any hx hy hp (hs.1 hp) h
  · have h1 := braid_any (N := N) (x := -x) (y := -y) hx.neg hy.neg (by unfold Lt at hx; omega) (by unfold Lt at hy; omega) (by omega)
    have r1 : Rg N [-x, -y, -x] := fun z hz => by
      unfold Lt at hx hy
      simp at hz
      omega
    have r2 : Rg N [-y, -x, -y] := fun z hz => by
      unfold Lt at hx hy
      simp at hz
      omega
    have := h1.neg r1 r2
    simpa [neg] using this
theorem be_step {s : Int} {w : List Int} {k g a : Int} {s' k' g' a' : Int} {w' : List Int} (h : stepS s w k g a = (s', w', k', g', a', 0)) (hk : 4 ≤ k) : s' = s ∧ BE s.toNat w w' ∧ w'.length ≤ w.length + 2 := by
  have h0 : (stepS s w k g a).2.2.2.2.2 = 0 := by rw [h]
  obtain ⟨hs, hc⟩ := step_cases h0
  obtain ⟨b1, b2, b3, hL⟩ := okB_iff.1 hs
  have lt : ∀ x ∈ w, Lt s.toNat x := fun x hx => by have := hL x hx; unfold Lt; omega
  rcases hc with (⟨rfl, -⟩ | ⟨rfl, -⟩ | ⟨rfl, -⟩ | ⟨rfl, -⟩) | (⟨rfl, hl, a0, a1⟩ | ⟨rfl, rfl, a0, a1, hd⟩ | ⟨rfl, rfl, a0, a1, hd⟩ | ⟨rfl, rfl, a0, a1, hd⟩)
  · exact absurd hk (by decide)
  · exact absurd hk (by decide)
  · exact absurd hk (by decide)
  · exact absurd hk (by decide)
  · obtain ⟨p, r, rfl, rfl⟩ := cut0 a0 a1
    rw [s6 hs hl] at h h0
    rw [fin_of (fin_ok h0).1 (fin_ok h0).2] at h
    cases h
    refine ⟨rfl, (BE.one (N := s.toNat) (by unfold isL at hl; omega) p r).symm, by simp; omega⟩
  · obtain ⟨p, x, y, r, rfl, rfl⟩ := cut2 a0 a1
    simp only [Int.toNat_natCast, g0, g1] at hd
    rw [s4 hs hd] at h h0
    rw [fin_of (fin_ok h0).1 (fin_ok h0).2] at h
    cases h
    refine ⟨rfl, ?_, by simp⟩
    have := (comm_any (lt x (by simp)) (lt y (by simp)) (by unfold ab at hd; omega)).app p r
    simpa using this
  · obtain ⟨p, x, y, z, r, rfl, rfl⟩ := cut3 a0 a1
    simp only [Int.toNat_natCast, g0, g1, g2] at hd
    obtain ⟨rfl, hd⟩ := hd
    rw [s5 hs hd] at h h0
    rw [fin_of (fin_ok h0).1 (fin_ok h0).2] at h
    cases h
    refine ⟨rfl, ?_, by simp⟩
    have := (triple_be (lt z (by simp)) (lt y (by simp)) hd.1 (by have := hd.2; unfold ab at this; omega)).app p r
    simpa using this
  · obtain ⟨p, x, y, r, rfl, rfl⟩ := cut2 a0 a1
    simp only [Int.toNat_natCast, g0, g1] at hd
    have hd2 : y = -x := hd
    subst hd2
    rw [s7 hs] at h h0
    rw [fin_of (fin_ok h0).1 (fin_ok h0).2] at h
    cases h
    refine ⟨rfl, BE.one (N := s.toNat) (by have := lt g' (by simp); exact this) p r, by simp; omega⟩
end Gar
open Gar in
theorem law36_MarkovBraids_true (z0 : Int) (x1 : List Int) (x2 : Int × (Int × Int)) (o0 : Ev.Sh.ok (.int .i64) z0) (o1 : Ev.Sh.ok (.sl (.int .i64)) x1) (o2 : Ev.Sh.ok (.pr (.int .i64) (.pr (.int .i64) (.int .i64))) x2) : ∃ n, F.law36_MarkovBraids n z0 x1 x2.1 x2.2.1 x2.2.2 = some true := by
  refine ⟨10000000, ?_⟩
  unfold F.law36_MarkovBraids
  have hg := i64_of o2.2.1
  obtain ⟨k, g, a⟩ := x2
  rw [awake36 _ (by decide), Option.bind_some]
  by_cases hl : 8 < (x1.length : Int)
  · rw [decide_eq_true hl]; rfl
  rw [decide_eq_false hl, Bool.not_true, cond_false, cond_false]
  by_cases hs : 4 < z0
  · rw [decide_eq_true hs]; rfl
  rw [decide_eq_false hs, cond_false]
  dsimp only
  by_cases hk : k < 4
  · rw [decide_eq_true hk]; rfl
  rw [decide_eq_false hk, cond_false, apply_eq _ (by omega) hg, Option.bind_some]
  rcases step_two z0 x1 k g a with ⟨e, he, hr⟩ | ⟨s', w', k', g', a', hr, h1, h2, h3, h4, h5⟩
  · rw [hr]
    show cond (!(decide (e = 0))) _ _ = _
    rw [decide_eq_false he]
    rfl
  · obtain ⟨rfl, hbe, hwl⟩ := be_step hr (by omega)
    rw [hr]
    dsimp only
    obtain ⟨a1, a2, a3, a4⟩ := okB_iff.1 h1
    obtain ⟨N, rfl⟩ : ∃ N : Nat, s' = (N : Int) := ⟨s'.toNat, by omega⟩
    rw [Int.toNat_natCast] at hbe
    have hR' : Rg N w' := fun x hx => (okB_iff.1 h2).2.2.2 x hx
    have hR : Rg N x1 := fun x hx => a4 x hx
    have hnv : okB (N : Int) (neg w') = true := okB_iff.2 ⟨a1, a2, by rw [neg_len]; omega, fun x hx => hR'.neg x hx⟩
    have hd : okB (N : Int) (x1 ++ neg w') = true := okB_iff.2 ⟨a1, a2, by rw [List.length_append, neg_len]; omega, fun x hx => (hR.app hR'.neg) x hx⟩
    rw [decide_eq_true rfl, Bool.not_true, cond_false, braidInverse h2 _ (by omega), Option.bind_some]
    dsimp only
    rw [braidMul h1 hnv (by rw [neg_len]; omega) _ (by omega), Option.bind_some]
    dsimp only
    rw [decide_eq_true rfl, cond_true, artinTrivial hd _ (by omega), triv_of_be (by omega) hd (by rw [List.length_append, neg_len]; omega) ((be_mul_neg hR').2 hbe)]
    rfl
end Go.Proofs.Ytkjpldmelafooaa
