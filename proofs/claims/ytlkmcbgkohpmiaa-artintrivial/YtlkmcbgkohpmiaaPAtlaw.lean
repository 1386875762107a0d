/- The plain law of ArtinTrivial. -/
import Derived.Test.YtlkmcbgkohpmiaaPAtriv
set_option linter.unusedVariables false
set_option linter.unusedSimpArgs false
namespace Go.Proofs.Ytlkmcbgkohpmiaa
open Ev Gar
theorem law35_ArtinTrivial_true (x0 : Int × List Int) (x1 : Int × List Int) (o0 : Ev.Sh.ok (.pr (.int .i64) (.sl (.int .i64))) x0) (o1 : Ev.Sh.ok (.pr (.int .i64) (.sl (.int .i64))) x1) : ∃ n, F.law35_ArtinTrivial n x0.1 x0.2 x1.1 x1.2 = some true := by
  refine ⟨10000000000, ?_⟩
  obtain ⟨s, w⟩ := x0
  obtain ⟨s', w'⟩ := x1
  dsimp only
  unfold F.law35_ArtinTrivial
  rw [awake35, Option.bind_some, Bool.not_true, cond_false, great_eq, Option.bind_some]
  by_cases hg : 14 < w.length ∨ (5 < s ∧ s ≤ 10)
  · rw [decide_eq_true hg]; rfl
  rw [decide_eq_false hg, cond_false, great_eq, Option.bind_some]
  by_cases hg' : 14 < w'.length ∨ (5 < s' ∧ s' ≤ 10)
  · rw [decide_eq_true hg']; rfl
  rw [decide_eq_false hg', cond_false, braidValid' _ (by omega), Option.bind_some]
  cases hv : okB s w with
  | false =>
    rw [Bool.not_false, cond_true]
    unfold F.artin_Trivial
    rw [artinImages_bad hv _ (by omega)]
    rfl
  | true =>
    obtain ⟨a1, a2, a3, a4⟩ := okB_iff.1 hv
    obtain ⟨N, rfl⟩ : ∃ N : Nat, s = (N : Int) := ⟨s.toNat, by omega⟩
    have hN : N ≤ 5 := by omega
    obtain ⟨r, r1, r2⟩ := same_iff (N := N) hv (okB_nil (by omega)) 10000000000 (by omega)
    have ht := trivA_iff hN hv (by omega)
    rw [Bool.not_true, cond_false, artinTrivial hv _ (by omega), Option.bind_some, r1, Option.bind_some, iff_beq (ht.trans r2.symm), Bool.not_true, cond_false]
    cases hv' : okB s' w' with
    | false =>
      have hi : F.braid_Inverse 10000000000 s' w' = some (0, []) := by
        unfold F.braid_Inverse
        rw [braidValid' _ (by omega), hv']; rfl
      rw [hi, Option.bind_some]
      dsimp only
      have hm : F.braid_Mul 10000000000 (N : Int) w 0 [] = some (0, [], 1) := by
        unfold F.braid_Mul
        rw [braidValid' _ (by omega), hv, Option.bind_some, Bool.not_true, cond_false, braidValid' _ (by omega)]
        rfl
      rw [hm]; rfl
    | true =>
      obtain ⟨b1, b2, b3, b4⟩ := okB_iff.1 hv'
      have hnv : okB s' (neg w') = true := by
        have hR := (okB_rg hv').neg
        obtain ⟨M, rfl⟩ : ∃ M : Nat, s' = (M : Int) := ⟨s'.toNat, by omega⟩
        rw [Int.toNat_natCast] at hR
        exact okB_iff.2 ⟨b1, b2, by rw [neg_len]; exact b3, fun x hx => hR x hx⟩
      rw [braidInverse hv' _ (by omega), Option.bind_some]
      dsimp only
      by_cases hs : (N : Int) = s'
      · subst hs
        have hR' : Rg N w' := fun x hx => b4 x hx
        have hR : Rg N w := fun x hx => a4 x hx
        have hd : okB (N : Int) (w ++ neg w') = true := okB_iff.2 ⟨a1, a2, by rw [List.length_append, neg_len]; omega, fun x hx => (hR.app hR'.neg) x hx⟩
        rw [braidMul hv hnv (by rw [neg_len]; omega) _ (by omega), Option.bind_some]
        dsimp only
        rw [decide_eq_true rfl, Bool.not_true, cond_false]
        by_cases hl : 20 < (w ++ neg w').length
        · rw [decide_eq_true (by omega)]; rfl
        rw [decide_eq_false (by omega), cond_false, artinTrivial hd _ (by omega), Option.bind_some]
        obtain ⟨q, q1, q2⟩ := same_iff (N := N) hv hv' 10000000000 (by omega)
        rw [q1, Option.bind_some, iff_beq (((trivA_iff hN hd (by omega)).trans (be_mul_neg hR')).trans q2.symm)]
      · have hm : F.braid_Mul 10000000000 (N : Int) w s' (neg w') = some (0, [], 2) := by
          unfold F.braid_Mul
          rw [braidValid' _ (by omega), hv, Option.bind_some, Bool.not_true, cond_false, braidValid' _ (by omega), hnv, Option.bind_some, Bool.not_true, cond_false, decide_eq_false hs]
          rfl
        rw [hm]; rfl
end Go.Proofs.Ytlkmcbgkohpmiaa
