/- The plain law of ArtinActs. -/
import Derived.Test.YtlkmcbgkohpmiaaPAart
set_option linter.unusedVariables false
set_option linter.unusedSimpArgs false
namespace Go.Proofs.Ytlkmcbgkohpmiaa
open Ev
namespace Gar
theorem awake35 : F.law35_awake 10000000000 = some true := by decide +kernel
theorem refBraid {s : Int} {w : List Int} (n : Nat) (hn : w.length < n) : F.ref33_Valid n s w = some (okB s w) := by
  unfold F.ref33_Valid
  by_cases h1 : s < 1
  · rw [decide_eq_true h1]; simp [okB]; omega
  rw [decide_eq_false h1]
  by_cases h2 : 10 < s
  · rw [decide_eq_true h2]; simp [okB]; omega
  rw [decide_eq_false h2]
  by_cases h3 : (200 : Int) < (w.length : Int)
  · rw [decide_eq_true h3]; simp [okB]; omega
  rw [decide_eq_false h3]
  simp only [cond_false]
  have hok : okB s w = okW s w := by
    unfold okB; rw [decide_eq_true (show 1 ≤ s by omega), decide_eq_true (show s ≤ 10 by omega), decide_eq_true (show w.length ≤ 200 by omega)]; simp
  rw [hok]
  refine allLoop (q := fun v => okW s v) (by rfl) n hn (fun k x hx => ?_) ?_
  · have hk := (List.getElem?_eq_some_iff.1 hx).1
    have hd : okW s (w.drop k) = (decide (x ≠ 0) && (decide (-s < x) && decide (x < s)) && okW s (w.drop (k + 1))) := by
      obtain ⟨hk, rfl⟩ := List.getElem?_eq_some_iff.1 hx
      unfold okW; rw [drop_step hk, List.all_cons]
    rw [hd]
    unfold F.ref33_Valid_b0
    dsimp only
    rw [decide_eq_true (show (k : Int) < (w.length : Int) by omega), cond_true, get_at rfl hx, Option.bind_some, Option.bind_some, Option.bind_some]
    by_cases c1 : x = 0
    · right; rw [decide_eq_true c1, cond_true, decide_eq_false (show ¬ x ≠ 0 from fun h => h c1)]; exact ⟨rfl, rfl⟩
    rw [decide_eq_false c1, cond_false, decide_eq_true (show x ≠ 0 from c1)]
    by_cases c2 : s ≤ x
    · right; rw [decide_eq_true c2, cond_true, decide_eq_false (show ¬ x < s by omega)]; exact ⟨by simp, rfl⟩
    rw [decide_eq_false c2, cond_false, decide_eq_true (show x < s by omega), chk_ok (by omega) (by omega), Option.bind_some]
    by_cases c3 : x ≤ -s
    · right; rw [decide_eq_true c3, cond_true, decide_eq_false (show ¬ -s < x by omega)]; exact ⟨by simp, rfl⟩
    left
    rw [decide_eq_false c3, cond_false, decide_eq_true (show -s < x by omega), chk_ok (by omega) (by omega)]
    exact ⟨by simp, rfl⟩
  · unfold F.ref33_Valid_b0
    dsimp only
    rw [decide_eq_false (by omega)]; rfl
theorem refInts {a b : List Int} (n : Nat) (hn : a.length < n) (hl : a.length ≤ 100000000) : F.ref01_Ints n a b = some (decide (a = b)) := by
  unfold F.ref01_Ints
  by_cases h : a.length = b.length
  · rw [decide_eq_true (by omega), Bool.not_true, cond_false]
    refine eqList n h hn (fun k x y hx hy => ?_) ?_
    · have hk := (List.getElem?_eq_some_iff.1 hx).1
      unfold F.ref01_Ints_b0
      dsimp only
      rw [decide_eq_true (by omega), cond_true, get_at rfl hx, Option.bind_some, get_at rfl hy, Option.bind_some]
      by_cases e : x = y
      · left; rw [decide_eq_true e, Bool.not_true, cond_false, chk_ok (by omega) (by omega)]; exact ⟨e, rfl⟩
      · right; rw [decide_eq_false e]; exact ⟨e, rfl⟩
    · unfold F.ref01_Ints_b0
      dsimp only
      rw [decide_eq_false (by omega)]; rfl
  · rw [decide_eq_false (by omega)]
    rw [decide_eq_false (fun e => h (by rw [e]))]; rfl
theorem great_eq (n : Nat) (s : Int) (w : List Int) : F.law35_great n s w = some (decide (14 < w.length ∨ (5 < s ∧ s ≤ 10))) := by
  unfold F.law35_great
  by_cases h1 : 14 < w.length
  · rw [decide_eq_true (show (14 : Int) < (w.length : Int) by omega), decide_eq_true (show 14 < w.length ∨ (5 < s ∧ s ≤ 10) from .inl h1)]; rfl
  rw [decide_eq_false (show ¬ (14 : Int) < (w.length : Int) by omega), cond_false]
  by_cases h2 : 5 < s
  · rw [decide_eq_true h2, cond_true]
    by_cases h3 : s ≤ 10
    · rw [decide_eq_true h3, decide_eq_true (show 14 < w.length ∨ (5 < s ∧ s ≤ 10) from .inr ⟨h2, h3⟩)]
    · rw [decide_eq_false h3, decide_eq_false (show ¬ (14 < w.length ∨ (5 < s ∧ s ≤ 10)) by omega)]
  · rw [decide_eq_false h2, cond_false, decide_eq_false (show ¬ (14 < w.length ∨ (5 < s ∧ s ≤ 10)) by omega)]
theorem fact_len : ∀ (w u : List Int), afull w u = false → (fact w u).length ≤ 20000
  | [], u, h => by
    have := of_decide_eq_false h
    show u.length ≤ 20000
    omega
  | x :: w, u, h => by
    have h2 : afull w (ird (isub x u)) = false := by
      have : (decide (20000 < u.length) || afull w (ird (isub x u))) = false := h
      rw [Bool.or_eq_false_iff] at this
      exact this.2
    exact fact_len w _ h2
end Gar
open Gar in
theorem law35_ArtinActs_true (x0 : Int × List Int) (x1 : List Int) (o0 : Ev.Sh.ok (.pr (.int .i64) (.sl (.int .i64))) x0) (o1 : Ev.Sh.ok (.sl (.int .i64)) x1) : ∃ n, F.law35_ArtinActs n x0.1 x0.2 x1 = some true := by
  refine ⟨10000000000, ?_⟩
  obtain ⟨s, w⟩ := x0
  dsimp only
  unfold F.law35_ArtinActs
  rw [awake35, Option.bind_some, Bool.not_true, cond_false, great_eq, Option.bind_some]
  by_cases hg : 14 < w.length ∨ (5 < s ∧ s ≤ 10)
  · rw [decide_eq_true hg]; rfl
  rw [decide_eq_false hg, cond_false]
  by_cases hl : 40 < x1.length
  · rw [decide_eq_true (by omega)]; rfl
  rw [decide_eq_false (by omega), cond_false, refBraid _ (by omega)]
  cases hv : okB s w with
  | false =>
    unfold F.artin_Act
    rw [braidValid _ (by omega), hv]; rfl
  | true =>
    obtain ⟨a1, a2, a3, a4⟩ := okB_iff.1 hv
    obtain ⟨N, rfl⟩ : ∃ N : Nat, s = (N : Int) := ⟨s.toNat, by omega⟩
    rw [refWordValid (by omega) (by omega) _ (by omega)]
    cases hw : wV x1 (N : Int) with
    | false =>
      unfold F.artin_Act
      rw [braidValid _ (by omega), hv, wordValid (by omega) (by omega) _ (by omega), hw]; rfl
    | true =>
      have hu : ∀ y ∈ x1, Lr N y := fun y hy => by
        have := wV_iff.1 hw y hy
        unfold Lr; omega
      rw [artinAct hv hu (by omega) _ (by omega), refAct hv hu (by omega) _ (by omega)]
      cases hf : afull w (ird x1) with
      | true => rfl
      | false =>
        have hlen := fact_len _ _ hf
        rw [if_neg (by decide), if_neg (by decide), Option.bind_some, Option.bind_some, Bool.not_true, cond_false, Option.bind_some, Bool.not_true, cond_false, Option.bind_some]
        dsimp only
        rw [Bool.not_true, cond_false, decide_eq_true rfl, cond_true, refInts _ (by omega) (by omega), decide_eq_true rfl]
        rfl
end Go.Proofs.Ytlkmcbgkohpmiaa
