/- Both programs make the same grid of a braid. -/
import Derived.Test.YticemffhlapnnaaPRstep
import Derived.Test.YticemffhlapnnaaPMbase
set_option linter.unusedVariables false
set_option linter.unusedSimpArgs false
namespace Go.Proofs.Yticemffhlapnnaa
namespace Gl
open Ev
def rg (k : Nat) : List Int := (List.range k).map fun i : Nat => (i : Int)
def mk0 (k : Nat) : List (Int × Int) := (List.range k).map fun i : Nat => ((i : Int), 0)
def tp0 (k : Nat) : List Int := (List.range k).map fun _ : Nat => -1
theorem rg_len (k : Nat) : (rg k).length = k := by simp [rg]
theorem mk0_len (k : Nat) : (mk0 k).length = k := by simp [mk0]
theorem tp0_len (k : Nat) : (tp0 k).length = k := by simp [tp0]
theorem rg_succ (k : Nat) : rg (k + 1) = rg k ++ [(k : Int)] := by simp [rg, List.range_succ]
theorem mk0_succ (k : Nat) : mk0 (k + 1) = mk0 k ++ [((k : Int), 0)] := by simp [mk0, List.range_succ]
theorem tp0_succ (k : Nat) : tp0 (k + 1) = tp0 k ++ [-1] := by simp [tp0, List.range_succ]
theorem mem_rg {k : Nat} {c : Int} : c ∈ rg k ↔ ∃ i, i < k ∧ (i : Int) = c := by simp [rg]
theorem b0_eq (s : Nat) (hs : s < 1000) (n : Nat) (hn : 2000 < n) : loopN n (F.gridlink_Braid_b0 n s) (([] : List (Int × Int)), ([] : List Int), ([] : List Int), 0) = some (mk0 s, rg s, rg s, (s : Int)) := by
  refine count_loop (body := F.gridlink_Braid_b0 n s) (fun k => (mk0 k, rg k, rg k, (k : Int))) s (fun k hk => ?_) ?_ n (by omega)
  · unfold F.gridlink_Braid_b0
    dsimp only
    rw [decide_eq_true (by omega), cond_true, lim_ok (by rw [mk0_len]; simp only [List.length_cons, List.length_nil]; omega), Option.bind_some, lim_ok (by rw [rg_len]; simp only [List.length_cons, List.length_nil]; omega), Option.bind_some, Option.bind_some,
      chk_ok (by omega) (by omega), Option.bind_some, mk0_succ, rg_succ]
    rfl
  · unfold F.gridlink_Braid_b0
    dsimp only
    rw [decide_eq_false (by omega), cond_false]
theorem r0_eq (s : Nat) (hs : s < 1000) (n : Nat) (hn : 2000 < n) : loopN n (F.ref44_Braid_b0 n s) (([] : List Int), ([] : List Int), ([] : List Int), ([] : List Int), 0) = some (rg s, rg s, tp0 s, rg s, (s : Int)) := by
  refine count_loop (body := F.ref44_Braid_b0 n s) (fun k => (rg k, rg k, tp0 k, rg k, (k : Int))) s (fun k hk => ?_) ?_ n (by omega)
  · unfold F.ref44_Braid_b0
    dsimp only
    rw [decide_eq_true (by omega), cond_true, lim_ok (by rw [rg_len]; simp only [List.length_cons, List.length_nil]; omega), Option.bind_some, Option.bind_some, lim_ok (by rw [tp0_len]; simp only [List.length_cons, List.length_nil]; omega), Option.bind_some, Option.bind_some,
      chk_ok (by omega) (by omega), Option.bind_some, tp0_succ, rg_succ]
    rfl
  · unfold F.ref44_Braid_b0
    dsimp only
    rw [decide_eq_false (by omega), cond_false]
theorem BI.start (s : Nat) : BI s 0 (mk0 s) (rg s) (rg s) (tp0 s) (rg s) where
  fs := by simp [mk0, rg]
  tl := tp0_len s
  ml := mk0_len s
  bl := rg_len s
  pl := rg_len s
  pb c hc := by obtain ⟨i, hi, rfl⟩ := mem_rg.1 hc; omega
  nd := by
    unfold rg
    rw [List.nodup_iff_pairwise_ne, List.pairwise_map]
    exact List.pairwise_lt_range.imp fun h => by omega
  po c hc := hc
  ob c hc := by obtain ⟨i, hi, rfl⟩ := mem_rg.1 hc; omega
  ol := rg_len s
  ag i hi := .inl (mem_rg.2 ⟨i, by omega, rfl⟩)
theorem letters (s : Nat) {w : List Int} (hw : ∀ x ∈ w, x ≠ 0 ∧ -(s : Int) < x ∧ x < s) (hs : s + w.length < 1000) (n : Nat) (hn : 2000 < n) :
    ∃ mk od bot top pr, loopN n (F.gridlink_Braid_b1 n s w) (mk0 s, rg s, 0, rg s) = some (mk, od, (w.length : Int), pr) ∧ loopN n (F.ref44_Braid_b1 n s w) (rg s, rg s, tp0 s, 0, rg s) = some (od, bot, top, (w.length : Int), pr) ∧ BI s w.length mk od bot top pr := by
  obtain ⟨r1, r2, e1, e2, mk, od, bot, top, pr, h1, h2, hB⟩ := two_loop (b1 := F.gridlink_Braid_b1 n s w) (b2 := F.ref44_Braid_b1 n s w)
    (I := fun k a b => ∃ mk od bot top pr, a = (mk, od, (k : Int), pr) ∧ b = (od, bot, top, (k : Int), pr) ∧ BI s k mk od bot top pr)
    (Q := fun a b => ∃ mk od bot top pr, a = (mk, od, (w.length : Int), pr) ∧ b = (od, bot, top, (w.length : Int), pr) ∧ BI s w.length mk od bot top pr) w.length
    (fun k a b hk ⟨mk, od, bot, top, pr, ha, hb, hB⟩ => by
      subst ha hb
      have hx := hw w[k] (List.getElem_mem hk)
      have g : Ev.get w (k : Int) = some w[k] := get_at rfl (List.getElem?_eq_getElem hk)
      unfold F.gridlink_Braid_b1 F.ref44_Braid_b1
      dsimp only
      rw [decide_eq_true (show (k : Int) < (w.length : Int) by omega), cond_true, cond_true, g, Option.bind_some, Option.bind_some]
      rw [chk_ok (z := -w[k]) (by omega) (by omega), chk_ok (z := w[k] - 1) (by omega) (by omega)]
      simp only [Option.bind_some]
      rw [chk_ok (z := max w[k] (-w[k]) - 1) (by omega) (by omega)]
      simp only [Option.bind_some]
      by_cases hlt : w[k] < 0
      · rw [decide_eq_true hlt, cond_true, cond_true, chk_ok (z := -w[k] - 1) (by omega) (by omega)]
        simp only [Option.bind_some]
        obtain ⟨mk', od', bot', top', pr', q1, q2, q3⟩ := hB.step (e := w[k].natAbs - 1) (b := w[k].natAbs) (v := 1) (by omega) (by omega) (by omega) (.inr rfl) (by omega) n hn true true
        have m1 : max w[k] (-w[k]) - 1 = ((w[k].natAbs - 1 : Nat) : Int) := by omega
        have m2 : max w[k] (-w[k]) = ((w[k].natAbs : Nat) : Int) := by omega
        have m3 : -w[k] - 1 = ((w[k].natAbs - 1 : Nat) : Int) := by omega
        have m4 : -w[k] = ((w[k].natAbs : Nat) : Int) := by omega
        rw [m1, m2, m3, m4, q1, q2]
        exact ⟨_, _, rfl, rfl, _, _, _, _, _, rfl, rfl, q3⟩
      · rw [decide_eq_false hlt, cond_false, cond_false]
        obtain ⟨mk', od', bot', top', pr', q1, q2, q3⟩ := hB.step (e := w[k].natAbs) (b := w[k].natAbs - 1) (v := 0) (by omega) (by omega) (by omega) (.inl rfl) (by omega) n hn false false
        have m1 : max w[k] (-w[k]) - 1 = ((w[k].natAbs - 1 : Nat) : Int) := by omega
        have m2 : max w[k] (-w[k]) = ((w[k].natAbs : Nat) : Int) := by omega
        have m3 : w[k] - 1 = ((w[k].natAbs - 1 : Nat) : Int) := by omega
        have m4 : F.ref44_Braid_j2 n s od bot top k pr w[k] = F.ref44_Braid_j2 n s od bot top k pr ((w[k].natAbs : Nat) : Int) := congrArg _ (by omega)
        rw [m1, m2, m3, m4, q1, q2]
        exact ⟨_, _, rfl, rfl, _, _, _, _, _, rfl, rfl, q3⟩)
    (fun a b ⟨mk, od, bot, top, pr, ha, hb, hB⟩ => by
      subst ha hb
      unfold F.gridlink_Braid_b1 F.ref44_Braid_b1
      dsimp only
      rw [decide_eq_false (show ¬ ((w.length : Nat) : Int) < (w.length : Int) by omega), cond_false, cond_false]
      exact ⟨_, _, rfl, rfl, _, _, _, _, _, rfl, rfl, hB⟩) w.length 0 n (mk0 s, rg s, 0, rg s) (rg s, rg s, tp0 s, 0, rg s) (by omega) (by omega) ⟨_, _, _, _, _, rfl, rfl, BI.start s⟩
  exact ⟨mk, od, bot, top, pr, by rw [e1, h1], by rw [e2, h2], hB⟩
end Gl
end Go.Proofs.Yticemffhlapnnaa
