/- The reference Apply answers stepS (part one: its helpers). -/
import Derived.Test.YtkjpldmelafooaaPMinverse
set_option linter.unusedVariables false
set_option linter.unusedSimpArgs false
namespace Go.Proofs.Ytkjpldmelafooaa
open Ev
theorem absEq {x : Int} (n : Nat) (h : -1000 ≤ x ∧ x ≤ 1000) : F.ref33_Abs n x = some (ab x) := by
  unfold F.ref33_Abs
  by_cases hx : x < 0
  · rw [decide_eq_true hx, cond_true, chk_ok (by omega) (by omega), Option.bind_some]; unfold ab; congr 1; omega
  · rw [decide_eq_false hx, cond_false]; unfold ab; congr 1; omega
theorem spliceEq {w u : List Int} {a m : Int} (n : Nat) (hl : w.length ≤ 1000) (hu : u.length ≤ 1000) (h0 : 0 ≤ a) (h1 : 0 ≤ m) (h2 : a + m ≤ w.length) : F.ref36_splice n w a m u = some (w.take a.toNat ++ u ++ w.drop (a.toNat + m.toNat)) := by
  unfold F.ref36_splice
  have e1 : (w.drop (0 : Int).toNat).take (a.toNat - (0 : Int).toNat) = w.take a.toNat := by simp
  rw [e1, cut_ok (by omega) h0 (by omega), Option.bind_some, lim_ok (by simp; omega), Option.bind_some, lim_ok (by simp; omega), Option.bind_some, chk_ok (by omega) (by omega), Option.bind_some, cut_ok (by omega) (by omega) (by omega), Option.bind_some]
  have e2 : (w.drop (a + m).toNat).take ((w.length : Int).toNat - (a + m).toNat) = w.drop (a.toNat + m.toNat) := by
    rw [List.take_of_length_le (by rw [List.length_drop]; omega), show (a + m).toNat = a.toNat + m.toNat by omega]
  rw [e2, lim_ok (by simp; omega), Option.bind_some]
  rfl
theorem j20 (n : Nat) (s : Int) (w : List Int) (k g a e : Int) : F.ref36_Apply_j20 n s w k g a e = some (if e = 0 then (s, w, k, g, a, 0) else er e) := by
  unfold F.ref36_Apply_j20
  by_cases h : e = 0
  · rw [decide_eq_true h, if_pos h]; rfl
  · rw [decide_eq_false h, if_neg h]; rfl
theorem j2 (n : Nat) (t c : Bool) (s : Int) (w : List Int) (k g a : Int) : F.ref36_Apply_j2 n t c s w k g a = some (if t = true then (if c = true then fin s w k g a else er 6) else er 2) := by
  unfold F.ref36_Apply_j2
  rw [j20, j20, j20, j20]
  cases t
  · rfl
  · cases c
    · rfl
    · unfold fin
      by_cases h1 : 10 < s
      · rw [decide_eq_true h1, if_pos h1]; rfl
      · rw [decide_eq_false h1, if_neg h1]
        by_cases h2 : 200 < w.length
        · rw [decide_eq_true (show (200 : Int) < (w.length : Int) by omega), if_pos h2]; rfl
        · rw [decide_eq_false (show ¬ (200 : Int) < (w.length : Int) by omega), if_neg h2]; rfl
end Go.Proofs.Ytkjpldmelafooaa
