/- The plain law of MarkovInverse. -/
import Derived.Test.YtkjpldmelafooaaPMinv
set_option linter.unusedVariables false
set_option linter.unusedSimpArgs false
namespace Go.Proofs.Ytkjpldmelafooaa
open Ev
theorem i64_of {z : Int} (o : Ev.Sh.ok (.int .i64) z) : -9223372036854775808 ≤ z ∧ z ≤ 9223372036854775807 := by
  have h : IntKind.i64.wrap z = z := o
  simp [IntKind.wrap, IntKind.signed, IntKind.bits] at h
  omega
theorem g_range {s : Int} {w : List Int} {k g a : Int} (h : (stepS s w k g a).2.2.2.2.2 = 0) : -10 ≤ g ∧ g ≤ 10 := by
  obtain ⟨hs, hc⟩ := step_cases h
  obtain ⟨h1, h2, h3, h4⟩ := okB_iff.1 hs
  rcases hc with (⟨-, hl, -⟩ | ⟨-, hl, -, -⟩ | ⟨-, hg, -⟩ | ⟨-, hg, -, -⟩) | (⟨-, hl, -⟩ | ⟨-, hg, -, -⟩ | ⟨-, hg, -, -⟩ | ⟨-, hg, -, -⟩)
  · unfold isL at hl; omega
  · unfold isL at hl; omega
  · omega
  · omega
  · unfold isL at hl; omega
  · omega
  · omega
  · omega
/-- The answer of a step: an error without a braid, or a step that can be undone. -/
theorem step_two (s : Int) (w : List Int) (k g a : Int) : (∃ e, e ≠ 0 ∧ stepS s w k g a = er e) ∨
    ∃ s' w' k' g' a', stepS s w k g a = (s', w', k', g', a', 0) ∧ okB s w = true ∧ okB s' w' = true ∧ stepS s' w' k' g' a' = (s, w, k, g, a, 0) ∧ (-10 ≤ g' ∧ g' ≤ 10) ∧ (-10 ≤ g ∧ g ≤ 10) := by
  by_cases h : (stepS s w k g a).2.2.2.2.2 = 0
  · right
    obtain ⟨hv, hu⟩ := step_und h
    refine ⟨_, _, _, _, _, ?_, (step_cases h).1, hv, hu, g_range (by rw [hu]), g_range h⟩
    rw [← h]
  · left
    rcases step_ef s w k g a with ⟨e, he⟩ | h'
    · exact ⟨e, fun h0 => h (by rw [he, h0]; rfl), he⟩
    · exact absurd h' h
theorem law36_MarkovInverse_true (z0 : Int) (x1 : List Int) (x2 : Int × (Int × Int)) (o0 : Ev.Sh.ok (.int .i64) z0) (o1 : Ev.Sh.ok (.sl (.int .i64)) x1) (o2 : Ev.Sh.ok (.pr (.int .i64) (.pr (.int .i64) (.int .i64))) x2) : ∃ n, F.law36_MarkovInverse n z0 x1 x2.1 x2.2.1 x2.2.2 = some true := by
  refine ⟨300, ?_⟩
  unfold F.law36_MarkovInverse
  have hg := i64_of o2.2.1
  obtain ⟨k, g, a⟩ := x2
  rw [awake36 300 (by decide), Option.bind_some]
  by_cases hl : 210 < (x1.length : Int)
  · rw [decide_eq_true hl]; rfl
  rw [decide_eq_false hl, Bool.not_true, cond_false, cond_false]
  rw [apply_eq 300 (by omega) hg, Option.bind_some]
  rcases step_two z0 x1 k g a with ⟨e, he, hr⟩ | ⟨s', w', k', g', a', hr, h1, h2, h3, h4, h5⟩
  · dsimp only
    rw [hr]
    show cond (!(decide (e = 0))) _ _ = _
    rw [decide_eq_false he]
    rfl
  · dsimp only
    rw [hr]
    have q := (okB_iff.1 h2).2.2.1
    have q' := (okB_iff.1 h1).2.2.1
    show (F.markov_Apply 300 s' w' k' g' a').bind _ = _
    rw [apply_eq 300 (by omega) (by omega), Option.bind_some, h3]
    show (F.braid_Valid 300 s' w').bind _ = _
    rw [braidValid 300 (by omega), Option.bind_some, h2, cond_true]
    show (F.law36_equal 300 z0 x1 z0 x1).bind _ = _
    rw [lawEqual_t 300 (by omega) (by omega) ⟨rfl, rfl⟩, Option.bind_some, cond_true]
    simp
end Go.Proofs.Ytkjpldmelafooaa
