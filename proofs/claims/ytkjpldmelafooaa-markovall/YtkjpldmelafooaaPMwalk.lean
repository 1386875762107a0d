/- The plain law of MarkovApply. -/
import Derived.Test.YtkjpldmelafooaaPMref3
set_option linter.unusedVariables false
set_option linter.unusedSimpArgs false
namespace Go.Proofs.Ytkjpldmelafooaa
open Ev
theorem step_len {s : Int} {w : List Int} {k g a : Int} : (stepS s w k g a).2.1.length ≤ 200 := by
  rcases step_two s w k g a with ⟨e, he, hr⟩ | ⟨s', w', k', g', a', hr, h1, h2, h3, h4, h5⟩
  · rw [hr]; simp [er]
  · rw [hr]; exact (okB_iff.1 h2).2.2.1
theorem law36_MarkovApply_true (z0 : Int) (x1 : List Int) (x2 : Int × (Int × Int)) (o0 : Ev.Sh.ok (.int .i64) z0) (o1 : Ev.Sh.ok (.sl (.int .i64)) x1) (o2 : Ev.Sh.ok (.pr (.int .i64) (.pr (.int .i64) (.int .i64))) x2) : ∃ n, F.law36_MarkovApply n z0 x1 x2.1 x2.2.1 x2.2.2 = some true := by
  refine ⟨300, ?_⟩
  unfold F.law36_MarkovApply
  have hg := i64_of o2.2.1
  obtain ⟨k, g, a⟩ := x2
  dsimp only at hg ⊢
  rw [awake36 300 (by decide), Option.bind_some]
  by_cases hl : 210 < (x1.length : Int)
  · rw [decide_eq_true hl]; rfl
  rw [decide_eq_false hl, Bool.not_true, cond_false, cond_false]
  rw [lim_ok (by simp; omega), Option.bind_some, apply_eq 300 (by omega) hg, Option.bind_some, List.nil_append, refApply_eq 300 (by omega), Option.bind_some]
  rw [decide_eq_true rfl, cond_true]
  have e1 : ∀ {a b : Int} {u : List Int}, u.length ≤ 210 → a = b → F.ref36_Equal 300 a u b u = some true := by
    intro a b u hu hab
    obtain ⟨r, hr, hq⟩ := refEqual (a := a) (b := b) (u := u) (v := u) 300 (by omega) (by omega)
    rw [hr, hq.2 ⟨hab, rfl⟩]
  have hlen := step_len (s := z0) (w := x1) (k := k) (g := g) (a := a)
  rw [e1 (by omega) rfl, Option.bind_some, cond_true, decide_eq_true rfl, decide_eq_true rfl, decide_eq_true rfl]
  simp only [Bool.and_true, cond_true]
  rw [e1 (by omega) rfl]; rfl
end Go.Proofs.Ytkjpldmelafooaa
