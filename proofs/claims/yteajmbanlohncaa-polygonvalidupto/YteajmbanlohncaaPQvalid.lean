/- The plain law of PolygonValid. -/
import Derived.Test.YteajmbanlohncaaPQfew
import Derived.Test.YteajmbanlohncaaPQstr
set_option linter.unusedVariables false
set_option linter.unusedSimpArgs false
namespace Go.Proofs.Yteajmbanlohncaa
open Ev
namespace Pg
theorem components_eq {cs : List (List Vis)} {sg : List Int} {lo : Int} (h : GV cs sg lo) (hg : Int.tdiv (gen2 sg.length (muS sg cs)) 2 = 0) (m : Nat) (hm : 500 < m) : F.diagram_Components m sg (mtS sg cs) lo = some ((cs.length : Int) + lo) := by
  have D := h.dv hg
  have h64 := D.n
  have hc := cnt_le (4 * sg.length) (fun k => Outg sg k ∧ Rep (adjI (4 * sg.length) (nx (muS sg cs))) k)
  rw [strs_comps h hg] at hc
  have l0 := D.lo0
  have l1 := D.lo1
  unfold F.diagram_Components
  rw [dvalid_true D m (by omega), Option.bind_some, Bool.not_true, cond_false, strands_eq D m hm, Option.bind_some, strs_len, strs_comps h hg, chk_ok (by omega) (by omega), Option.bind_some]
end Pg
open Pg in
theorem law46_PolygonValid_true (x0 : List (List (Int × (Int × Int)))) (o0 : Ev.Sh.ok (.sl (.sl (.pr (.int .i64) (.pr (.int .i64) (.int .i64))))) x0) (b0 : Ev.Sh.bulk (.sl (.sl (.pr (.int .i64) (.pr (.int .i64) (.int .i64))))) x0 ≤ 1048576) :
    ∃ n, F.law46_PolygonValid n x0 = some true := by
  have s1 := sumlen_bulk x0
  have s2 := len_bulk x0
  have hs1 : sumlen x0 ≤ 1048576 := Nat.le_trans s1 b0
  have hs2 : x0.length ≤ 1048576 := Nat.le_trans s2 b0
  refine ⟨200000000, ?_⟩
  unfold F.law46_PolygonValid
  rw [awake46, Option.bind_some, Bool.not_true, cond_false, generic_law x0 200000000 (by omega) (by omega) (by decide), Option.bind_some]
  by_cases hf : Few x0
  case neg => rw [if_neg hf]; rfl
  rw [if_pos hf]
  dsimp only
  by_cases h0 : (projS x0).2.2.2 = 0
  case neg => rw [decide_eq_false h0]; rfl
  obtain ⟨hv, hg, hG, h1, hp, _⟩ := proj_parts h0
  rw [decide_eq_true h0, Bool.not_true, cond_false, hp]
  dsimp only
  rw [dvalid_true (hG.dv h1) _ (by decide), Option.bind_some, cond_true, components_eq hG h1 _ (by decide), Option.bind_some]
  have := comps_loops (edS 0 x0) (srt (edS 0 x0)) x0
  exact congrArg some (decide_eq_true this)
end Go.Proofs.Yteajmbanlohncaa
