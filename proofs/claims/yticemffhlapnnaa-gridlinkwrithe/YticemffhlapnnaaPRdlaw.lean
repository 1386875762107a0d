/- The diagram of a grid: the laws of Diagram and of errors. -/
import Derived.Test.YticemffhlapnnaaPRdia
import Derived.Test.YticemffhlapnnaaPRints
import Derived.Test.YticemffhlapnnaaPRawake
set_option linter.unusedVariables false
set_option linter.unusedSimpArgs false
namespace Go.Proofs.Yticemffhlapnnaa
namespace Gl
open Ev Gar Pg
/-- What the program says of any grid. -/
theorem diagram_cases (X O : List Int) (m : Nat) (hm : 10000 < m) :
    (¬ VG X O ∧ F.gridlink_Diagram m X O = some ([], [], 0, 1)) ∨ ∃ n x o cx co, Gd n x o cx co ∧ X = li n x ∧ O = li n o ∧
      ((64 < (crl n x o cx co).length ∧ F.gridlink_Diagram m X O = some ([], [], 0, 5)) ∨ ((crl n x o cx co).length ≤ 64 ∧ ∃ s vs, OrbI n (fun c => cx (o c)) n s vs ∧
        F.gridlink_Diagram m X O = some (sgl n x o cx co, mtS (sgl n x o cx co) (csOf n x o cx co vs), loOf n x o cx co vs, 0) ∧
        F.ref44_Diagram m X O = some (sgl n x o cx co, mtS (sgl n x o cx co) (csOf n x o cx co vs), loOf n x o cx co vs))) := by
  obtain ⟨r, v1, v2⟩ := gridValid X O m (by omega)
  cases r with
  | false =>
    left
    refine ⟨fun h => absurd (v2.2 h) (by decide), ?_⟩
    unfold F.gridlink_Diagram
    rw [v1, Option.bind_some, Bool.not_false, cond_true]
  | true =>
    right
    obtain ⟨n, x, o, cx, co, g, rfl, rfl⟩ := (v2.1 rfl).gd
    refine ⟨n, x, o, cx, co, g, rfl, rfl, ?_⟩
    by_cases hL : 64 < (crl n x o cx co).length
    · left
      refine ⟨hL, ?_⟩
      unfold F.gridlink_Diagram
      rw [v1, Option.bind_some, Bool.not_true, cond_false, g.gridCrossings m (by omega), Option.bind_some, List.length_map, decide_eq_true (by omega), cond_true]
    · right
      exact ⟨by omega, g.diagram (by omega) m hm⟩
theorem small_cases (X O : List Int) (m : Nat) : F.law44_small m X O = some 0 ∨ F.law44_small m X O = some 1 ∧ X.length ≤ 45 ∧ O.length ≤ 45 := by
  unfold F.law44_small
  by_cases h1 : (45 : Int) < (X.length : Int)
  · rw [decide_eq_true h1, cond_true]; exact .inl rfl
  rw [decide_eq_false h1, cond_false]
  by_cases h2 : (45 : Int) < (O.length : Int)
  · rw [decide_eq_true h2, cond_true]; exact .inl rfl
  rw [decide_eq_false h2, cond_false]
  by_cases h3 : (12 : Int) < (X.length : Int)
  · rw [decide_eq_true h3, cond_true]
    by_cases h4 : (X.length : Int) ≤ 40
    · rw [decide_eq_true h4, cond_true]; exact .inl rfl
    · rw [decide_eq_false h4, cond_false]; exact .inr ⟨rfl, by omega, by omega⟩
  · rw [decide_eq_false h3, cond_false]; exact .inr ⟨rfl, by omega, by omega⟩
theorem mtS_len (sg : List Int) (cs : List (List Vis)) : (mtS sg cs).length = 4 * sg.length := by
  unfold mtS
  rw [fold_len]; exact List.length_replicate ..
end Gl
open Ev Gl Gar in
theorem law44_GridlinkDiagram_two (x0 x1 : List Int) : ∃ n, F.law44_GridlinkDiagram n x0 x1 = some true := by
  refine ⟨200000000, ?_⟩
  unfold F.law44_GridlinkDiagram
  rw [awake44, Option.bind_some, Bool.not_true, cond_false]
  rcases small_cases x0 x1 200000000 with hs | ⟨hs, _, _⟩
  · rw [hs, Option.bind_some, decide_eq_true rfl, cond_true]
  rw [hs, Option.bind_some, decide_eq_false (by decide), cond_false]
  obtain ⟨r, v1, v2⟩ := refGridValid x0 x1 200000000 (by omega)
  rcases diagram_cases x0 x1 200000000 (by omega) with ⟨hv, hd⟩ | ⟨n, x, o, cx, co, g, rfl, rfl, hc⟩
  · cases r with
    | true => exact absurd (v2.1 rfl) hv
    | false =>
      rw [hd, Option.bind_some, v1, Option.bind_some, Bool.not_false, cond_true]
      rfl
  · have hr := v2.2 g.vg
    subst hr
    rcases hc with ⟨hL, hd⟩ | ⟨hL, s, vs, hO, hd, hrf⟩
    · rw [hd, Option.bind_some, v1, Option.bind_some, Bool.not_true, cond_false, g.refCrossings 200000000 (by omega), Option.bind_some, List.length_map, decide_eq_true (by omega), cond_true]
      rfl
    · have hsl : (sgl n x o cx co).length ≤ 64 := by rw [g.sgl_len]; exact hL
      rw [hd, Option.bind_some, v1, Option.bind_some, Bool.not_true, cond_false, g.refCrossings 200000000 (by omega), Option.bind_some, List.length_map, decide_eq_false (by omega), cond_false, hrf]
      have he : F.ref01_Equal 200000000 (sgl n x o cx co) (Pg.mtS (sgl n x o cx co) (csOf n x o cx co vs)) (loOf n x o cx co vs) (sgl n x o cx co) (Pg.mtS (sgl n x o cx co) (csOf n x o cx co vs)) (loOf n x o cx co vs) = some true := by
        unfold F.ref01_Equal
        rw [ints_same _ (by omega) _ (by omega), Option.bind_some, cond_true, ints_same _ (by rw [mtS_len]; omega) _ (by omega), Option.bind_some, cond_true, decide_eq_true rfl]
      rw [Option.bind_some]
      dsimp only
      rw [he, decide_eq_true rfl, cond_true]
      rfl
theorem law44_GridlinkDiagram_true (x0 : List Int × List Int) (o0 : Ev.Sh.ok (.pr (.sl (.int .i64)) (.sl (.int .i64))) x0) : ∃ n, F.law44_GridlinkDiagram n x0.1 x0.2 = some true := law44_GridlinkDiagram_two x0.1 x0.2
end Go.Proofs.Yticemffhlapnnaa
