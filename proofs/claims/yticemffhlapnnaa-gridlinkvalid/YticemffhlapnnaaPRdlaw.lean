/- The diagram of a grid: the laws of Diagram and of errors. -/
import Derived.Test.YticemffhlapnnaaPRdia
import Derived.Test.YticemffhlapnnaaPRints
import Derived.Test.YticemffhlapnnaaPRawake
set_option linter.unusedVariables false
set_option linter.unusedSimpArgs false
namespace Go.Proofs.Yticemffhlapnnaa
namespace Gl
open Ev Gar Pg
/-- What the program says of any grid. -/
theorem diagram_cases (X O : List Int) (m : Nat) (hm : 10000 < m) :
    (¬ VG X O ∧ F.gridlink_Diagram m X O = some ([], [], 0, 1)) ∨ ∃ n x o cx co, Gd n x o cx co ∧ X = li n x ∧ O = li n o ∧
      ((64 < (crl n x o cx co).length ∧ F.gridlink_Diagram m X O = some ([], [], 0, 5)) ∨ ((crl n x o cx co).length ≤ 64 ∧ ∃ s vs, OrbI n (fun c => cx (o c)) n s vs ∧
        F.gridlink_Diagram m X O = some (sgl n x o cx co, mtS (sgl n x o cx co) (csOf n x o cx co vs), loOf n x o cx co vs, 0) ∧
        F.ref44_Diagram m X O = some (sgl n x o cx co, mtS (sgl n x o cx co) (csOf n x o cx co vs), loOf n x o cx co vs))) := by
  obtain ⟨r, v1, v2⟩ := gridValid X O m (by omega)
  cases r with
  | false =>
    left
    refine ⟨fun h => absurd (v2.2 h) (by decide), ?_⟩
    unfold F.gridlink_Diagram
    rw [v1, Option.bind_some, Bool.not_false, cond_true]
  | true =>
    right
    obtain ⟨n, x, o, cx, co, g, rfl, rfl⟩ := (v2.1 rfl).gd
    refine ⟨n, x, o, cx, co, g, rfl, rfl, ?_⟩
    by_cases hL : 64 < (crl n x o cx co).length
    · left
      refine ⟨hL, ?_⟩
      unfold F.gridlink_Diagram
      rw [v1, Option.bind_some, Bool.not_true, cond_false, g.gridCrossings m (by omega), Option.bind_some, List.length_map, decide_eq_true (by omega), cond_true]
    · right
      exact ⟨by omega, g.diagram (by omega) m hm⟩
theorem small_cases (X O : List Int) (m : Nat) : F.law44_small m X O = some 0 ∨ F.law44_small m X O = some 1 ∧ X.length ≤ 45 ∧ O.length ≤ 45 := by
  unfold F.law44_small
  by_cases h1 : (45 : Int) < (X.length : Int)
  · rw [decide_eq_true h1, cond_true]; exact .inl rfl
  rw [decide_eq_false h1, cond_false]
  by_cases h2 : (45 : Int) < (O.length : Int)
  · rw [decide_eq_true h2, cond_true]; exact .inl rfl
  rw [decide_eq_false h2, cond_false]
  by_cases h3 : (12 : Int) < (X.length : Int)
  · rw [decide_eq_true h3, cond_true]
    by_cases h4 : (X.length : Int) ≤ 40
    · rw [decide_eq_true h4, cond_true]; exact .inl rfl
    · rw [decide_eq_false h4, cond_false]; exact .inr ⟨rfl, by omega, by omega⟩
  · rw [decide_eq_false h3, cond_false]; exact .inr ⟨rfl, by omega, by omega⟩
end Gl
end Go.Proofs.Yticemffhlapnnaa
