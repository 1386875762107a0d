/- The law of errors. -/
import Derived.Test.YticemffhlapnnaaPRdlaw
set_option linter.unusedVariables false
set_option linter.unusedSimpArgs false
namespace Go.Proofs.Yticemffhlapnnaa
namespace Gl
open Ev Gar Pg
theorem revInt (l : List Int) (hl : l.length ≤ 100000) (n : Nat) (hn : l.length < n) : F.slices_Reverse_Lint_int n l = some l.reverse := by
  obtain ⟨N, f, rfl, hN⟩ : ∃ (N : Nat) (f : Nat → Int), l = tab N f ∧ N = l.length := ⟨_, _, tab_of l 0, rfl⟩
  rw [tab_rev]
  rw [tab_len] at hl hn
  unfold F.slices_Reverse_Lint_int
  rw [tab_len, chk_ok (by omega) (by omega), Option.bind_some]
  have := count_loop (body := F.slices_Reverse_Lint_int_b0 n) (fun k => ((k : Int), (N : Int) - 1 - (k : Int), tab N (fun x => if x < k ∨ N < x + k + 1 then f (N - 1 - x) else f x))) (N / 2) (r := (((N / 2 : Nat) : Int), (N : Int) - 1 - ((N / 2 : Nat) : Int), tab N fun x => f (N - 1 - x))) (fun k hk => by
    unfold F.slices_Reverse_Lint_int_b0
    dsimp only
    have e1 : (N : Int) - 1 - (k : Int) = ((N - 1 - k : Nat) : Int) := by omega
    rw [decide_eq_true (by omega), cond_true, get_tab e1 (by omega), Option.bind_some, get_tab rfl (by omega), Option.bind_some, Option.bind_some]
    rw [show (k : Int).toNat = k by omega, show ((N : Int) - 1 - (k : Int)).toNat = N - 1 - k by omega, if_neg (by omega), if_neg (by omega), tab_set, get_tab e1 (by omega), Option.bind_some, chk_ok (by omega) (by omega), Option.bind_some, chk_ok (by omega) (by omega), Option.bind_some, tab_set]
    rw [show (N : Int) - 1 - (k : Int) - 1 = (N : Int) - 1 - ((k + 1 : Nat) : Int) by omega]
    congr 4
    apply tab_ext
    intro x hx
    by_cases e1 : x = N - 1 - k
    · subst e1; rw [if_pos rfl, if_pos (by omega), show N - 1 - (N - 1 - k) = k by omega]
    · rw [if_neg e1]
      by_cases e2 : x = k
      · subst e2; rw [if_pos rfl, if_pos (by omega)]
      · rw [if_neg e2]
        by_cases e3 : x < k ∨ N < x + k + 1
        · rw [if_pos e3, if_pos (by omega)]
        · rw [if_neg e3, if_neg (by omega)]) (by
    unfold F.slices_Reverse_Lint_int_b0
    dsimp only
    rw [decide_eq_false (by omega), cond_false]
    congr 4
    apply tab_ext
    intro x hx
    by_cases e3 : x < N / 2 ∨ N < x + N / 2 + 1
    · rw [if_pos e3]
    · rw [if_neg e3]; congr 1; omega) n (by omega)
  have e0 : tab N f = tab N (fun x => if x < 0 ∨ N < x + 0 + 1 then f (N - 1 - x) else f x) := tab_ext fun x hx => (if_neg (by omega)).symm
  rw [e0, show ((0 : Int), (N : Int) - 1, tab N (fun x => if x < 0 ∨ N < x + 0 + 1 then f (N - 1 - x) else f x)) = ((((0 : Nat)) : Int), (N : Int) - 1 - (((0 : Nat)) : Int), tab N (fun x => if x < 0 ∨ N < x + 0 + 1 then f (N - 1 - x) else f x)) by simp, this, Option.bind_some]
theorem cloneInt (l : List Int) (hl : l.length ≤ 1000000) (n : Nat) : F.slices_Clone_Lint_int n l = some l := by
  unfold F.slices_Clone_Lint_int
  rw [lim_ok (by simp only [List.length_nil]; omega), Option.bind_some, List.nil_append]
theorem reverse_cases (X O : List Int) (m : Nat) (hm : 100 < m) : (¬ VG X O ∧ F.gridlink_Reverse m X O = some ([], [], 1) ∧ F.gridlink_Reflect m X O = some ([], [], 1)) ∨ (VG X O ∧ F.gridlink_Reverse m X O = some (O, X, 0) ∧ F.gridlink_Reflect m X O = some (X.reverse, O.reverse, 0)) := by
  obtain ⟨r, v1, v2⟩ := gridValid X O m (by omega)
  cases r with
  | false =>
    left
    refine ⟨fun h => absurd (v2.2 h) (by decide), ?_, ?_⟩
    · unfold F.gridlink_Reverse
      rw [v1, Option.bind_some, Bool.not_false, cond_true]
    · unfold F.gridlink_Reflect
      rw [v1, Option.bind_some, Bool.not_false, cond_true]
  | true =>
    right
    have hv := v2.1 rfl
    have h1 := hv.hi
    have h2 := hv.ol
    refine ⟨hv, ?_, ?_⟩
    · unfold F.gridlink_Reverse
      rw [v1, Option.bind_some, Bool.not_true, cond_false, cloneInt O (by omega), Option.bind_some, cloneInt X (by omega), Option.bind_some]
    · unfold F.gridlink_Reflect
      rw [v1, Option.bind_some, Bool.not_true, cond_false, cloneInt X (by omega), Option.bind_some, cloneInt O (by omega), Option.bind_some, revInt X (by omega) m (by omega), Option.bind_some, revInt O (by omega) m (by omega), Option.bind_some]
end Gl
open Ev Gl Gar in
theorem law44_GridlinkErrors_two (x0 x1 : List Int) : ∃ n, F.law44_GridlinkErrors n x0 x1 = some true := by
  refine ⟨200000000, ?_⟩
  unfold F.law44_GridlinkErrors
  rw [awake44, Option.bind_some, Bool.not_true, cond_false]
  rcases small_cases x0 x1 200000000 with hs | ⟨hs, l0, l1⟩
  · rw [hs, Option.bind_some, decide_eq_true rfl, cond_true]
  rw [hs, Option.bind_some, decide_eq_false (by decide), cond_false, lim_ok (by simp only [List.length_nil]; omega), Option.bind_some, lim_ok (by simp only [List.length_nil]; omega), Option.bind_some, List.nil_append, List.nil_append]
  unfold F.law44_GridlinkErrors_j0
  obtain ⟨r, v1, v2⟩ := refGridValid x0 x1 200000000 (by omega)
  rcases reverse_cases x0 x1 200000000 (by omega) with ⟨hv, e1, e2⟩ | ⟨hv, e1, e2⟩
  · cases r with
    | true => exact absurd (v2.1 rfl) hv
    | false =>
      rcases diagram_cases x0 x1 200000000 (by omega) with ⟨_, hd⟩ | ⟨n, x, o, cx, co, g, rfl, rfl, hc⟩
      · rw [e1, Option.bind_some, e2, Option.bind_some, hd, Option.bind_some, ints_same _ (by omega) _ (by omega), Option.bind_some, Bool.not_true, cond_false, ints_same _ (by omega) _ (by omega), Option.bind_some, Bool.not_true, cond_false, v1, Option.bind_some, cond_false]
        rfl
      · exact absurd g.vg hv
  · have hr := v2.2 hv
    subst hr
    rcases diagram_cases x0 x1 200000000 (by omega) with ⟨hv', hd⟩ | ⟨n, x, o, cx, co, g, rfl, rfl, hc⟩
    · exact absurd hv hv'
    · rcases hc with ⟨hL, hd⟩ | ⟨hL, s, vs, hO, hd, hrf⟩
      · rw [e1, Option.bind_some, e2, Option.bind_some, hd, Option.bind_some, ints_same _ (by omega) _ (by omega), Option.bind_some, Bool.not_true, cond_false, ints_same _ (by omega) _ (by omega), Option.bind_some, Bool.not_true, cond_false, v1, Option.bind_some, cond_true]
        rfl
      · rw [e1, Option.bind_some, e2, Option.bind_some, hd, Option.bind_some, ints_same _ (by omega) _ (by omega), Option.bind_some, Bool.not_true, cond_false, ints_same _ (by omega) _ (by omega), Option.bind_some, Bool.not_true, cond_false, v1, Option.bind_some, cond_true]
        rfl
theorem law44_GridlinkErrors_true (x0 : List Int × List Int) (o0 : Ev.Sh.ok (.pr (.sl (.int .i64)) (.sl (.int .i64))) x0) : ∃ n, F.law44_GridlinkErrors n x0.1 x0.2 = some true := law44_GridlinkErrors_two x0.1 x0.2
end Go.Proofs.Yticemffhlapnnaa
