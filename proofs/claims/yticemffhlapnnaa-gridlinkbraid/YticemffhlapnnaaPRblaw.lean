/- The grid of a braid: the law. -/
import Derived.Test.YticemffhlapnnaaPRbraid2
set_option linter.unusedVariables false
set_option linter.unusedSimpArgs false
namespace Go.Proofs.Yticemffhlapnnaa
namespace Gl
open Ev
theorem ints_same (l : List Int) (hl : l.length < 1000) (n : Nat) (hn : 2000 < n) : F.ref01_Ints n l l = some true := by
  have hlp : loopN n (F.ref01_Ints_b0 n l l) 0 = some (.inl (l.length : Int)) := by
    refine count_loop (body := F.ref01_Ints_b0 n l l) (fun k => (k : Int)) l.length (fun k hk => ?_) ?_ n (by omega)
    · have g : Ev.get l (k : Int) = some l[k] := get_at rfl (List.getElem?_eq_getElem hk)
      unfold F.ref01_Ints_b0
      dsimp only
      rw [decide_eq_true (show (k : Int) < (l.length : Int) by omega), cond_true, g, Option.bind_some, Option.bind_some, decide_eq_true rfl, Bool.not_true, cond_false, chk_ok (by omega) (by omega), Option.bind_some]
      rfl
    · unfold F.ref01_Ints_b0
      dsimp only
      rw [decide_eq_false (show ¬ (l.length : Int) < (l.length : Int) by omega), cond_false]
  unfold F.ref01_Ints
  rw [decide_eq_true rfl, Bool.not_true, cond_false, hlp]
  rfl
theorem braid_eq {s : Nat} {w : List Int} (hok : okB (s : Int) w = true) (hs : 2 * s + w.length ≤ 40) (n : Nat) (hn : 2000 < n) :
    ∃ X O : List Int, X.length < 1000 ∧ O.length < 1000 ∧ F.gridlink_Braid n s w = some (X, O, 0) ∧ F.ref44_Braid n s w = some (X, O) := by
  obtain ⟨_, _, _, hw⟩ := okB_iff.1 hok
  obtain ⟨mk, od, bot, top, pr, e1, e2, hB⟩ := letters s hw (by omega) n hn
  obtain ⟨mk', top', e3, e4, hf, hg⟩ := tops hB rfl (z26 := 2 * (s : Int) + w.length) rfl (rg_len s) (by omega) n hn
  subst hf hg
  have hml : mk'.length = s + w.length := by have := hB.bl; rwa [List.length_map] at this
  obtain ⟨X, O, hX, hO, e5, e6⟩ := rows1 (N := s + w.length) (mk := mk') (od := od) (fun c hc => by have := hB.ob c hc; omega) hml (by rw [hB.ol]; omega) n hn
  have hol := hB.ol
  obtain ⟨X2, O2, v1, v2, hX2, hO2, e7, e8⟩ := rows2 (s := s) (w := w) (X0 := X) (O0 := O) (z26 := 2 * (s : Int) + w.length) rfl (by omega) (by omega) (by omega) n hn
  refine ⟨X2, O2, by omega, by omega, ?_, ?_⟩
  · unfold F.gridlink_Braid
    rw [braidValid n (by omega), Option.bind_some, hok, Bool.not_true, cond_false, chk_ok (z := 2 * (s : Int)) (by omega) (by omega), Option.bind_some, chk_ok (z := 2 * (s : Int) + (w.length : Int)) (by omega) (by omega), Option.bind_some,
      decide_eq_false (by omega), cond_false, b0_eq s (by omega) n hn, Option.bind_some]
    dsimp only
    rw [e1, Option.bind_some]
    dsimp only
    rw [e3, Option.bind_some]
    dsimp only
    rw [pos_ok (by omega) (by omega), Option.bind_some, Option.bind_some, e5, Option.bind_some]
    dsimp only
    rw [e7, Option.bind_some]
  · unfold F.ref44_Braid
    rw [r0_eq s (by omega) n hn, Option.bind_some]
    dsimp only
    rw [e2, Option.bind_some]
    dsimp only
    rw [e4, Option.bind_some]
    dsimp only
    rw [e6, Option.bind_some]
    dsimp only
    rw [chk_ok (z := (s : Int) - 1) (by omega) (by omega), Option.bind_some, e8, Option.bind_some]
end Gl
open Ev Gl in
theorem law44_GridlinkBraid_true (z0 : Int) (x1 : List Int) (o0 : Ev.Sh.ok (.int .i64) z0) (o1 : Ev.Sh.ok (.sl (.int .i64)) x1) : ∃ n, F.law44_GridlinkBraid n z0 x1 = some true := by
  refine ⟨200000000, ?_⟩
  unfold F.law44_GridlinkBraid
  rw [awake44, Option.bind_some, Bool.not_true, cond_false]
  by_cases hl : (60 : Int) < (x1.length : Int)
  · rw [decide_eq_true hl, cond_true]
  rw [decide_eq_false hl, cond_false, refValid 200000000 (by omega)]
  cases hok : okB z0 x1 with
  | false =>
    have : F.gridlink_Braid 200000000 z0 x1 = some ([], [], 1) := by
      unfold F.gridlink_Braid
      rw [braidValid 200000000 (by omega), Option.bind_some, hok, Bool.not_false, cond_true]
    rw [this, Option.bind_some, Option.bind_some, Bool.not_false, cond_true]
    rfl
  | true =>
    obtain ⟨h1, h2, _, _⟩ := okB_iff.1 hok
    obtain ⟨s, rfl⟩ : ∃ s : Nat, z0 = (s : Int) := ⟨z0.toNat, by omega⟩
    by_cases h40 : 2 * s + x1.length ≤ 40
    · obtain ⟨X, O, hX, hO, e1, e2⟩ := braid_eq hok h40 200000000 (by omega)
      have hsame : F.ref42_Same 200000000 X O X O = some true := by
        unfold F.ref42_Same
        rw [ints_same X hX _ (by omega), Option.bind_some, cond_true, ints_same O hO _ (by omega), Option.bind_some]
      rw [e1, e2, Option.bind_some, Option.bind_some, Bool.not_true, cond_false, chk_ok (z := 2 * (s : Int)) (by omega) (by omega), Option.bind_some, chk_ok (z := 2 * (s : Int) + (x1.length : Int)) (by omega) (by omega), Option.bind_some,
        decide_eq_false (by omega), cond_false, decide_eq_true rfl, cond_true, Option.bind_some]
      dsimp only
      rw [hsame, Option.bind_some]
    · have : F.gridlink_Braid 200000000 s x1 = some ([], [], 5) := by
        unfold F.gridlink_Braid
        rw [braidValid 200000000 (by omega), Option.bind_some, hok, Bool.not_true, cond_false, chk_ok (z := 2 * (s : Int)) (by omega) (by omega), Option.bind_some, chk_ok (z := 2 * (s : Int) + (x1.length : Int)) (by omega) (by omega), Option.bind_some,
          decide_eq_true (by omega), cond_true]
      rw [this, Option.bind_some, Option.bind_some, Bool.not_true, cond_false, chk_ok (z := 2 * (s : Int)) (by omega) (by omega), Option.bind_some, chk_ok (z := 2 * (s : Int) + (x1.length : Int)) (by omega) (by omega), Option.bind_some,
        decide_eq_true (show (40 : Int) < 2 * (s : Int) + (x1.length : Int) by omega), cond_true]
      rfl
end Go.Proofs.Yticemffhlapnnaa
