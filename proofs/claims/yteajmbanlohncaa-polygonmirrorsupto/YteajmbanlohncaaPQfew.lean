/- Few edges; the projection of the law; equal diagrams. -/
import Derived.Test.YteajmbanlohncaaPQproj
import Derived.Test.YteajmbanlohncaaBulk
set_option linter.unusedVariables false
set_option linter.unusedSimpArgs false
namespace Go.Proofs.Yteajmbanlohncaa
open Ev
namespace Pg
abbrev ShP : Ev.Sh := .pr (.int .i64) (.pr (.int .i64) (.int .i64))
theorem sumlen_bulk (l : List (List Pt)) : sumlen l ≤ Ev.Sh.bulk (.sl (.sl ShP)) l := by
  have : ∀ l : List (List Pt), sumlen l ≤ (l.map (Ev.Sh.bulk (.sl ShP))).sum := by
    intro l
    induction l with
    | nil => simp [sumlen]
    | cons p r ih =>
      have h := Ev.Sh.bulk_len ShP p
      unfold sumlen at *
      rw [List.map_cons, List.sum_cons, List.map_cons, List.sum_cons]
      omega
  have h := this l
  show _ ≤ (l.map (Ev.Sh.bulk (.sl ShP))).sum + 1
  omega
theorem len_bulk (l : List (List Pt)) : l.length ≤ Ev.Sh.bulk (.sl (.sl ShP)) l := Ev.Sh.bulk_len (.sl ShP) l
def Few (l : List (List Pt)) : Prop := l.length ≤ 24 ∧ sumlen l ≤ 24
instance (l : List (List Pt)) : Decidable (Few l) := by unfold Few; infer_instance
theorem few_eq (l : List (List Pt)) (n : Nat) (hb : sumlen l ≤ 100000000) (hl : l.length ≤ 100000000) (hn : 100000000 < n) : F.law46_few n l = some (decide (Few l)) := by
  unfold F.law46_few
  have h0 : ((0 : Int), (0 : Int)) = (fun k : Nat => ((sumlen (l.take k) : Int), (k : Int))) 0 := by simp [sumlen]
  have hc : loopN n (F.law46_few_b0 n l) (0, 0) = some ((sumlen l : Int), (l.length : Int)) := by
    rw [h0]
    refine count_loop (fun k : Nat => ((sumlen (l.take k) : Int), (k : Int))) l.length (fun k hk => ?_) ?_ n (by omega)
    · have hg : l[k]? = some l[k] := List.getElem?_eq_getElem hk
      have hsu := sumlen_take_succ hg
      have hle := sumlen_take_le l (k + 1)
      unfold F.law46_few_b0
      dsimp only
      rw [decide_eq_true (by omega), cond_true, get_nat, hg, Option.bind_some, chk_ok (by omega) (by omega), Option.bind_some, chk_ok (by omega) (by omega), Option.bind_some, hsu, Int.natCast_add]
      rfl
    · unfold F.law46_few_b0
      dsimp only
      rw [decide_eq_false (by omega), cond_false, List.take_length]
  rw [hc, Option.bind_some]
  dsimp only
  by_cases h1 : l.length ≤ 24
  · rw [decide_eq_true (by omega), cond_true]
    refine congrArg some (decide_eq_decide.mpr ⟨fun h => ⟨h1, by omega⟩, fun h => by have := h.2; omega⟩)
  · rw [decide_eq_false (by omega), cond_false, decide_eq_false (fun h => h1 h.1)]
theorem generic_law (l : List (List Pt)) (n : Nat) (hb : sumlen l ≤ 100000000) (hl : l.length ≤ 100000000) (hn : 100000000 < n) : F.law46_generic n l = some (if Few l then ((projS l).1, (projS l).2.1, (projS l).2.2.1, decide ((projS l).2.2.2 = 0)) else ([], [], 0, false)) := by
  unfold F.law46_generic
  rw [few_eq l n hb hl hn, Option.bind_some]
  by_cases hf : Few l
  · rw [decide_eq_true hf, if_pos hf, Bool.not_true, cond_false, proj_eq l n hb hl hn, Option.bind_some]
  · rw [decide_eq_false hf, if_neg hf]; rfl
theorem proj_ok {l : List (List Pt)} (h : (projS l).2.2.2 = 0) : Vd l := by
  apply Classical.byContradiction
  intro hv
  unfold projS at h
  rw [if_neg hv] at h
  cases h
theorem equalI (xs ys : List Int) (n : Nat) (hx : xs.length < n) (hb : xs.length ≤ 1000000000) : xs = ys → F.slices_Equal_Lint_int n xs ys = some true := by
  rintro rfl
  unfold F.slices_Equal_Lint_int
  rw [decide_eq_true rfl, Bool.not_true, cond_false]
  have hs := scan_loop (body := F.slices_Equal_Lint_int_b0 n xs xs) (fun k => (k : Int)) xs.length (fun k => none) (e := (xs.length : Int)) (fun k hk => by
    unfold F.slices_Equal_Lint_int_b0
    dsimp only
    rw [decide_eq_true (by omega), cond_true, get_nat, List.getElem?_eq_getElem hk, Option.bind_some, Option.bind_some, decide_eq_true rfl, Bool.not_true, cond_false, chk_ok (by omega) (by omega), Option.bind_some]
    rfl) (by
    unfold F.slices_Equal_Lint_int_b0
    dsimp only
    rw [decide_eq_false (by omega), cond_false]) n hx
  rw [show (0 : Int) = (fun k : Nat => (k : Int)) 0 from rfl, hs, findSome_none (fun _ _ => rfl)]
  rfl
theorem equalD (d : Dg) (n : Nat) (h1 : d.1.length < n) (h2 : d.2.1.length < n) (b1 : d.1.length ≤ 1000000000) (b2 : d.2.1.length ≤ 1000000000) : F.diagram_Equal n d.1 d.2.1 d.2.2.1 d.1 d.2.1 d.2.2.1 = some true := by
  unfold F.diagram_Equal
  rw [equalI _ _ n h1 b1 rfl, Option.bind_some, cond_true, equalI _ _ n h2 b2 rfl, Option.bind_some, cond_true, decide_eq_true rfl]
theorem gd_small (cs : List (List Vis)) (sg : List Int) (lo : Int) : (gdS cs sg lo).1.length ≤ 64 ∧ (gdS cs sg lo).2.1.length ≤ 256 := by
  unfold gdS
  split
  · rename_i hg
    have h64 := hg.1
    split
    · dsimp only
      rw [hg.mt.1]
      omega
    · simp
  · simp
theorem proj_small (l : List (List Pt)) : (projS l).1.length ≤ 64 ∧ (projS l).2.1.length ≤ 256 := by
  unfold projS
  split
  · split
    · split
      · simp
      · exact gd_small _ _ _
    · simp
  · simp
theorem proj_parts {l : List (List Pt)} (h : (projS l).2.2.2 = 0) : Vd l ∧ GenE (edS 0 l) ∧ GV (codeS (edS 0 l) (srt (edS 0 l)) l).1 (codeS (edS 0 l) (srt (edS 0 l)) l).2.1 (codeS (edS 0 l) (srt (edS 0 l)) l).2.2 ∧
    Int.tdiv (gen2 (codeS (edS 0 l) (srt (edS 0 l)) l).2.1.length (muS (codeS (edS 0 l) (srt (edS 0 l)) l).2.1 (codeS (edS 0 l) (srt (edS 0 l)) l).1)) 2 = 0 ∧
    projS l = ((codeS (edS 0 l) (srt (edS 0 l)) l).2.1, mtS (codeS (edS 0 l) (srt (edS 0 l)) l).2.1 (codeS (edS 0 l) (srt (edS 0 l)) l).1, (codeS (edS 0 l) (srt (edS 0 l)) l).2.2, 0) ∧ ¬ 128 < countS (edS 0 l) := by
  have hv := proj_ok h
  unfold projS at h ⊢
  rw [if_pos hv] at h ⊢
  by_cases hg : GenE (edS 0 l)
  case neg => rw [if_neg hg] at h; cases h
  rw [if_pos hg] at h ⊢
  by_cases hc : 128 < countS (edS 0 l)
  case pos => rw [if_pos hc] at h; cases h
  rw [if_neg hc] at h ⊢
  unfold gdS at h ⊢
  by_cases hG : GV (codeS (edS 0 l) (srt (edS 0 l)) l).1 (codeS (edS 0 l) (srt (edS 0 l)) l).2.1 (codeS (edS 0 l) (srt (edS 0 l)) l).2.2
  case neg => rw [if_neg hG] at h; cases h
  rw [if_pos hG] at h ⊢
  by_cases h0 : Int.tdiv (gen2 (codeS (edS 0 l) (srt (edS 0 l)) l).2.1.length (muS (codeS (edS 0 l) (srt (edS 0 l)) l).2.1 (codeS (edS 0 l) (srt (edS 0 l)) l).1)) 2 = 0
  case neg => rw [if_neg h0] at h; cases h
  rw [if_pos h0]
  exact ⟨hv, hg, hG, h0, rfl, hc⟩
/-- Components and loops are as many as polygons. -/
theorem comps_loops (es : List Ed) (P : Nat → List (Int × Bool)) (l : List (List Pt)) : ((cofold es P l).2.1.length : Int) + (cofold es P l).2.2.2.1 = (l.length : Int) := by
  have key : ∀ (l : List (List Pt)) (a : CO), (((l.foldl (costep es P) a).2.1.length : Int) + (l.foldl (costep es P) a).2.2.2.1) = (a.2.1.length : Int) + a.2.2.2.1 + (l.length : Int) := by
    intro l
    induction l with
    | nil => intro a; simp
    | cons p r ih =>
      intro a
      rw [List.foldl_cons, ih]
      unfold costep
      dsimp only
      rw [List.length_cons]
      split
      · rw [List.length_append, List.length_singleton]; omega
      · omega
  have := key l (0, [], [], 0, [])
  unfold cofold
  rw [this]
  simp
end Pg
end Go.Proofs.Yteajmbanlohncaa
