/- The plain law of PolygonMoves. -/
import Derived.Test.YteajmbanlohncaaPQmap
import Derived.Test.YteajmbanlohncaaPQlaw1
import Derived.Test.YteajmbanlohncaaBulk
set_option linter.unusedVariables false
set_option linter.unusedSimpArgs false
namespace Go.Proofs.Yteajmbanlohncaa
open Ev
namespace Pg
abbrev ShP : Ev.Sh := .pr (.int .i64) (.pr (.int .i64) (.int .i64))
theorem sumlen_bulk (l : List (List Pt)) : sumlen l ≤ Ev.Sh.bulk (.sl (.sl ShP)) l := by
  have : ∀ l : List (List Pt), sumlen l ≤ (l.map (Ev.Sh.bulk (.sl ShP))).sum := by
    intro l
    induction l with
    | nil => simp [sumlen]
    | cons p r ih =>
      have h := Ev.Sh.bulk_len ShP p
      unfold sumlen at *
      rw [List.map_cons, List.sum_cons, List.map_cons, List.sum_cons]
      omega
  have h := this l
  show _ ≤ (l.map (Ev.Sh.bulk (.sl ShP))).sum + 1
  omega
theorem len_bulk (l : List (List Pt)) : l.length ≤ Ev.Sh.bulk (.sl (.sl ShP)) l := Ev.Sh.bulk_len (.sl ShP) l
def Few (l : List (List Pt)) : Prop := l.length ≤ 24 ∧ sumlen l ≤ 24
instance (l : List (List Pt)) : Decidable (Few l) := by unfold Few; infer_instance
theorem few_eq (l : List (List Pt)) (n : Nat) (hb : sumlen l ≤ 100000000) (hl : l.length ≤ 100000000) (hn : 100000000 < n) : F.law46_few n l = some (decide (Few l)) := by
  unfold F.law46_few
  have h0 : ((0 : Int), (0 : Int)) = (fun k : Nat => ((sumlen (l.take k) : Int), (k : Int))) 0 := by simp [sumlen]
  have hc : loopN n (F.law46_few_b0 n l) (0, 0) = some ((sumlen l : Int), (l.length : Int)) := by
    rw [h0]
    refine count_loop (fun k : Nat => ((sumlen (l.take k) : Int), (k : Int))) l.length (fun k hk => ?_) ?_ n (by omega)
    · have hg : l[k]? = some l[k] := List.getElem?_eq_getElem hk
      have hsu := sumlen_take_succ hg
      have hle := sumlen_take_le l (k + 1)
      unfold F.law46_few_b0
      dsimp only
      rw [decide_eq_true (by omega), cond_true, get_nat, hg, Option.bind_some, chk_ok (by omega) (by omega), Option.bind_some, chk_ok (by omega) (by omega), Option.bind_some, hsu, Int.natCast_add]
      rfl
    · unfold F.law46_few_b0
      dsimp only
      rw [decide_eq_false (by omega), cond_false, List.take_length]
  rw [hc, Option.bind_some]
  dsimp only
  by_cases h1 : l.length ≤ 24
  · rw [decide_eq_true (by omega), cond_true]
    refine congrArg some (decide_eq_decide.mpr ⟨fun h => ⟨h1, by omega⟩, fun h => by have := h.2; omega⟩)
  · rw [decide_eq_false (by omega), cond_false, decide_eq_false (fun h => h1 h.1)]
theorem generic_law (l : List (List Pt)) (n : Nat) (hb : sumlen l ≤ 100000000) (hl : l.length ≤ 100000000) (hn : 100000000 < n) : F.law46_generic n l = some (if Few l then ((projS l).1, (projS l).2.1, (projS l).2.2.1, decide ((projS l).2.2.2 = 0)) else ([], [], 0, false)) := by
  unfold F.law46_generic
  rw [few_eq l n hb hl hn, Option.bind_some]
  by_cases hf : Few l
  · rw [decide_eq_true hf, if_pos hf, Bool.not_true, cond_false, proj_eq l n hb hl hn, Option.bind_some]
  · rw [decide_eq_false hf, if_neg hf]; rfl
theorem proj_ok {l : List (List Pt)} (h : (projS l).2.2.2 = 0) : Vd l := by
  apply Classical.byContradiction
  intro hv
  unfold projS at h
  rw [if_neg hv] at h
  cases h
/-- The map of the law. -/
def mv (k x y z : Int) (p : Pt) : Pt := if Int.tmod k 3 = 0 then (p.1 + x, (p.2.1 + y, p.2.2 + z)) else if Int.tmod k 3 = 1 then (-p.2.1, (p.1, p.2.2)) else (p.1, (p.2.1, 3 * p.2.2))
theorem mv_eq {k x y z : Int} (hx : -128 ≤ x ∧ x ≤ 127) (hy : -128 ≤ y ∧ y ≤ 127) (hz : -128 ≤ z ∧ z ≤ 127) {p : Pt} (hp : Fit p) (n : Nat) :
    F.law46_PolygonMoves_c1 n p.1 p.2.1 p.2.2 k x y z = some (mv k x y z p) := by
  unfold Fit at hp
  unfold F.law46_PolygonMoves_c1 mv
  rw [nz_ok (by decide), Option.bind_some]
  by_cases h0 : Int.tmod k 3 = 0
  · rw [decide_eq_true h0, cond_true, if_pos h0, chk_ok (by omega) (by omega), Option.bind_some, chk_ok (by omega) (by omega), Option.bind_some, chk_ok (by omega) (by omega), Option.bind_some]
  rw [decide_eq_false h0, cond_false, if_neg h0]
  by_cases h1 : Int.tmod k 3 = 1
  · rw [decide_eq_true h1, cond_true, if_pos h1, chk_ok (by omega) (by omega), Option.bind_some]
  · rw [decide_eq_false h1, cond_false, if_neg h1, chk_ok (by omega) (by omega), Option.bind_some]
theorem moved_row {k x y z : Int} (hx : -128 ≤ x ∧ x ≤ 127) (hy : -128 ≤ y ∧ y ≤ 127) (hz : -128 ≤ z ∧ z ≤ 127) {p : List Pt} (hp : ∀ q ∈ p, Fit q) (hl : p.length ≤ 1000000) (n : Nat) (hn : p.length < n) :
    loopN n (F.law46_moved_law46_PolygonMoves_c1_b1 n k x y z p) ([], 0) = some (p.map (mv k x y z), (p.length : Int)) := by
  have h0 : (([] : List Pt), (0 : Int)) = (fun j : Nat => ((p.take j).map (mv k x y z), (j : Int))) 0 := by simp
  rw [h0]
  refine count_loop (fun j : Nat => ((p.take j).map (mv k x y z), (j : Int))) p.length (fun j hj => ?_) ?_ n hn
  · have hg : p[j]? = some p[j] := List.getElem?_eq_getElem hj
    unfold F.law46_moved_law46_PolygonMoves_c1_b1
    dsimp only
    rw [decide_eq_true (by omega), cond_true, get_nat, hg, Option.bind_some, mv_eq hx hy hz (hp _ (List.getElem_mem hj)), Option.bind_some, lim_ok (by simp; omega), Option.bind_some, chk_ok (by omega) (by omega), Option.bind_some, List.take_add_one, hg, List.map_append]
    rfl
  · unfold F.law46_moved_law46_PolygonMoves_c1_b1
    dsimp only
    rw [decide_eq_false (by omega), cond_false, List.take_length]
theorem moved_eq {k x y z : Int} (hx : -128 ≤ x ∧ x ≤ 127) (hy : -128 ≤ y ∧ y ≤ 127) (hz : -128 ≤ z ∧ z ≤ 127) {l : List (List Pt)} (hv : Vd l) (hl : l.length ≤ 1000000) (n : Nat) (hn : 1000000 < n) :
    F.law46_moved_law46_PolygonMoves_c1 n l k x y z = some (mapL (mv k x y z) l) := by
  unfold F.law46_moved_law46_PolygonMoves_c1
  have h0 : (([] : List (List Pt)), (0 : Int)) = (fun j : Nat => (mapL (mv k x y z) (l.take j), (j : Int))) 0 := by simp [mapL]
  have hc : loopN n (F.law46_moved_law46_PolygonMoves_c1_b0 n l k x y z) (([] : List (List Pt)), (0 : Int)) = some (mapL (mv k x y z) l, (l.length : Int)) := by
    rw [h0]
    refine count_loop (fun j : Nat => (mapL (mv k x y z) (l.take j), (j : Int))) l.length (fun j hj => ?_) ?_ n (by omega)
    · have hg : l[j]? = some l[j] := List.getElem?_eq_getElem hj
      have hm := List.getElem_mem hj
      have hs := sumlen_mem hm
      have hv2 := hv.2
      unfold F.law46_moved_law46_PolygonMoves_c1_b0
      dsimp only
      rw [decide_eq_true (by omega), cond_true, get_nat, hg, Option.bind_some, moved_row hx hy hz (hv.1 _ hm).2 (by omega) n (by omega), Option.bind_some]
      dsimp only
      rw [lim_ok (by simp [mapL]; omega), Option.bind_some, chk_ok (by omega) (by omega), Option.bind_some, List.take_add_one, hg]
      unfold mapL
      rw [List.map_append]
      rfl
    · unfold F.law46_moved_law46_PolygonMoves_c1_b0
      dsimp only
      rw [decide_eq_false (by omega), cond_false, List.take_length]
  rw [hc, Option.bind_some]
theorem minmax_add (x y t : Int) : min (x + t) (y + t) = min x y + t ∧ max (x + t) (y + t) = max x y + t := by omega
theorem cr_keep {g : Pt → Pt} {a b c d : Pt} (ha : Fit a ∧ Fit (g a)) (hb : Fit b ∧ Fit (g b)) (hc : Fit c ∧ Fit (g c)) (hd : Fit d ∧ Fit (g d))
    (t : ∀ a b c, T (g a) (g b) (g c) = T a b c) (on : ∀ a b c, On (g a) (g b) (g c) ↔ On a b c) (u : (hU (g a) (g b) (g c) (g d) = hU (g c) (g d) (g a) (g b) ↔ hU a b c d = hU c d a b) ∧ (hU (g a) (g b) (g c) (g d) < hU (g c) (g d) (g a) (g b) ↔ hU a b c d < hU c d a b)) : cr (g a) (g b) (g c) (g d) = cr a b c d := by
  unfold cr
  have f1 : Fit a ∧ Fit b ∧ Fit c ∧ Fit d := ⟨ha.1, hb.1, hc.1, hd.1⟩
  have f2 : Fit (g a) ∧ Fit (g b) ∧ Fit (g c) ∧ Fit (g d) := ⟨ha.2, hb.2, hc.2, hd.2⟩
  rw [if_pos f1, if_pos f2]
  simp only [t, on]
  have u3 : (hU (g c) (g d) (g a) (g b) < hU (g a) (g b) (g c) (g d)) = (hU c d a b < hU a b c d) := propext (by omega)
  simp only [u.1, u.2, u3]
theorem mv_keep (k x y z : Int) : Keep (mv k x y z) (fun p => Fit p ∧ Fit (mv k x y z p)) := by
  have t : ∀ a b c, T (mv k x y z a) (mv k x y z b) (mv k x y z c) = T a b c := by
    intro a b c
    unfold mv T
    split
    · dsimp only; grind
    split
    · dsimp only; grind
    · rfl
  have on : ∀ a b c, On (mv k x y z a) (mv k x y z b) (mv k x y z c) ↔ On a b c := by
    intro a b c
    unfold On
    rw [t]
    unfold mv
    split
    · dsimp only; omega
    split
    · dsimp only; omega
    · rfl
  refine ⟨fun a b c _ _ _ => t a b c, fun a b c _ _ _ => on a b c, fun a b _ _ => ?_, fun a b c d ha hb hc hd => ?_, fun a b c d _ _ _ _ => ?_⟩
  · unfold Flat mv
    split
    · dsimp only; omega
    split
    · dsimp only; omega
    · rfl
  · refine cr_keep ha hb hc hd t on ?_
    have q : ∀ a b c d, ∃ w : Int, (w = 1 ∨ w = 3) ∧ ∃ v : Int, hU (mv k x y z a) (mv k x y z b) (mv k x y z c) (mv k x y z d) = w * hU a b c d + v ∧ hU (mv k x y z c) (mv k x y z d) (mv k x y z a) (mv k x y z b) = w * hU c d a b + v := by
      intro a b c d
      unfold hU
      simp only [t]
      unfold mv
      split
      · refine ⟨1, .inl rfl, z * (T c d a - T c d b) * (T a b c - T a b d), ?_, ?_⟩ <;> dsimp only <;> grind
      split
      · refine ⟨1, .inl rfl, 0, ?_, ?_⟩ <;> dsimp only <;> grind
      · refine ⟨3, .inr rfl, 0, ?_, ?_⟩ <;> dsimp only <;> grind
    obtain ⟨w, hw, v, e1, e2⟩ := q a b c d
    rw [e1, e2]
    rcases hw with rfl | rfl <;> omega
  · unfold mv
    split
    · dsimp only; grind
    split
    · dsimp only; grind
    · rfl
theorem equalI (xs ys : List Int) (n : Nat) (hx : xs.length < n) (hb : xs.length ≤ 1000000000) : xs = ys → F.slices_Equal_Lint_int n xs ys = some true := by
  rintro rfl
  unfold F.slices_Equal_Lint_int
  rw [decide_eq_true rfl, Bool.not_true, cond_false]
  have hs := scan_loop (body := F.slices_Equal_Lint_int_b0 n xs xs) (fun k => (k : Int)) xs.length (fun k => none) (e := (xs.length : Int)) (fun k hk => by
    unfold F.slices_Equal_Lint_int_b0
    dsimp only
    rw [decide_eq_true (by omega), cond_true, get_nat, List.getElem?_eq_getElem hk, Option.bind_some, Option.bind_some, decide_eq_true rfl, Bool.not_true, cond_false, chk_ok (by omega) (by omega), Option.bind_some]
    rfl) (by
    unfold F.slices_Equal_Lint_int_b0
    dsimp only
    rw [decide_eq_false (by omega), cond_false]) n hx
  rw [show (0 : Int) = (fun k : Nat => (k : Int)) 0 from rfl, hs, findSome_none (fun _ _ => rfl)]
  rfl
theorem equalD (d : Dg) (n : Nat) (h1 : d.1.length < n) (h2 : d.2.1.length < n) (b1 : d.1.length ≤ 1000000000) (b2 : d.2.1.length ≤ 1000000000) : F.diagram_Equal n d.1 d.2.1 d.2.2.1 d.1 d.2.1 d.2.2.1 = some true := by
  unfold F.diagram_Equal
  rw [equalI _ _ n h1 b1 rfl, Option.bind_some, cond_true, equalI _ _ n h2 b2 rfl, Option.bind_some, cond_true, decide_eq_true rfl]
theorem gd_small (cs : List (List Vis)) (sg : List Int) (lo : Int) : (gdS cs sg lo).1.length ≤ 64 ∧ (gdS cs sg lo).2.1.length ≤ 256 := by
  unfold gdS
  split
  · rename_i hg
    have h64 := hg.1
    split
    · dsimp only
      rw [hg.mt.1]
      omega
    · simp
  · simp
theorem proj_small (l : List (List Pt)) : (projS l).1.length ≤ 64 ∧ (projS l).2.1.length ≤ 256 := by
  unfold projS
  split
  · split
    · split
      · simp
      · exact gd_small _ _ _
    · simp
  · simp
end Pg
open Pg in
theorem law46_PolygonMoves_true (x0 : List (List (Int × (Int × Int)))) (z1 z2 z3 z4 : Int) (o0 : Ev.Sh.ok (.sl (.sl (.pr (.int .i64) (.pr (.int .i64) (.int .i64))))) x0) (o1 : Ev.Sh.ok (.int .i8) z1) (o2 : Ev.Sh.ok (.int .i8) z2) (o3 : Ev.Sh.ok (.int .i8) z3) (o4 : Ev.Sh.ok (.int .u8) z4)
    (b0 : Ev.Sh.bulk (.sl (.sl (.pr (.int .i64) (.pr (.int .i64) (.int .i64))))) x0 ≤ 1048576) (b1 : Ev.Sh.bulk (.int .i8) z1 ≤ 1048576) (b2 : Ev.Sh.bulk (.int .i8) z2 ≤ 1048576) (b3 : Ev.Sh.bulk (.int .i8) z3 ≤ 1048576) (b4 : Ev.Sh.bulk (.int .u8) z4 ≤ 1048576) :
    ∃ n, F.law46_PolygonMoves n x0 z1 z2 z3 z4 = some true := by
  have i8 : ∀ z : Int, IntKind.i8.wrap z = z → -128 ≤ z ∧ z ≤ 127 := by
    intro z h
    simp [IntKind.wrap, IntKind.signed, IntKind.bits] at h; omega
  have h1 := i8 z1 o1
  have h2 := i8 z2 o2
  have h3 := i8 z3 o3
  have s1 := sumlen_bulk x0
  have s2 := len_bulk x0
  have hs1 : sumlen x0 ≤ 1048576 := Nat.le_trans s1 b0
  have hs2 : x0.length ≤ 1048576 := Nat.le_trans s2 b0
  refine ⟨200000000, ?_⟩
  unfold F.law46_PolygonMoves
  rw [awake46, Option.bind_some, Bool.not_true, cond_false, generic_law x0 200000000 (by omega) (by omega) (by decide), Option.bind_some]
  by_cases hf : Few x0
  case neg => rw [if_neg hf]; rfl
  rw [if_pos hf]
  dsimp only
  by_cases h0 : (projS x0).2.2.2 = 0
  case neg => rw [decide_eq_false h0]; rfl
  have hv := proj_ok h0
  have hf2 := hf.1
  rw [decide_eq_true h0, Bool.not_true, cond_false, moved_eq h1 h2 h3 hv (by omega) 200000000 (by decide), Option.bind_some, proj_eq _ 200000000 (by rw [mapL_sum]; omega) (by unfold mapL; rw [List.length_map]; omega) (by decide), Option.bind_some]
  by_cases hv' : Vd (mapL (mv z4 z1 z2 z3) x0)
  · have e := proj_map (mv_keep z4 z1 z2 z3) (l := x0) (fun p hp x hx => ⟨(hv.1 p hp).2 x hx, (hv'.1 (p.map (mv z4 z1 z2 z3)) (List.mem_map.2 ⟨p, hp, rfl⟩)).2 _ (List.mem_map.2 ⟨x, hx, rfl⟩)⟩) hv hv'
    obtain ⟨q1, q2⟩ := proj_small x0
    rw [e, decide_eq_false (by omega), cond_false, decide_eq_true h0, cond_true, equalD _ _ (by omega) (by omega) (by omega) (by omega), Option.bind_some]
  · have e : projS (mapL (mv z4 z1 z2 z3) x0) = ([], [], 0, 1) := by unfold projS; rw [if_neg hv']
    rw [e]
    rfl
end Go.Proofs.Yteajmbanlohncaa
