/- The plain law of PolygonTriangles. -/
import Derived.Test.YteajmbanlohncaaPQproj
import Derived.Test.YteajmbanlohncaaPQlaw1
set_option linter.unusedVariables false
set_option linter.unusedSimpArgs false
namespace Go.Proofs.Yteajmbanlohncaa
open Ev
namespace Pg
theorem btw {A D E G : Int} (hD : 0 < D) (h0 : 0 ≤ A) (h1 : A ≤ D) (h : A * E = G * D) : min 0 E ≤ G ∧ G ≤ max 0 E := by
  rcases Int.le_total 0 E with hE | hE
  · have p1 : 0 ≤ A * E := Int.mul_nonneg h0 hE
    have p2 : A * E ≤ D * E := Int.mul_le_mul_of_nonneg_right h1 hE
    have q1 : 0 ≤ G := by
      rcases Int.lt_or_le G 0 with hG | hG
      · have := Int.mul_neg_of_neg_of_pos hG hD; omega
      · exact hG
    have q2 : G ≤ E := by
      rw [h, Int.mul_comm D E] at p2
      exact Int.le_of_mul_le_mul_right p2 hD
    omega
  · have p1 : A * E ≤ 0 := Int.mul_nonpos_of_nonneg_of_nonpos h0 hE
    have p2 : D * E ≤ A * E := Int.mul_le_mul_of_nonpos_right h1 hE
    have q1 : G ≤ 0 := by
      rcases Int.lt_or_le 0 G with hG | hG
      · have := Int.mul_pos hG hD; omega
      · exact hG
    have q2 : E ≤ G := by
      rw [h, Int.mul_comm D E] at p2
      exact Int.le_of_mul_le_mul_right p2 hD
    omega
theorem on_mid {p q m : Pt} (h : T p q m = 0) (h1 : p.1 ≤ m.1) (h2 : m.1 ≤ q.1) (hne : p.1 ≠ q.1) : On p q m := by
  have e : (m.1 - p.1) * (q.2.1 - p.2.1) = (m.2.1 - p.2.1) * (q.1 - p.1) := by unfold T at h; grind
  have := btw (A := m.1 - p.1) (D := q.1 - p.1) (E := q.2.1 - p.2.1) (G := m.2.1 - p.2.1) (by omega) (by omega) (by omega) e
  refine ⟨h, ?_⟩
  omega
theorem on_mid' {p q m : Pt} (h : T p q m = 0) (h1 : q.1 ≤ m.1) (h2 : m.1 ≤ p.1) (hne : p.1 ≠ q.1) : On p q m :=
  (On_swap p q m).1 (on_mid (p := q) (q := p) (by rw [T_swap p q m, h]; rfl) h1 h2 (fun e => hne e.symm))
theorem col {a b c : Pt} (h : T a b c = 0) : On a b c ∨ On b c a ∨ On c a b := by
  have h2 : T b c a = 0 := by unfold T at h ⊢; grind
  have h3 : T c a b = 0 := by unfold T at h ⊢; grind
  by_cases hx : a.1 = b.1 ∧ b.1 = c.1
  · obtain ⟨e1, e2⟩ := hx
    by_cases c1 : min a.2.1 b.2.1 ≤ c.2.1 ∧ c.2.1 ≤ max a.2.1 b.2.1
    · exact .inl ⟨h, by omega, by omega, c1.1, c1.2⟩
    by_cases c2 : min b.2.1 c.2.1 ≤ a.2.1 ∧ a.2.1 ≤ max b.2.1 c.2.1
    · exact .inr (.inl ⟨h2, by omega, by omega, c2.1, c2.2⟩)
    · exact .inr (.inr ⟨h3, by omega, by omega, by omega, by omega⟩)
  · rcases Int.le_total a.1 b.1 with l1 | l1 <;> rcases Int.le_total b.1 c.1 with l2 | l2 <;> rcases Int.le_total a.1 c.1 with l3 | l3
    · exact .inr (.inr (on_mid' h3 l1 l2 (by omega)))
    · omega
    · exact .inl (on_mid h l3 l2 (by omega))
    · exact .inr (.inl (on_mid' h2 l3 l1 (by omega)))
    · exact .inr (.inl (on_mid h2 l1 l3 (by omega)))
    · exact .inl (on_mid' h l2 l3 (by omega))
    · omega
    · exact .inr (.inr (on_mid h3 l2 l1 (by omega)))
def triE (a b c : Pt) : List Ed := [(a, (b, (0, 1))), (b, (c, (1, 2))), (c, (a, (2, 0)))]
theorem tri_edges (a b c : Pt) : edS 0 [[a, b, c]] = triE a b c := by
  unfold edS edS edRow triE
  simp [List.range_succ, mkE, p0]
theorem tri_ps (a b c : Pt) (i : Nat) (hi : i < 3) : ps (triE a b c) i 3 = [] := by
  unfold ps
  rw [List.filterMap_eq_nil_iff]
  intro k hk
  have hk := List.mem_range.1 hk
  unfold psg
  rw [if_pos]
  have : i = 0 ∨ i = 1 ∨ i = 2 := by omega
  have : k = 0 ∨ k = 1 ∨ k = 2 := by omega
  rcases ‹i = 0 ∨ i = 1 ∨ i = 2› with rfl | rfl | rfl <;> rcases ‹k = 0 ∨ k = 1 ∨ k = 2› with rfl | rfl | rfl <;> simp [Adj, eAt, triE]
theorem tri_srt (a b c : Pt) (i : Nat) (hi : i < 3) : srt (triE a b c) i = [] := by
  unfold srt
  rw [show (triE a b c).length = 3 from rfl, tri_ps a b c i hi]
  rfl
theorem tri_gen (a b c : Pt) : GenE (triE a b c) ↔ T a b c ≠ 0 := by
  constructor
  · intro h h0
    rcases col h0 with ho | ho | ho
    · exact (h 0 (show 0 < 3 by decide)).1 2 (show 2 < 3 by decide) (by decide) (.inr (.inl ⟨by simp [eAt, triE], by simpa [eAt, triE] using ho⟩))
    · exact (h 1 (show 1 < 3 by decide)).1 0 (show 0 < 3 by decide) (by decide) (.inr (.inl ⟨by simp [eAt, triE], by simpa [eAt, triE] using ho⟩))
    · exact (h 2 (show 2 < 3 by decide)).1 1 (show 1 < 3 by decide) (by decide) (.inr (.inl ⟨by simp [eAt, triE], by simpa [eAt, triE] using ho⟩))
  · intro h i hi
    have hi : i < 3 := hi
    refine ⟨fun k hk hki hB => ?_, ?_⟩
    · have hk : k < 3 := hk
      have t1 : T b c a = T a b c := by unfold T; grind
      have t2 : T c a b = T a b c := by unfold T; grind
      have f1 : ¬ Flat a b := fun hf => h (by obtain ⟨h1, h2⟩ := hf; unfold T; rw [h1, h2]; grind)
      have f2 : ¬ Flat b c := fun hf => h (by obtain ⟨h1, h2⟩ := hf; rw [← t1]; unfold T; rw [h1, h2]; grind)
      have f3 : ¬ Flat c a := fun hf => h (by obtain ⟨h1, h2⟩ := hf; rw [← t2]; unfold T; rw [h1, h2]; grind)
      have f1' : ¬ Flat b a := fun hf => f1 ⟨hf.1.symm, hf.2.symm⟩
      have f2' : ¬ Flat c b := fun hf => f2 ⟨hf.1.symm, hf.2.symm⟩
      have f3' : ¬ Flat a c := fun hf => f3 ⟨hf.1.symm, hf.2.symm⟩
      have o1 : ¬ On a b c := fun ho => h ho.1
      have o2 : ¬ On b c a := fun ho => h (t1 ▸ ho.1)
      have o3 : ¬ On c a b := fun ho => h (t2 ▸ ho.1)
      have : i = 0 ∨ i = 1 ∨ i = 2 := by omega
      have : k = 0 ∨ k = 1 ∨ k = 2 := by omega
      rcases ‹i = 0 ∨ i = 1 ∨ i = 2› with rfl | rfl | rfl <;> rcases ‹k = 0 ∨ k = 1 ∨ k = 2› with rfl | rfl | rfl <;> first | exact hki rfl | (revert hB; simp [BadP, Adj, eAt, triE, f1, f2, f3, f1', f2', f3', o1, o2, o3])
    · rintro ⟨k, h1, h2, _⟩
      rw [tri_srt a b c i hi] at h2
      simp at h2
theorem tri_code (a b c : Pt) : codeS (triE a b c) (srt (triE a b c)) [[a, b, c]] = ([], [], 1) := by
  have h : cpoly (triE a b c) (srt (triE a b c)) 0 3 ([], [], []) = ([], [], []) := by
    unfold cpoly
    simp [List.range_succ, crow, tri_srt]
  unfold codeS cofold
  simp [costep, h]
theorem loop_gd : gdS [] [] 1 = ([], [], 1, 0) := by
  have h1 := gd_eq [] [] 1 1000 (by simp) (by simp) (by decide) (by simp) (by simp)
  have h2 : F.gauss_Diagram 1000 [] [] 1 = some ([], [], 1, 0) := by decide +kernel
  rw [h2] at h1
  injection h1 with h1
  exact h1.symm
end Pg
open Pg in
theorem law46_PolygonTriangles_true (x0 x1 x2 : Int × (Int × Int)) (o0 : Ev.Sh.ok (.pr (.int .i64) (.pr (.int .i64) (.int .i64))) x0) (o1 : Ev.Sh.ok (.pr (.int .i64) (.pr (.int .i64) (.int .i64))) x1) (o2 : Ev.Sh.ok (.pr (.int .i64) (.pr (.int .i64) (.int .i64))) x2) :
    ∃ n, F.law46_PolygonTriangles n x0.1 x0.2.1 x0.2.2 x1.1 x1.2.1 x1.2.2 x2.1 x2.2.1 x2.2.2 = some true := by
  refine ⟨200000000, ?_⟩
  have hP := proj_eq [[x0, x1, x2]] 200000000 (Nat.le_of_ble_eq_true rfl) (Nat.le_of_ble_eq_true rfl) (by decide)
  have hG := generic_eq [[x0, x1, x2]] 200000000 (Nat.le_of_ble_eq_true rfl) (Nat.le_of_ble_eq_true rfl) (by decide)
  have hvd : Vd [[x0, x1, x2]] ↔ Pg.Fit x0 ∧ Pg.Fit x1 ∧ Pg.Fit x2 := by
    constructor
    · intro h
      have := (h.1 _ (List.mem_singleton_self _)).2
      exact ⟨this x0 (by simp), this x1 (by simp), this x2 (by simp)⟩
    · rintro ⟨h1, h2, h3⟩
      have hs : sumlen [[x0, x1, x2]] ≤ 100 := Nat.le_of_ble_eq_true rfl
      refine ⟨fun p hp => ?_, hs⟩
      rw [List.mem_singleton] at hp
      subst hp
      refine ⟨by simp, fun x hx => ?_⟩
      rcases List.mem_cons.1 hx with rfl | hx
      · exact h1
      rcases List.mem_cons.1 hx with rfl | hx
      · exact h2
      rw [List.mem_singleton] at hx
      subst hx
      exact h3
  have hG2 : F.polygon_Generic 200000000 [[x0, x1, x2]] = some (decide ((Pg.Fit x0 ∧ Pg.Fit x1 ∧ Pg.Fit x2) ∧ T x0 x1 x2 ≠ 0)) := by
    rw [hG]
    exact congrArg some (decide_eq_decide.mpr (by rw [hvd, tri_edges, tri_gen]))
  replace hG := hG2
  clear hG2
  unfold F.law46_PolygonTriangles
  rw [awake46, Option.bind_some, Bool.not_true, cond_false, hP, Option.bind_some]
  rw [show Ev.get ([[x0, x1, x2]] : List (List Pt)) 0 = some [x0, x1, x2] from rfl, Option.bind_some]
  have hzero : F.law46_zero 200000000 [] [] 0 = some true := by decide +kernel
  have hbad : ∀ x : Pt, (1000 < max (max x.1 x.2.1) x.2.2 ∨ min (min x.1 x.2.1) x.2.2 < -1000) ↔ ¬ Pg.Fit x := by intro x; unfold Pg.Fit; omega
  have hlp := scan_loop (body := F.law46_PolygonTriangles_b0 200000000 (projS [[x0, x1, x2]]) [x0, x1, x2]) (fun k => (k : Int)) 3 (fun k => if Pg.Fit ([x0, x1, x2].getD k p0) then none else some (decide ((projS [[x0, x1, x2]]).2.2.2 = 1) && decide ((projS [[x0, x1, x2]]).1.length = 0) && decide ((projS [[x0, x1, x2]]).2.1.length = 0) && decide ((projS [[x0, x1, x2]]).2.2.1 = 0))) (e := 3) (fun k hk => by
    have hz : F.law46_zero 200000000 (projS [[x0, x1, x2]]).1 (projS [[x0, x1, x2]]).2.1 (projS [[x0, x1, x2]]).2.2.1 = some (decide ((projS [[x0, x1, x2]]).1.length = 0) && decide ((projS [[x0, x1, x2]]).2.1.length = 0) && decide ((projS [[x0, x1, x2]]).2.2.1 = 0)) := by
      unfold F.law46_zero
      by_cases h1 : (projS [[x0, x1, x2]]).1.length = 0
      · by_cases h2 : (projS [[x0, x1, x2]]).2.1.length = 0 <;> simp [h1, h2]
      · simp [h1]
    generalize projS [[x0, x1, x2]] = D at *
    have hlen : ([x0, x1, x2] : List Pt).length = 3 := rfl
    have hg : [x0, x1, x2][k]? = some ([x0, x1, x2].getD k p0) := by
      rw [getD_of' (by rw [hlen]; exact hk), List.getElem?_eq_getElem (by rw [hlen]; exact hk)]
    generalize hxx : [x0, x1, x2].getD k p0 = x at *
    have hb := hbad x
    unfold F.law46_PolygonTriangles_b0
    dsimp only
    rw [hlen, decide_eq_true (by omega), cond_true, get_nat, hg, Option.bind_some]
    by_cases h1 : 1000 < max (max x.1 x.2.1) x.2.2
    · rw [decide_eq_true h1, cond_true, if_neg (hb.1 (.inl h1)), hz]
      by_cases h3 : D.2.2.2 = 1 <;> simp [h3]
    rw [decide_eq_false h1, cond_false]
    by_cases h2 : min (min x.1 x.2.1) x.2.2 < -1000
    · rw [decide_eq_true h2, cond_true, if_neg (hb.1 (.inr h2)), hz]
      by_cases h3 : D.2.2.2 = 1 <;> simp [h3]
    rw [decide_eq_false h2, cond_false, chk_ok (by omega) (by omega), Option.bind_some, if_pos (Classical.byContradiction fun hf => by rcases hb.2 hf with h | h; exact h1 h; exact h2 h)]
    rfl) (by
    unfold F.law46_PolygonTriangles_b0
    rfl) 200000000 (by decide)
  rw [show (0 : Int) = (fun k : Nat => (k : Int)) 0 from rfl, hlp, Option.bind_some]
  by_cases hf : Pg.Fit x0 ∧ Pg.Fit x1 ∧ Pg.Fit x2
  case neg =>
    have hD : projS [[x0, x1, x2]] = ([], [], 0, 1) := by unfold projS; rw [if_neg (fun h => hf (hvd.1 h))]
    have : ∃ k, k < 3 ∧ ¬ Pg.Fit ([x0, x1, x2].getD k p0) := by
      by_cases h0 : Pg.Fit x0
      · by_cases h1 : Pg.Fit x1
        · exact ⟨2, by decide, fun h2 => hf ⟨h0, h1, h2⟩⟩
        · exact ⟨1, by decide, h1⟩
      · exact ⟨0, by decide, h0⟩
    obtain ⟨k, hk, hx⟩ := this
    rw [hD, findSome_one (q := true) (k := k) (fun k q' h => by
      split at h
      · cases h
      · exact (Option.some.inj h).symm) hk (by rw [if_neg hx]; simp)]
  obtain ⟨f0, f1, f2⟩ := hf
  rw [findSome_none (fun k hk => by
    have : k = 0 ∨ k = 1 ∨ k = 2 := by omega
    rcases this with rfl | rfl | rfl
    · exact if_pos f0
    · exact if_pos f1
    · exact if_pos f2)]
  dsimp only
  have hp := T_parts f0 f1 f2
  have b0 := f0
  have b1 := f1
  have b2 := f2
  unfold Pg.Fit at b0 b1 b2
  rw [chk_ok (by omega) (by omega), Option.bind_some, chk_ok (by omega) (by omega), Option.bind_some, chk_ok (by omega) (by omega), Option.bind_some, chk_ok (by omega) (by omega), Option.bind_some, chk_ok (by omega) (by omega), Option.bind_some, chk_ok (by omega) (by omega), Option.bind_some, hG]
  have hT : T x0 x1 x2 = (x1.1 - x0.1) * (x2.2.1 - x0.2.1) - (x1.2.1 - x0.2.1) * (x2.1 - x0.1) := rfl
  by_cases h0 : T x0 x1 x2 = 0
  · have hD : projS [[x0, x1, x2]] = ([], [], 0, 15) := by
      unfold projS
      rw [if_pos (hvd.2 ⟨f0, f1, f2⟩), tri_edges, if_neg (fun h => (tri_gen _ _ _).1 h h0)]
    rw [hD, decide_eq_true (by omega), cond_true]
    dsimp only
    rw [hzero]
    simp [h0]
  · have hD : projS [[x0, x1, x2]] = ([], [], 1, 0) := by
      unfold projS
      rw [if_pos (hvd.2 ⟨f0, f1, f2⟩), tri_edges, if_pos ((tri_gen _ _ _).2 h0), tri_code, if_neg (by
        unfold countS
        simp [show (triE x0 x1 x2).length = 3 from rfl, List.range_succ, tri_srt])]
      exact loop_gd
    rw [hD, decide_eq_false (by omega), cond_false]
    simp [h0, f0, f1, f2]
end Go.Proofs.Yteajmbanlohncaa
