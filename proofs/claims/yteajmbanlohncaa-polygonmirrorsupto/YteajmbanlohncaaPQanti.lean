/- Lists of polygons seen in a mirror: the code. -/
import Derived.Test.YteajmbanlohncaaPQfew
import Derived.Test.YteajmbanlohncaaPQmap
set_option linter.unusedVariables false
set_option linter.unusedSimpArgs false
namespace Go.Proofs.Yteajmbanlohncaa
open Ev
namespace Pg
theorem sortL_map {α β : Type} (cf : β → β → Int) (f : α → β) (xs : List α) : sortL cf (xs.map f) = (sortL (fun x y => cf (f x) (f y)) xs).map f := by
  unfold sortL
  split
  · rename_i h
    rw [List.length_map] at h
    split
    · rfl
    · rename_i k hk; omega
  · rename_i k hk
    have hk0 := hk
    rw [List.length_map] at hk0
    split
    · rename_i h; omega
    · rename_i k' hk'
      obtain rfl : k = k' := by omega
      rw [List.map_map]
      have e : (fun p q : Fin (k + 1) => decide (cf ((xs.map f)[p.1]'(by omega)) ((xs.map f)[q.1]'(by omega)) < 0)) = fun p q : Fin (k + 1) => decide (cf (f (xs[p.1]'(by omega))) (f (xs[q.1]'(by omega))) < 0) := by
        funext p q
        rw [List.getElem_map, List.getElem_map]
      rw [e]
      exact List.map_congr_left fun p _ => by rw [List.getElem_map]; rfl
/-- Over and under exchanged, if b. -/
def fl (b : Bool) (x : Int × Bool) : Int × Bool := (x.1, x.2 ^^ b)
theorem fl_inj {b : Bool} {x y : Int × Bool} (h : fl b x = fl b y) : x = y := by
  obtain ⟨x1, x2⟩ := x
  obtain ⟨y1, y2⟩ := y
  unfold fl at h
  simp only [Prod.mk.injEq] at h
  obtain ⟨h1, h2⟩ := h
  subst h1
  cases x2 <;> cases y2 <;> cases b <;> simp at h2 ⊢
/-- A map that is a mirror at the edges of a list. -/
structure Anti (g : Pt → Pt) (b : Bool) (es : List Ed) : Prop where
  flat : ∀ i k, i < es.length → k < es.length → (Flat (g (eAt es i).1) (g (eAt es k).1) ↔ Flat (eAt es i).1 (eAt es k).1)
  on : ∀ i k, i < es.length → k < es.length → (On (g (eAt es i).1) (g (eAt es i).2.1) (g (eAt es k).1) ↔ On (eAt es i).1 (eAt es i).2.1 (eAt es k).1)
  cr1 : ∀ i k, i < es.length → k < es.length → (cr (g (eAt es i).1) (g (eAt es i).2.1) (g (eAt es k).1) (g (eAt es k).2.1)).1 = (cr (eAt es i).1 (eAt es i).2.1 (eAt es k).1 (eAt es k).2.1).1
  cr2 : ∀ i k, i < es.length → k < es.length → (cr (eAt es i).1 (eAt es i).2.1 (eAt es k).1 (eAt es k).2.1).1 = 1 → (cr (g (eAt es i).1) (g (eAt es i).2.1) (g (eAt es k).1) (g (eAt es k).2.1)).2 = ((cr (eAt es i).1 (eAt es i).2.1 (eAt es k).1 (eAt es k).2.1).2 ^^ b)
  pr : ∀ i k, i < es.length → k < es.length → prt (mapE g (eAt es i)) (mapE g (eAt es k)) = prt (eAt es i) (eAt es k) ∧ whl (mapE g (eAt es i)) (mapE g (eAt es k)) = whl (eAt es i) (eAt es k)
  sg : ∀ i k, i < es.length → k < es.length → (cr (eAt es i).1 (eAt es i).2.1 (eAt es k).1 (eAt es k).2.1).1 = 1 → ∀ o : Bool, (if (o ^^ b) then sgE (mapE g (eAt es i)) (mapE g (eAt es k)) else sgE (mapE g (eAt es k)) (mapE g (eAt es i))) = -(if o then sgE (eAt es i) (eAt es k) else sgE (eAt es k) (eAt es i))
section
variable {g : Pt → Pt} {b : Bool} {es : List Ed} (A : Anti g b es)
include A
theorem psg_anti {i k : Nat} (hi : i < es.length) (hk : k < es.length) : psg (es.map (mapE g)) i k = (psg es i k).map (fl b) := by
  unfold psg
  rw [eAt_map g hi, eAt_map g hk]
  have e1 := A.cr1 i k hi hk
  have e2 := A.cr2 i k hi hk
  by_cases h1 : k = i ∨ Adj (eAt es i) (eAt es k)
  · rw [if_pos h1, if_pos (show k = i ∨ Adj (mapE g (eAt es i)) (mapE g (eAt es k)) from h1)]; rfl
  rw [if_neg h1, if_neg (show ¬ (k = i ∨ Adj (mapE g (eAt es i)) (mapE g (eAt es k))) from h1)]
  unfold mapE
  dsimp only
  rw [e1]
  by_cases h2 : (cr (eAt es i).1 (eAt es i).2.1 (eAt es k).1 (eAt es k).2.1).1 = 1
  · rw [if_pos h2, if_pos h2, e2 h2]; rfl
  · rw [if_neg h2, if_neg h2]; rfl
theorem ps_anti {i : Nat} (hi : i < es.length) : ps (es.map (mapE g)) i (es.map (mapE g)).length = (ps es i es.length).map (fl b) := by
  unfold ps
  rw [List.length_map, List.map_filterMap]
  exact filterMap_congr' fun k hk => psg_anti A hi (List.mem_range.1 hk)
theorem cmp_anti {i : Nat} (hi : i < es.length) {p q : Int × Bool} (hp : p.1.toNat < es.length) (hq : q.1.toNat < es.length) : cmpS (es.map (mapE g)) i (fl b p) (fl b q) = cmpS es i p q := by
  unfold cmpS fl
  dsimp only
  rw [eAt_map g hi, eAt_map g hp, eAt_map g hq, (A.pr i _ hi hp).1, (A.pr i _ hi hq).1, (A.pr i _ hi hp).2, (A.pr i _ hi hq).2]
theorem srt_anti {i : Nat} (hi : i < es.length) : srt (es.map (mapE g)) i = (srt es i).map (fl b) := by
  unfold srt
  rw [ps_anti A hi, sortL_map]
  congr 1
  refine sortL_congr fun x hx y hy => ?_
  obtain ⟨k, hk, e1, _⟩ := ps_mem hx
  obtain ⟨k', hk', e2, _⟩ := ps_mem hy
  exact cmp_anti A hi (by omega) (by omega)
theorem bad_anti {i k : Nat} (hi : i < es.length) (hk : k < es.length) : BadP (eAt (es.map (mapE g)) i) (eAt (es.map (mapE g)) k) ↔ BadP (eAt es i) (eAt es k) := by
  rw [eAt_map g hi, eAt_map g hk]
  have e1 := A.cr1 i k hi hk
  have e2 := A.on i k hi hk
  have e3 := A.flat i k hi hk
  unfold BadP mapE Adj
  dsimp only
  rw [e1, e2, e3]
theorem tie_anti (hF : FitE es) (hN : es.length ≤ 1000000000) {i : Nat} (hi : i < es.length) : tie (es.map (mapE g)) i ↔ tie es i := by
  unfold tie
  rw [srt_anti A hi, List.length_map]
  have hm : ∀ k, k < (srt es i).length → ((srt es i).getD k (0, false)).1.toNat < es.length := by
    intro k hk
    rw [getD_of hk]
    obtain ⟨j, hj, e, _⟩ := ps_mem (srt_mem hF hi hN (List.getElem_mem hk))
    omega
  have hg : ∀ k, k < (srt es i).length → ((srt es i).map (fl b)).getD k (0, false) = fl b ((srt es i).getD k (0, false)) := by
    intro k hk
    rw [getD_of (by rw [List.length_map]; exact hk), getD_of hk, List.getElem_map]
  constructor
  · rintro ⟨k, h1, h2, h3⟩
    rw [hg _ (by omega), hg _ h2, cmp_anti A hi (hm _ (by omega)) (hm _ h2)] at h3
    exact ⟨k, h1, h2, h3⟩
  · rintro ⟨k, h1, h2, h3⟩
    refine ⟨k, h1, h2, ?_⟩
    rw [hg _ (by omega), hg _ h2, cmp_anti A hi (hm _ (by omega)) (hm _ h2)]
    exact h3
theorem gen_anti (hF : FitE es) (hN : es.length ≤ 1000000000) : GenE (es.map (mapE g)) ↔ GenE es := by
  unfold GenE
  rw [List.length_map]
  constructor
  · intro h i hi
    obtain ⟨h1, h2⟩ := h i hi
    exact ⟨fun k hk hki hB => h1 k hk hki ((bad_anti A hi hk).2 hB), fun ht => h2 ((tie_anti A hF hN hi).2 ht)⟩
  · intro h i hi
    obtain ⟨h1, h2⟩ := h i hi
    exact ⟨fun k hk hki hB => h1 k hk hki ((bad_anti A hi hk).1 hB), fun ht => h2 ((tie_anti A hF hN hi).1 ht)⟩
theorem count_anti : countS (es.map (mapE g)) = countS es := by
  unfold countS
  rw [List.length_map]
  congr 1
  exact List.map_congr_left fun i hi => by rw [srt_anti A (List.mem_range.1 hi), List.length_map]
/-- States that are mirrored. -/
def mst (b : Bool) (st : CS) : CS := (st.1.map (fl b), st.2.1.map (fun s => -s), st.2.2)
theorem crow_anti {i : Nat} (hi : i < es.length) : ∀ (row : List (Int × Bool)) (st : CS), (∀ x ∈ row, x.1.toNat < es.length ∧ (cr (eAt es i).1 (eAt es i).2.1 (eAt es x.1.toNat).1 (eAt es x.1.toNat).2.1).1 = 1) → crow (es.map (mapE g)) i (mst b st) (row.map (fl b)) = mst b (crow es i st row)
  | [], st, _ => rfl
  | x :: r, st, h => by
    obtain ⟨hx, hc⟩ := h x List.mem_cons_self
    have e : cstep (es.map (mapE g)) i (mst b st) (fl b x) = mst b (cstep es i st x) := by
      have s1 := A.sg i x.1.toNat hi hx hc x.2
      unfold cstep sgX mst fl
      dsimp only
      rw [eAt_map g hi, eAt_map g hx]
      cases hm : mget st.2.2 (kv i x.1) with
      | some v =>
        dsimp only
        rw [List.map_append]
        rfl
      | none =>
        dsimp only
        rw [List.map_append, List.map_append, List.length_map, s1]
        rfl
    show crow _ i (cstep _ i (mst b st) (fl b x)) (r.map (fl b)) = mst b (crow es i (cstep es i st x) r)
    rw [e]
    exact crow_anti hi r _ fun y hy => h y (List.mem_cons_of_mem _ hy)
theorem cpoly_anti {P P' : Nat → List (Int × Bool)} (hP : ∀ j, j < es.length → ∀ x ∈ P j, x.1.toNat < es.length ∧ (cr (eAt es j).1 (eAt es j).2.1 (eAt es x.1.toNat).1 (eAt es x.1.toNat).2.1).1 = 1) (hPP : ∀ j, j < es.length → P' j = (P j).map (fl b)) {s : Nat} :
    ∀ (m : Nat) (st : CS), s + m ≤ es.length → cpoly (es.map (mapE g)) P' s m (mst b st) = mst b (cpoly es P s m st)
  | 0, _, _ => rfl
  | m + 1, st, h => by
    rw [cpoly_succ, cpoly_succ, cpoly_anti hP hPP m st (by omega), hPP _ (by omega)]
    exact crow_anti A (by omega) _ _ (hP (s + m) (by omega))
theorem code_anti {P P' : Nat → List (Int × Bool)} (hP : ∀ j, j < es.length → ∀ x ∈ P j, x.1.toNat < es.length ∧ (cr (eAt es j).1 (eAt es j).2.1 (eAt es x.1.toNat).1 (eAt es x.1.toNat).2.1).1 = 1) (hPP : ∀ j, j < es.length → P' j = (P j).map (fl b)) {l : List (List Pt)} (hl : sumlen l ≤ es.length) :
    codeS (es.map (mapE g)) P' (mapL g l) = ((codeS es P l).1.map (List.map (fl b)), (codeS es P l).2.1.map (fun s => -s), (codeS es P l).2.2) := by
  have key : ∀ k, k ≤ l.length → cofold (es.map (mapE g)) P' ((mapL g l).take k) = ((cofold es P (l.take k)).1, (cofold es P (l.take k)).2.1.map (List.map (fl b)), (cofold es P (l.take k)).2.2.1.map (fun s => -s), (cofold es P (l.take k)).2.2.2.1, (cofold es P (l.take k)).2.2.2.2) := by
    intro k
    induction k with
    | zero => intro _; simp [cofold]
    | succ k ih =>
      intro hk
      have hg : l[k]? = some l[k] := List.getElem?_eq_getElem (by omega)
      have hg' : (mapL g l)[k]? = some (l[k].map g) := by unfold mapL; rw [List.getElem?_map, hg]; rfl
      have hsu := sumlen_take_succ hg
      have hle := sumlen_take_le l (k + 1)
      have e1 : cofold es P (l.take (k + 1)) = costep es P (cofold es P (l.take k)) l[k] := by
        rw [List.take_add_one, hg]
        exact cofold_snoc es P (l.take k) l[k]
      have e2 : cofold (es.map (mapE g)) P' ((mapL g l).take (k + 1)) = costep (es.map (mapE g)) P' (cofold (es.map (mapE g)) P' ((mapL g l).take k)) (l[k].map g) := by
        rw [List.take_add_one, hg']
        exact cofold_snoc _ P' _ _
      have hst := cofold_start es P (l.take k)
      rw [e1, e2, ih (by omega)]
      generalize cofold es P (l.take k) = a at *
      have hc := cpoly_anti A hP hPP (s := a.1) l[k].length ([], a.2.2.1, a.2.2.2.2) (by omega)
      have hc' : cpoly (es.map (mapE g)) P' a.1 l[k].length ([], a.2.2.1.map (fun s => -s), a.2.2.2.2) = mst b (cpoly es P a.1 l[k].length ([], a.2.2.1, a.2.2.2.2)) := hc
      unfold costep
      dsimp only
      rw [List.length_map, hc']
      unfold mst
      dsimp only
      rw [List.length_map]
      by_cases hv : 0 < (cpoly es P a.1 l[k].length ([], a.2.2.1, a.2.2.2.2)).1.length
      · rw [if_pos hv, if_pos hv, if_pos hv, List.map_append]
        rfl
      · rw [if_neg hv, if_neg hv, if_neg hv]
  have := key l.length (Nat.le_refl _)
  rw [List.take_length, show l.length = (mapL g l).length from by simp [mapL], List.take_length] at this
  unfold codeS
  rw [this]
end
theorem srt_cross {es : List Ed} (hF : FitE es) (hN : es.length ≤ 1000000000) : ∀ j, j < es.length → ∀ x ∈ srt es j, x.1.toNat < es.length ∧ (cr (eAt es j).1 (eAt es j).2.1 (eAt es x.1.toNat).1 (eAt es x.1.toNat).2.1).1 = 1 := by
  intro j hj x hx
  obtain ⟨k, hk, e, _, _, h1, _⟩ := ps_mem (srt_mem hF hj hN hx)
  rw [e, Int.toNat_natCast]
  exact ⟨hk, h1⟩
/-- The projection seen in a mirror. -/
theorem proj_anti {g : Pt → Pt} {b : Bool} {l : List (List Pt)} (A : Anti g b (edS 0 l)) (hv : Vd l) (hv' : Vd (mapL g l)) (hg : GenE (edS 0 l)) (hc : ¬ 128 < countS (edS 0 l)) :
    projS (mapL g l) = gdS ((codeS (edS 0 l) (srt (edS 0 l)) l).1.map (List.map (fl b))) ((codeS (edS 0 l) (srt (edS 0 l)) l).2.1.map (fun s => -s)) (codeS (edS 0 l) (srt (edS 0 l)) l).2.2 := by
  have hF : FitE (edS 0 l) := fit_edS 0 fun p hp => (hv.1 p hp).2
  have hlen := edS_len 0 l
  have hs := hv.2
  unfold projS
  rw [if_pos hv', edS_map, if_pos ((gen_anti A hF (by omega)).2 hg), count_anti A, if_neg hc, code_anti A (P := srt (edS 0 l)) (P' := srt ((edS 0 l).map (mapE g))) (srt_cross hF (by omega)) (fun j hj => srt_anti A hj) (l := l) (by omega)]
end Pg
end Go.Proofs.Yteajmbanlohncaa
