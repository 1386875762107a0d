/- Moving the points of a list of polygons. -/
import Derived.Test.YteajmbanlohncaaPQproj
set_option linter.unusedVariables false
set_option linter.unusedSimpArgs false
namespace Go.Proofs.Yteajmbanlohncaa
open Ev
namespace Pg
theorem filterMap_congr' {α β : Type} {f g : α → Option β} : ∀ {l : List α}, (∀ x ∈ l, f x = g x) → l.filterMap f = l.filterMap g
  | [], _ => rfl
  | a :: r, h => by
    rw [List.filterMap_cons, List.filterMap_cons, h a List.mem_cons_self, filterMap_congr' fun x hx => h x (List.mem_cons_of_mem _ hx)]
def mapE (g : Pt → Pt) (e : Ed) : Ed := (g e.1, (g e.2.1, e.2.2))
def mapL (g : Pt → Pt) (l : List (List Pt)) : List (List Pt) := l.map (List.map g)
theorem mapL_sum (g : Pt → Pt) (l : List (List Pt)) : sumlen (mapL g l) = sumlen l := by
  unfold sumlen mapL
  rw [List.map_map]
  congr 1
  exact List.map_congr_left fun p _ => List.length_map g
theorem mkE_map (g : Pt → Pt) (s : Nat) (p : List Pt) {i : Nat} (hi : i < p.length) : mkE s (p.map g) i = mapE g (mkE s p i) := by
  have hm : (i + 1) % p.length < p.length := Nat.mod_lt _ (by omega)
  unfold mkE mapE
  dsimp only
  rw [List.length_map, getD_of (by rw [List.length_map]; exact hi), getD_of (by rw [List.length_map]; exact hm), getD_of hi, getD_of hm, List.getElem_map, List.getElem_map]
theorem edS_map (g : Pt → Pt) : ∀ (s : Nat) (l : List (List Pt)), edS s (mapL g l) = (edS s l).map (mapE g)
  | s, [] => rfl
  | s, p :: r => by
    have ih := edS_map g (s + p.length) r
    unfold mapL at *
    rw [List.map_cons, edS, edS, List.map_append, List.length_map, ih]
    congr 1
    unfold edRow
    rw [List.map_map]
    exact List.map_congr_left fun i hi => mkE_map g s p (List.mem_range.1 hi)
theorem eAt_map (g : Pt → Pt) {es : List Ed} {i : Nat} (hi : i < es.length) : eAt (es.map (mapE g)) i = mapE g (eAt es i) := by
  unfold eAt
  rw [getD_of (by rw [List.length_map]; exact hi), getD_of hi, List.getElem_map]
/-- A map that leaves turns, kinds, and signs as they are at the points of a list. -/
structure Keep (g : Pt → Pt) (S : Pt → Prop) : Prop where
  t : ∀ a b c, S a → S b → S c → T (g a) (g b) (g c) = T a b c
  on : ∀ a b c, S a → S b → S c → (On (g a) (g b) (g c) ↔ On a b c)
  flat : ∀ a b, S a → S b → (Flat (g a) (g b) ↔ Flat a b)
  cr : ∀ a b c d, S a → S b → S c → S d → cr (g a) (g b) (g c) (g d) = cr a b c d
  sg : ∀ a b c d, S a → S b → S c → S d → ((g b).1 - (g a).1) * ((g d).2.1 - (g c).2.1) - ((g b).2.1 - (g a).2.1) * ((g d).1 - (g c).1) = (b.1 - a.1) * (d.2.1 - c.2.1) - (b.2.1 - a.2.1) * (d.1 - c.1)
def SE (S : Pt → Prop) (es : List Ed) : Prop := ∀ e ∈ es, S e.1 ∧ S e.2.1
theorem SE.at {S : Pt → Prop} {es : List Ed} (h : SE S es) {k : Nat} (hk : k < es.length) : S (eAt es k).1 ∧ S (eAt es k).2.1 := by
  unfold eAt
  rw [getD_of hk]
  exact h _ (List.getElem_mem hk)
theorem SE_edS {S : Pt → Prop} : ∀ {l : List (List Pt)} (s : Nat), (∀ p ∈ l, ∀ x ∈ p, S x) → SE S (edS s l)
  | [], s, _ => by intro e he; cases he
  | p :: r, s, h => by
    intro e he
    rw [edS] at he
    rcases List.mem_append.1 he with he | he
    · unfold edRow at he
      obtain ⟨i, hi, rfl⟩ := List.mem_map.1 he
      have hi := List.mem_range.1 hi
      have hm : (i + 1) % p.length < p.length := Nat.mod_lt _ (by omega)
      unfold mkE
      dsimp only
      rw [getD_of hi, getD_of hm]
      exact ⟨h p List.mem_cons_self _ (List.getElem_mem hi), h p List.mem_cons_self _ (List.getElem_mem hm)⟩
    · exact SE_edS _ (fun q hq => h q (List.mem_cons_of_mem _ hq)) e he
section
variable {g : Pt → Pt} {S : Pt → Prop} (K : Keep g S) {es : List Ed} (hS : SE S es)
include K hS
theorem psg_map {i k : Nat} (hi : i < es.length) (hk : k < es.length) : psg (es.map (mapE g)) i k = psg es i k := by
  have a := hS.at hi
  have b := hS.at hk
  unfold psg
  rw [eAt_map g hi, eAt_map g hk]
  have e := K.cr _ _ _ _ a.1 a.2 b.1 b.2
  unfold mapE
  dsimp only
  rw [e]
  rfl
theorem ps_map {i : Nat} (hi : i < es.length) : ps (es.map (mapE g)) i (es.map (mapE g)).length = ps es i es.length := by
  unfold ps
  rw [List.length_map]
  exact filterMap_congr' fun k hk => psg_map K hS hi (List.mem_range.1 hk)
theorem cmp_map {i : Nat} (hi : i < es.length) {p q : Int × Bool} (hp : p.1.toNat < es.length) (hq : q.1.toNat < es.length) : cmpS (es.map (mapE g)) i p q = cmpS es i p q := by
  have a := hS.at hi
  have b := hS.at hp
  have c := hS.at hq
  unfold cmpS
  rw [eAt_map g hi, eAt_map g hp, eAt_map g hq]
  have e1 := K.t _ _ _ b.1 b.2 a.1
  have e2 := K.t _ _ _ b.1 b.2 a.2
  have e3 := K.t _ _ _ c.1 c.2 a.1
  have e4 := K.t _ _ _ c.1 c.2 a.2
  unfold prt whl mapE
  dsimp only
  rw [e1, e2, e3, e4]
theorem srt_map {i : Nat} (hi : i < es.length) : srt (es.map (mapE g)) i = srt es i := by
  unfold srt
  rw [ps_map K hS hi]
  refine sortL_congr fun x hx y hy => ?_
  obtain ⟨k, hk, e1, _⟩ := ps_mem hx
  obtain ⟨k', hk', e2, _⟩ := ps_mem hy
  exact cmp_map K hS hi (by omega) (by omega)
theorem bad_map {i k : Nat} (hi : i < es.length) (hk : k < es.length) : BadP (eAt (es.map (mapE g)) i) (eAt (es.map (mapE g)) k) ↔ BadP (eAt es i) (eAt es k) := by
  have a := hS.at hi
  have b := hS.at hk
  rw [eAt_map g hi, eAt_map g hk]
  have e1 := K.cr _ _ _ _ a.1 a.2 b.1 b.2
  have e2 := K.on _ _ _ a.1 a.2 b.1
  have e3 := K.flat _ _ a.1 b.1
  unfold BadP mapE Adj
  dsimp only
  rw [e1, e2, e3]
theorem tie_map (hF : FitE es) (hN : es.length ≤ 1000000000) {i : Nat} (hi : i < es.length) : tie (es.map (mapE g)) i ↔ tie es i := by
  unfold tie
  rw [srt_map K hS hi]
  have hm : ∀ k, k < (srt es i).length → ((srt es i).getD k (0, false)).1.toNat < es.length := by
    intro k hk
    rw [getD_of hk]
    obtain ⟨j, hj, e, _⟩ := ps_mem (srt_mem hF hi hN (List.getElem_mem hk))
    omega
  constructor
  · rintro ⟨k, h1, h2, h3⟩
    rw [cmp_map K hS hi (hm _ (by omega)) (hm _ h2)] at h3
    exact ⟨k, h1, h2, h3⟩
  · rintro ⟨k, h1, h2, h3⟩
    rw [← cmp_map K hS hi (hm _ (by omega)) (hm _ h2)] at h3
    exact ⟨k, h1, h2, h3⟩
theorem gen_map (hF : FitE es) (hN : es.length ≤ 1000000000) : GenE (es.map (mapE g)) ↔ GenE es := by
  unfold GenE
  rw [List.length_map]
  constructor
  · intro h i hi
    obtain ⟨h1, h2⟩ := h i hi
    exact ⟨fun k hk hki hB => h1 k hk hki ((bad_map K hS hi hk).2 hB), fun ht => h2 ((tie_map K hS hF hN hi).2 ht)⟩
  · intro h i hi
    obtain ⟨h1, h2⟩ := h i hi
    exact ⟨fun k hk hki hB => h1 k hk hki ((bad_map K hS hi hk).1 hB), fun ht => h2 ((tie_map K hS hF hN hi).1 ht)⟩
theorem count_map : countS (es.map (mapE g)) = countS es := by
  unfold countS
  rw [List.length_map]
  congr 1
  exact List.map_congr_left fun i hi => by rw [srt_map K hS (List.mem_range.1 hi)]
theorem crow_map {i : Nat} (hi : i < es.length) : ∀ (row : List (Int × Bool)) (st : CS), (∀ x ∈ row, x.1.toNat < es.length) → crow (es.map (mapE g)) i st row = crow es i st row
  | [], st, _ => rfl
  | x :: r, st, h => by
    have hx := h x List.mem_cons_self
    have e : cstep (es.map (mapE g)) i st x = cstep es i st x := by
      have a := hS.at hi
      have b := hS.at hx
      have s1 := K.sg _ _ _ _ a.1 a.2 b.1 b.2
      have s2 := K.sg _ _ _ _ b.1 b.2 a.1 a.2
      unfold cstep sgX
      rw [eAt_map g hi, eAt_map g hx]
      unfold sgE mapE
      dsimp only
      rw [s1, s2]
    show crow _ i (cstep _ i st x) r = crow es i (cstep es i st x) r
    rw [e]
    exact crow_map hi r _ fun y hy => h y (List.mem_cons_of_mem _ hy)
theorem cpoly_map {P : Nat → List (Int × Bool)} (hP : ∀ j, j < es.length → RowOk es.length (P j)) {s : Nat} : ∀ (m : Nat) (st : CS), s + m ≤ es.length → cpoly (es.map (mapE g)) P s m st = cpoly es P s m st
  | 0, _, _ => rfl
  | m + 1, st, h => by
    rw [cpoly_succ, cpoly_succ, cpoly_map hP m st (by omega)]
    exact crow_map K hS (by omega) _ _ fun x hx => ((hP (s + m) (by omega)).2 x hx).2
theorem code_map {P P' : Nat → List (Int × Bool)} (hP : ∀ j, j < es.length → RowOk es.length (P j)) (hPP : ∀ j, j < es.length → P' j = P j) {l : List (List Pt)} (hl : sumlen l ≤ es.length) : codeS (es.map (mapE g)) P' (mapL g l) = codeS es P l := by
  have key : ∀ k, k ≤ l.length → cofold (es.map (mapE g)) P' ((mapL g l).take k) = cofold es P (l.take k) := by
    intro k
    induction k with
    | zero => intro _; simp [cofold]
    | succ k ih =>
      intro hk
      have hg : l[k]? = some l[k] := List.getElem?_eq_getElem (by omega)
      have hg' : (mapL g l)[k]? = some (l[k].map g) := by unfold mapL; rw [List.getElem?_map, hg]; rfl
      have hsu := sumlen_take_succ hg
      have hle := sumlen_take_le l (k + 1)
      have e1 : cofold es P (l.take (k + 1)) = costep es P (cofold es P (l.take k)) l[k] := by
        rw [List.take_add_one, hg]
        exact cofold_snoc es P (l.take k) l[k]
      have e2 : cofold (es.map (mapE g)) P' ((mapL g l).take (k + 1)) = costep (es.map (mapE g)) P' (cofold (es.map (mapE g)) P' ((mapL g l).take k)) (l[k].map g) := by
        rw [List.take_add_one, hg']
        exact cofold_snoc _ P' _ _
      have hst := cofold_start es P (l.take k)
      rw [e1, e2, ih (by omega)]
      generalize cofold es P (l.take k) = a at *
      have hc : cpoly (es.map (mapE g)) P' a.1 l[k].length ([], a.2.2.1, a.2.2.2.2) = cpoly es P a.1 l[k].length ([], a.2.2.1, a.2.2.2.2) := by
        rw [← cpoly_map K hS hP l[k].length _ (by omega)]
        have : ∀ m, m ≤ l[k].length → cpoly (es.map (mapE g)) P' a.1 m ([], a.2.2.1, a.2.2.2.2) = cpoly (es.map (mapE g)) P a.1 m ([], a.2.2.1, a.2.2.2.2) := by
          intro m
          induction m with
          | zero => intro _; rfl
          | succ m ih =>
            intro hm
            rw [cpoly_succ, cpoly_succ, ih (by omega), hPP _ (by omega)]
        exact this _ (Nat.le_refl _)
      unfold costep
      rw [List.length_map, hc]
  have := key l.length (Nat.le_refl _)
  rw [List.take_length, show l.length = (mapL g l).length from by simp [mapL], List.take_length] at this
  unfold codeS
  rw [this]
end
/-- The projection stays. -/
theorem proj_map {g : Pt → Pt} {S : Pt → Prop} (K : Keep g S) {l : List (List Pt)} (hS : ∀ p ∈ l, ∀ x ∈ p, S x) (hv : Vd l) (hv' : Vd (mapL g l)) : projS (mapL g l) = projS l := by
  have hF : FitE (edS 0 l) := fit_edS 0 fun p hp => (hv.1 p hp).2
  have hlen := edS_len 0 l
  have hs := hv.2
  have hSE := SE_edS 0 hS
  unfold projS
  rw [if_pos hv, if_pos hv', edS_map]
  have e1 := gen_map K hSE hF (by omega)
  have e2 := count_map K hSE
  have e3 := code_map K hSE (P := srt (edS 0 l)) (P' := srt ((edS 0 l).map (mapE g))) (fun j hj => srt_ok hF hj (by omega)) (fun j hj => srt_map K hSE hj) (l := l) (by omega)
  rw [e2, e3]
  by_cases h : GenE (edS 0 l)
  · rw [if_pos h, if_pos (e1.2 h)]
  · rw [if_neg h, if_neg (fun h' => h (e1.1 h'))]
end Pg
end Go.Proofs.Yteajmbanlohncaa
