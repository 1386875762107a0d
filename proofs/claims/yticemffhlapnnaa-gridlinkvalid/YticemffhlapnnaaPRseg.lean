/- The passages of columns and rows, as visits of a Gauss code. -/
import Derived.Test.YticemffhlapnnaaPRtab
set_option linter.unusedVariables false
set_option linter.unusedSimpArgs false
namespace Go.Proofs.Yticemffhlapnnaa
open Ev
namespace Gl
open Gar Pg
/-- The number of a crossing. -/
def num (L : List (Nat × Nat)) (p : Nat × Nat) : Nat := L.idxOf p
def sgn (x o cx co : Nat → Nat) (p : Nat × Nat) : Int := if (!(decide (x p.1 < o p.1) == decide (co p.2 < cx p.2))) = true then 1 else -1
def sgl (n : Nat) (x o cx co : Nat → Nat) : List Int := (crl n x o cx co).map (sgn x o cx co)
def vov (L : List (Nat × Nat)) (p : Nat × Nat) : Vis := ((num L p : Int), true)
def vun (L : List (Nat × Nat)) (p : Nat × Nat) : Vis := ((num L p : Int), false)
def ps (sg : List Int) (v : Vis) : Int × Int := ((inH sg v : Int), (outH sg v : Int))
def colV (n : Nat) (x o cx co : Nat → Nat) (i : Nat) : List Vis := ((seg (x i) (o i)).filter (cr x o cx co i)).map fun r => vov (crl n x o cx co) (i, r)
def rowV (n : Nat) (x o cx co : Nat → Nat) (j : Nat) : List Vis := ((seg (co j) (cx j)).filter fun i => cr x o cx co i j).map fun i => vun (crl n x o cx co) (i, j)
theorem mem_crl {n : Nat} {x o cx co : Nat → Nat} {i j : Nat} : (i, j) ∈ crl n x o cx co ↔ i < n ∧ j < n ∧ cr x o cx co i j = true := by
  unfold crl
  simp only [List.mem_flatMap, List.mem_range, List.mem_map, List.mem_filter]
  constructor
  · rintro ⟨a, ha, b, ⟨hb1, hb2⟩, e⟩
    cases e
    exact ⟨ha, hb1, hb2⟩
  · rintro ⟨h1, h2, h3⟩
    exact ⟨i, h1, j, ⟨h2, h3⟩, rfl⟩
theorem crl_nodup (n : Nat) (x o cx co : Nat → Nat) : (crl n x o cx co).Nodup := by
  unfold crl
  have : ∀ k, ((List.range k).flatMap fun i => ((List.range n).filter (cr x o cx co i)).map fun j => (i, j)).Nodup := by
    intro k
    induction k with
    | zero => simp
    | succ k ih =>
      rw [List.range_succ, List.flatMap_append, List.nodup_append]
      refine ⟨ih, ?_, ?_⟩
      · simp only [List.flatMap_cons, List.flatMap_nil, List.append_nil]
        refine nodup_map (List.Nodup.sublist List.filter_sublist List.nodup_range) fun a _ b _ e => by cases e; rfl
      · intro a ha b hb e
        simp only [List.flatMap_cons, List.flatMap_nil, List.append_nil, List.mem_map] at hb
        obtain ⟨j, _, rfl⟩ := hb
        simp only [List.mem_flatMap, List.mem_range, List.mem_map] at ha
        obtain ⟨i, hi, j', _, rfl⟩ := ha
        cases e
        omega
  exact this n
theorem num_at {L : List (Nat × Nat)} (hL : L.Nodup) {k : Nat} {p : Nat × Nat} (h : L[k]? = some p) : num L p = k := by
  obtain ⟨hk, rfl⟩ := List.getElem?_eq_some_iff.1 h
  unfold num
  have h1 : L.idxOf L[k] < L.length := List.idxOf_lt_length_of_mem (List.getElem_mem hk)
  have h2 := List.getElem_idxOf h1
  exact (List.getElem?_inj h1 hL).1 (by rw [List.getElem?_eq_getElem h1, List.getElem?_eq_getElem hk, h2])
theorem num_lt {L : List (Nat × Nat)} {p : Nat × Nat} (h : p ∈ L) : num L p < L.length := List.idxOf_lt_length_of_mem h
theorem at_num {L : List (Nat × Nat)} {p : Nat × Nat} (h : p ∈ L) : L[num L p]? = some p := by
  have h1 := num_lt h
  rw [List.getElem?_eq_getElem h1]
  unfold num at h1 ⊢
  rw [List.getElem_idxOf h1]
theorem sgl_at {n : Nat} {x o cx co : Nat → Nat} {p : Nat × Nat} (h : p ∈ crl n x o cx co) : (sgl n x o cx co).getD (num (crl n x o cx co) p) 0 = sgn x o cx co p := by
  unfold sgl
  rw [List.getD_eq_getElem?_getD, List.getElem?_map, at_num h]
  rfl
theorem sgn_or (x o cx co : Nat → Nat) (p : Nat × Nat) : sgn x o cx co p = 1 ∨ sgn x o cx co p = -1 := by
  unfold sgn
  split
  · exact .inl rfl
  · exact .inr rfl
/-- What of a list of crossings lies in a column. -/
theorem crl_col {n : Nat} {x o cx co : Nat → Nat} {i : Nat} (hi : i < n) : (crl n x o cx co).filter (fun p => decide (p.1 = i)) = ((List.range n).filter (cr x o cx co i)).map fun j => (i, j) := by
  unfold crl
  have key : ∀ k, ((List.range k).flatMap fun i => ((List.range n).filter (cr x o cx co i)).map fun j => (i, j)).filter (fun p => decide (p.1 = i)) = if i < k then ((List.range n).filter (cr x o cx co i)).map (fun j => (i, j)) else [] := by
    intro k
    induction k with
    | zero => simp
    | succ k ih =>
      rw [List.range_succ, List.flatMap_append, List.filter_append, ih]
      simp only [List.flatMap_cons, List.flatMap_nil, List.append_nil]
      by_cases e : i = k
      · subst e
        rw [if_neg (by omega), if_pos (by omega), List.nil_append, List.filter_eq_self]
        intro p hp
        obtain ⟨j, _, rfl⟩ := List.mem_map.1 hp
        simp
      · have : (((List.range n).filter (cr x o cx co k)).map fun j => (k, j)).filter (fun p => decide (p.1 = i)) = [] := by
          rw [List.filter_eq_nil_iff]
          intro p hp
          obtain ⟨j, _, rfl⟩ := List.mem_map.1 hp
          simp [Ne.symm e]
        rw [this, List.append_nil]
        by_cases h : i < k
        · rw [if_pos h, if_pos (by omega)]
        · rw [if_neg h, if_neg (by omega)]
  rw [key n, if_pos hi]
theorem crl_row {n : Nat} {x o cx co : Nat → Nat} {j : Nat} (hj : j < n) : (crl n x o cx co).filter (fun p => decide (p.2 = j)) = ((List.range n).filter fun i => cr x o cx co i j).map fun i => (i, j) := by
  unfold crl
  have key : ∀ k, ((List.range k).flatMap fun i => ((List.range n).filter (cr x o cx co i)).map fun j => (i, j)).filter (fun p => decide (p.2 = j)) = ((List.range k).filter fun i => cr x o cx co i j).map fun i => (i, j) := by
    intro k
    induction k with
    | zero => simp
    | succ k ih =>
      rw [List.range_succ, List.flatMap_append, List.filter_append, ih, List.filter_append, List.map_append]
      congr 1
      simp only [List.flatMap_cons, List.flatMap_nil, List.append_nil]
      have h2 : ∀ m, (((List.range m).filter (cr x o cx co k)).map fun j => (k, j)).filter (fun p => decide (p.2 = j)) = if j < m ∧ cr x o cx co k j = true then [(k, j)] else [] := by
        intro m
        induction m with
        | zero => simp
        | succ m ih2 =>
          rw [range_step, List.map_append, List.filter_append, ih2]
          by_cases e : j = m
          · subst e
            rw [if_neg (by omega), List.nil_append]
            by_cases h : cr x o cx co k j = true
            · rw [if_pos h, if_pos ⟨by omega, h⟩]; simp
            · rw [if_neg h, if_neg (fun q => h q.2)]; rfl
          · have : ((if cr x o cx co k m = true then [m] else []).map fun j => (k, j)).filter (fun p => decide (p.2 = j)) = [] := by
              split <;> simp [Ne.symm e]
            rw [this, List.append_nil]
            by_cases h : j < m ∧ cr x o cx co k j = true
            · rw [if_pos h, if_pos ⟨by omega, h.2⟩]
            · rw [if_neg h, if_neg (fun q => h ⟨by omega, q.2⟩)]
      rw [h2 n]
      by_cases h : cr x o cx co k j = true
      · rw [if_pos ⟨hj, h⟩]; simp [h]
      · rw [if_neg (fun q => h q.2)]; simp [h]
  exact key n
section
variable {n : Nat} {x o cx co : Nat → Nat} (g : Gd n x o cx co)
include g
omit g in
theorem Gd.cr_col (g : Gd n x o cx co) {i j : Nat} (h : cr x o cx co i j = true) : min (x i) (o i) < j ∧ j < max (x i) (o i) := by
  unfold cr at h
  simp only [Bool.and_eq_true, decide_eq_true_eq] at h
  exact h.1
omit g in
theorem Gd.cr_row (g : Gd n x o cx co) {i j : Nat} (h : cr x o cx co i j = true) : min (co j) (cx j) < i ∧ i < max (co j) (cx j) := by
  unfold cr at h
  simp only [Bool.and_eq_true, decide_eq_true_eq] at h
  omega
theorem Gd.colV_eq {i : Nat} (hi : i < n) : colV n x o cx co i = if x i < o i then ((crl n x o cx co).filter (fun p => decide (p.1 = i))).map (vov (crl n x o cx co)) else (((crl n x o cx co).filter (fun p => decide (p.1 = i))).map (vov (crl n x o cx co))).reverse := by
  unfold colV
  rw [seg_filter (g.ne i hi) (g.xl hi) (g.ol hi) (fun j h => g.cr_col h), crl_col hi]
  by_cases h : x i < o i
  · rw [if_pos h, if_pos h, List.map_map]; rfl
  · rw [if_neg h, if_neg h, List.map_map, List.map_reverse]; rfl
theorem Gd.rowV_eq {j : Nat} (hj : j < n) : rowV n x o cx co j = if co j < cx j then ((crl n x o cx co).filter (fun p => decide (p.2 = j))).map (vun (crl n x o cx co)) else (((crl n x o cx co).filter (fun p => decide (p.2 = j))).map (vun (crl n x o cx co))).reverse := by
  unfold rowV
  rw [seg_filter (P := fun i => cr x o cx co i j) (fun e => g.cne hj e.symm) (g.col hj) (g.cxl hj) (fun i h => g.cr_row h), crl_row hj]
  by_cases h : co j < cx j
  · rw [if_pos h, if_pos h, List.map_map]; rfl
  · rw [if_neg h, if_neg h, List.map_map, List.map_reverse]; rfl
end
end Gl
end Go.Proofs.Yticemffhlapnnaa
