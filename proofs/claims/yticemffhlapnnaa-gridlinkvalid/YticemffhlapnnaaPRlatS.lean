/- Joined: PRlat, PRlatS. -/
import Derived.Test.YticemffhlapnnaaPRch
/- The cells of a grid, coloured by a ring of edges. -/
set_option linter.unusedVariables false
set_option linter.unusedSimpArgs false
namespace Go.Proofs.Yticemffhlapnnaa
open Ev
namespace Gl
open Gar Pg
/-- The colour of a cell: how many horizontal units of the ring lie below it. -/
def cel (hh : Nat → Nat → Bool) (X : Nat) : Nat → Bool
 | 0 => false
 | Y + 1 => (cel hh X Y ^^ hh X Y)
/-- Units of the ring in the columns (vv) and in the rows (hh), even at each place. -/
structure Lat (n : Nat) (x o cx co : Nat → Nat) (vv hh : Nat → Nat → Bool) : Prop where
 v0 : ∀ i Y, i < n → ¬ (min (x i) (o i) < Y ∧ Y ≤ max (x i) (o i)) → vv i Y = false
 h0 : ∀ X j, j < n → ¬ (min (co j) (cx j) < X ∧ X ≤ max (co j) (cx j)) → hh X j = false
 ev : ∀ i j, i < n → j < n → ((vv i j ^^ vv i (j + 1)) ^^ (hh i j ^^ hh (i + 1) j)) = false
section
variable {n : Nat} {x o cx co : Nat → Nat} {vv hh : Nat → Nat → Bool} (L : Lat n x o cx co vv hh)
include L
omit L in
theorem Lat.up (L : Lat n x o cx co vv hh) (X Y : Nat) : cel hh X (Y + 1) = (cel hh X Y ^^ hh X Y) := rfl
theorem Lat.right {i : Nat} (hi : i < n) : ∀ Y, Y ≤ n → cel hh (i + 1) Y = (cel hh i Y ^^ vv i Y)
 | 0, _ => by
  rw [L.v0 i 0 hi (by omega)]
  rfl
 | Y + 1, hY => by
  have h1 := Lat.right hi Y (by omega)
  have h2 := L.ev i Y hi (by omega)
  show (cel hh (i + 1) Y ^^ hh (i + 1) Y) = ((cel hh i Y ^^ hh i Y) ^^ vv i (Y + 1))
  rw [h1]
  revert h2
  cases cel hh i Y <;> cases vv i Y <;> cases vv i (Y + 1) <;> cases hh i Y <;> cases hh (i + 1) Y <;> decide
end
section
variable {n : Nat} {x o cx co : Nat → Nat} (g : Gd n x o cx co)
include g
theorem Gd.no_row {i j : Nat} (hi : i < n) (h1 : min (x i) (o i) < j) (h2 : j < max (x i) (o i)) (hc : cr x o cx co i j = false) {vv hh : Nat → Nat → Bool} (L : Lat n x o cx co vv hh) : hh i j = false ∧ hh (i + 1) j = false := by
 have hx := g.xl hi
 have ho := g.ol hi
 have e1 : cx j ≠ i := fun e => by have := g.px.fg j; rw [e] at this; omega
 have e2 : co j ≠ i := fun e => by have := g.po.fg j; rw [e] at this; omega
 have hn : ¬ (min (cx j) (co j) < i ∧ i < max (cx j) (co j)) := fun h => by
  unfold cr at hc
  rw [decide_eq_true h1, decide_eq_true h2, decide_eq_true h.1, decide_eq_true h.2] at hc
  cases hc
 exact ⟨L.h0 i j (by omega) (by omega), L.h0 (i + 1) j (by omega) (by omega)⟩
theorem Gd.no_col {i j : Nat} (hj : j < n) (h1 : min (co j) (cx j) < i) (h2 : i < max (co j) (cx j)) (hc : cr x o cx co i j = false) {vv hh : Nat → Nat → Bool} (L : Lat n x o cx co vv hh) : vv i j = false ∧ vv i (j + 1) = false := by
 have hx := g.cxl hj
 have ho := g.col hj
 have e1 : x i ≠ j := fun e => by have := g.px.gf i; rw [e] at this; omega
 have e2 : o i ≠ j := fun e => by have := g.po.gf i; rw [e] at this; omega
 have hn : ¬ (min (x i) (o i) < j ∧ j < max (x i) (o i)) := fun h => by
  unfold cr at hc
  rw [decide_eq_true h.1, decide_eq_true h.2, decide_eq_true (show min (cx j) (co j) < i by omega), decide_eq_true (show i < max (cx j) (co j) by omega)] at hc
  cases hc
 exact ⟨L.v0 i j (by omega) (by omega), L.v0 i (j + 1) (by omega) (by omega)⟩
end
/-- The colours to the left and to the right of a unit of a column, and of a row. -/
def qC (x o : Nat → Nat) (hh : Nat → Nat → Bool) (i Y : Nat) : Bool × Bool := if x i < o i then (cel hh i Y, cel hh (i + 1) Y) else (cel hh (i + 1) Y, cel hh i Y)
def qR (cx co : Nat → Nat) (hh : Nat → Nat → Bool) (j X : Nat) : Bool × Bool := if co j < cx j then (cel hh X (j + 1), cel hh X j) else (cel hh X j, cel hh X (j + 1))
/-- The colour of the corner after the half-edge 4c + s. -/
def kap (L : List (Nat × Nat)) (cx co : Nat → Nat) (hh : Nat → Nat → Bool) (h : Nat) : Bool :=
 let p := L.getD (h / 4) (0, 0)
 let s := if co p.2 < cx p.2 then h % 4 else (h % 4 + 2) % 4
 if s = 0 then cel hh p.1 p.2 else if s = 1 then cel hh (p.1 + 1) p.2 else if s = 2 then cel hh (p.1 + 1) (p.2 + 1) else cel hh p.1 (p.2 + 1)
/-- The slots of a crossing in the west, south, east, and north. -/
def slot (cx co : Nat → Nat) (j d : Nat) : Nat := if co j < cx j then d else (d + 2) % 4
section
variable {n : Nat} {x o cx co : Nat → Nat} (g : Gd n x o cx co)
include g
omit g in
theorem Gd.over_in (g : Gd n x o cx co) {i j : Nat} (hi : i < n) (hj : j < n) (h : cr x o cx co i j = true) :
  inH (sgl n x o cx co) (vov (crl n x o cx co) (i, j)) = 4 * num (crl n x o cx co) (i, j) + slot cx co j (if x i < o i then 1 else 3) ∧ outH (sgl n x o cx co) (vov (crl n x o cx co) (i, j)) = 4 * num (crl n x o cx co) (i, j) + slot cx co j (if x i < o i then 3 else 1) := by
 have hs := sgl_at (mem_crl.2 ⟨hi, hj, h⟩)
 unfold vov inH outH slot
 dsimp only
 rw [Int.toNat_natCast, hs]
 unfold sgn
 dsimp only
 by_cases h1 : x i < o i
 ·
  by_cases h2 : co j < cx j
  · rw [decide_eq_true h1, decide_eq_true h2, if_pos h1, if_pos h1, if_pos h2, if_pos h2]; exact ⟨rfl, rfl⟩
  · rw [decide_eq_true h1, decide_eq_false h2, if_pos h1, if_pos h1, if_neg h2, if_neg h2]; exact ⟨rfl, rfl⟩
 ·
  by_cases h2 : co j < cx j
  · rw [decide_eq_false h1, decide_eq_true h2, if_neg h1, if_neg h1, if_pos h2, if_pos h2]; exact ⟨rfl, rfl⟩
  · rw [decide_eq_false h1, decide_eq_false h2, if_neg h1, if_neg h1, if_neg h2, if_neg h2]; exact ⟨rfl, rfl⟩
omit g in
theorem Gd.under_in (g : Gd n x o cx co) (i j : Nat) : inH (sgl n x o cx co) (vun (crl n x o cx co) (i, j)) = 4 * num (crl n x o cx co) (i, j) + slot cx co j (if co j < cx j then 0 else 2) ∧ outH (sgl n x o cx co) (vun (crl n x o cx co) (i, j)) = 4 * num (crl n x o cx co) (i, j) + slot cx co j (if co j < cx j then 2 else 0) := by
 unfold vun inH outH slot
 dsimp only
 rw [Int.toNat_natCast]
 by_cases h2 : co j < cx j
 · rw [if_pos h2, if_pos h2, if_pos h2, if_pos h2]; exact ⟨rfl, rfl⟩
 · rw [if_neg h2, if_neg h2, if_neg h2, if_neg h2]; exact ⟨rfl, rfl⟩
omit g in
theorem Gd.kap_at (g : Gd n x o cx co) {i j : Nat} (hi : i < n) (hj : j < n) (h : cr x o cx co i j = true) (hh : Nat → Nat → Bool) :
  kap (crl n x o cx co) cx co hh (4 * num (crl n x o cx co) (i, j) + slot cx co j 0) = cel hh i j ∧ kap (crl n x o cx co) cx co hh (4 * num (crl n x o cx co) (i, j) + slot cx co j 1) = cel hh (i + 1) j ∧
  kap (crl n x o cx co) cx co hh (4 * num (crl n x o cx co) (i, j) + slot cx co j 2) = cel hh (i + 1) (j + 1) ∧ kap (crl n x o cx co) cx co hh (4 * num (crl n x o cx co) (i, j) + slot cx co j 3) = cel hh i (j + 1) := by
 have hp : (crl n x o cx co).getD (num (crl n x o cx co) (i, j)) (0, 0) = (i, j) := by
  rw [List.getD_eq_getElem?_getD, at_num (mem_crl.2 ⟨hi, hj, h⟩)]; rfl
 generalize num (crl n x o cx co) (i, j) = c at hp
 have key : ∀ d, d < 4 → kap (crl n x o cx co) cx co hh (4 * c + slot cx co j d) = if d = 0 then cel hh i j else if d = 1 then cel hh (i + 1) j else if d = 2 then cel hh (i + 1) (j + 1) else cel hh i (j + 1) := by
  intro d hd
  unfold kap slot
  by_cases h2 : co j < cx j
  ·
   rw [if_pos h2, show (4 * c + d) / 4 = c by omega, hp]
   dsimp only
   rw [if_pos h2, show (4 * c + d) % 4 = d by omega]
  ·
   rw [if_neg h2, show (4 * c + (d + 2) % 4) / 4 = c by omega, hp]
   dsimp only
   rw [if_neg h2, show ((4 * c + (d + 2) % 4) % 4 + 2) % 4 = d by omega]
 exact ⟨key 0 (by omega), key 1 (by omega), key 2 (by omega), key 3 (by omega)⟩
omit g in
theorem turn_slot (c j d : Nat) (hd : d < 4) : turnN (4 * c + slot cx co j d) 3 = 4 * c + slot cx co j ((d + 3) % 4) := by
 unfold turnN slot
 by_cases h2 : co j < cx j
 · rw [if_pos h2, if_pos h2]; omega
 · rw [if_neg h2, if_neg h2]; omega
/-- Colours on both sides of a half-edge: as it comes in, and as it goes out. -/
def inK (sg : List Int) (κ : Nat → Bool) (v : Vis) : Bool × Bool := (κ (turnN (inH sg v) 3), κ (inH sg v))
def outK (sg : List Int) (κ : Nat → Bool) (v : Vis) : Bool × Bool := (κ (outH sg v), κ (turnN (outH sg v) 3))
theorem Gd.over_k {i j : Nat} (hi : i < n) (hj : j < n) (h : cr x o cx co i j = true) (hh : Nat → Nat → Bool) :
  inK (sgl n x o cx co) (kap (crl n x o cx co) cx co hh) (vov (crl n x o cx co) (i, j)) = qC x o hh i (if x i < o i then j else j + 1) ∧ outK (sgl n x o cx co) (kap (crl n x o cx co) cx co hh) (vov (crl n x o cx co) (i, j)) = qC x o hh i (if x i < o i then j + 1 else j) := by
 obtain ⟨h1, h2⟩ := g.over_in hi hj h
 obtain ⟨k0, k1, k2, k3⟩ := g.kap_at hi hj h hh
 unfold inK outK qC
 rw [h1, h2]
 by_cases hu : x i < o i
 ·
  rw [if_pos hu, if_pos hu, if_pos hu, if_pos hu, if_pos hu, if_pos hu, turn_slot _ _ _ (by omega), turn_slot _ _ _ (by omega)]
  simp only [show (1 + 3) % 4 = 0 from rfl, show (3 + 3) % 4 = 2 from rfl, k0, k1, k2, k3, and_self]
 ·
  rw [if_neg hu, if_neg hu, if_neg hu, if_neg hu, if_neg hu, if_neg hu, turn_slot _ _ _ (by omega), turn_slot _ _ _ (by omega)]
  simp only [show (1 + 3) % 4 = 0 from rfl, show (3 + 3) % 4 = 2 from rfl, k0, k1, k2, k3, and_self]
theorem Gd.under_k {i j : Nat} (hi : i < n) (hj : j < n) (h : cr x o cx co i j = true) (hh : Nat → Nat → Bool) :
  inK (sgl n x o cx co) (kap (crl n x o cx co) cx co hh) (vun (crl n x o cx co) (i, j)) = qR cx co hh j (if co j < cx j then i else i + 1) ∧ outK (sgl n x o cx co) (kap (crl n x o cx co) cx co hh) (vun (crl n x o cx co) (i, j)) = qR cx co hh j (if co j < cx j then i + 1 else i) := by
 obtain ⟨h1, h2⟩ := g.under_in i j
 obtain ⟨k0, k1, k2, k3⟩ := g.kap_at hi hj h hh
 unfold inK outK qR
 rw [h1, h2]
 by_cases hu : co j < cx j
 ·
  rw [if_pos hu, if_pos hu, if_pos hu, if_pos hu, if_pos hu, if_pos hu, turn_slot _ _ _ (by omega), turn_slot _ _ _ (by omega)]
  simp only [show (0 + 3) % 4 = 3 from rfl, show (2 + 3) % 4 = 1 from rfl, k0, k1, k2, k3, and_self]
 ·
  rw [if_neg hu, if_neg hu, if_neg hu, if_neg hu, if_neg hu, if_neg hu, turn_slot _ _ _ (by omega), turn_slot _ _ _ (by omega)]
  simp only [show (0 + 3) % 4 = 3 from rfl, show (2 + 3) % 4 = 1 from rfl, k0, k1, k2, k3, and_self]
/-- The colours go on along a column, and along a row. -/
theorem Gd.col_ch {i : Nat} (hi : i < n) {vv hh : Nat → Nat → Bool} (L : Lat n x o cx co vv hh) :
  Ch (inK (sgl n x o cx co) (kap (crl n x o cx co) cx co hh)) (outK (sgl n x o cx co) (kap (crl n x o cx co) cx co hh)) (qC x o hh i (if x i < o i then x i + 1 else x i)) (colV n x o cx co i) (qC x o hh i (if x i < o i then o i else o i + 1)) := by
 have hx := g.xl hi
 have ho := g.ol hi
 unfold colV
 rw [Ch.map]
 refine seg_ch (g.ne i hi) (qC x o hh i) (fun r h => g.cr_col h) (fun r r1 r2 hc => ?_) (fun r hc => ?_)
 ·
  obtain ⟨e1, e2⟩ := g.no_row hi r1 r2 hc L
  unfold qC
  rw [L.up i r, L.up (i + 1) r, e1, e2, Bool.xor_false, Bool.xor_false]
 ·
  obtain ⟨r1, r2⟩ := g.cr_col hc
  obtain ⟨k1, k2⟩ := g.over_k hi (show r < n by omega) hc hh
  refine ⟨fun h => ?_, fun h => ?_⟩
  · rw [if_pos h] at k1 k2; exact ⟨k1, k2⟩
  · rw [if_neg (by omega)] at k1 k2; exact ⟨k1, k2⟩
theorem Gd.row_ch {j : Nat} (hj : j < n) {vv hh : Nat → Nat → Bool} (L : Lat n x o cx co vv hh) :
  Ch (inK (sgl n x o cx co) (kap (crl n x o cx co) cx co hh)) (outK (sgl n x o cx co) (kap (crl n x o cx co) cx co hh)) (qR cx co hh j (if co j < cx j then co j + 1 else co j)) (rowV n x o cx co j) (qR cx co hh j (if co j < cx j then cx j else cx j + 1)) := by
 have hx := g.cxl hj
 have ho := g.col hj
 unfold rowV
 rw [Ch.map]
 refine seg_ch (P := fun i => cr x o cx co i j) (fun e => g.cne hj e.symm) (qR cx co hh j) (fun r h => g.cr_row h) (fun r r1 r2 hc => ?_) (fun r hc => ?_)
 ·
  obtain ⟨e1, e2⟩ := g.no_col hj r1 r2 hc L
  have hr : r < n := by omega
  unfold qR
  rw [L.right hr j (by omega), L.right hr (j + 1) (by omega), e1, e2, Bool.xor_false, Bool.xor_false]
 ·
  obtain ⟨r1, r2⟩ := g.cr_row hc
  obtain ⟨k1, k2⟩ := g.under_k (show r < n by omega) hj hc hh
  refine ⟨fun h => ?_, fun h => ?_⟩
  · rw [if_pos h] at k1 k2; exact ⟨k1, k2⟩
  · rw [if_neg (by omega)] at k1 k2; exact ⟨k1, k2⟩
/-- Round the marks. -/
theorem Gd.o_turn {c : Nat} (hc : c < n) {vv hh : Nat → Nat → Bool} (L : Lat n x o cx co vv hh) : qC x o hh c (if x c < o c then o c else o c + 1) = qR cx co hh (o c) (if c < cx (o c) then c + 1 else c) := by
 have ho := g.ol hc
 have hx := g.xl hc
 have hne := g.ne c hc
 have hco : co (o c) = c := g.po.gf c
 have hne2 := g.cne ho
 rw [hco] at hne2
 have r1 := L.right hc (o c) (by omega)
 have r2 := L.right hc (o c + 1) (by omega)
 have u1 := L.up c (o c)
 have u2 := L.up (c + 1) (o c)
 unfold qC qR
 rw [hco]
 by_cases h1 : x c < o c
 ·
  have v1 := L.v0 c (o c + 1) hc (by omega)
  rw [v1, Bool.xor_false] at r2
  by_cases h2 : c < cx (o c)
  ·
   have w1 := L.h0 c (o c) ho (by rw [hco]; omega)
   rw [w1, Bool.xor_false] at u1
   rw [if_pos h1, if_pos h1, if_pos h2, if_pos h2, r2, u1]
  ·
   have w1 := L.h0 (c + 1) (o c) ho (by rw [hco]; omega)
   rw [w1, Bool.xor_false] at u2
   rw [if_pos h1, if_pos h1, if_neg h2, if_neg h2, ← r2, u2]
 ·
  have v1 := L.v0 c (o c) hc (by omega)
  rw [v1, Bool.xor_false] at r1
  by_cases h2 : c < cx (o c)
  ·
   have w1 := L.h0 c (o c) ho (by rw [hco]; omega)
   rw [w1, Bool.xor_false] at u1
   rw [if_neg h1, if_neg h1, if_pos h2, if_pos h2, r1, u1]
  ·
   have w1 := L.h0 (c + 1) (o c) ho (by rw [hco]; omega)
   rw [w1, Bool.xor_false] at u2
   rw [if_neg h1, if_neg h1, if_neg h2, if_neg h2, u2, r1]
theorem Gd.x_turn {c : Nat} (hc : c < n) {vv hh : Nat → Nat → Bool} (L : Lat n x o cx co vv hh) : qR cx co hh (x c) (if co (x c) < c then c else c + 1) = qC x o hh c (if x c < o c then x c + 1 else x c) := by
 have ho := g.ol hc
 have hx := g.xl hc
 have hne := g.ne c hc
 have hco : cx (x c) = c := g.px.gf c
 have hne2 := g.cne hx
 rw [hco] at hne2
 have r1 := L.right hc (x c) (by omega)
 have r2 := L.right hc (x c + 1) (by omega)
 have u1 := L.up c (x c)
 have u2 := L.up (c + 1) (x c)
 unfold qC qR
 rw [hco]
 by_cases h1 : x c < o c
 ·
  have v1 := L.v0 c (x c) hc (by omega)
  rw [v1, Bool.xor_false] at r1
  by_cases h2 : co (x c) < c
  ·
   have w1 := L.h0 (c + 1) (x c) hx (by rw [hco]; omega)
   rw [w1, Bool.xor_false] at u2
   rw [if_pos h1, if_pos h1, if_pos h2, if_pos h2, u2, r1]
  ·
   have w1 := L.h0 c (x c) hx (by rw [hco]; omega)
   rw [w1, Bool.xor_false] at u1
   rw [if_pos h1, if_pos h1, if_neg h2, if_neg h2, r1, u1]
 ·
  have v1 := L.v0 c (x c + 1) hc (by omega)
  rw [v1, Bool.xor_false] at r2
  by_cases h2 : co (x c) < c
  ·
   have w1 := L.h0 (c + 1) (x c) hx (by rw [hco]; omega)
   rw [w1, Bool.xor_false] at u2
   rw [if_neg h1, if_neg h1, if_pos h2, if_pos h2, ← r2, u2]
  ·
   have w1 := L.h0 c (x c) hx (by rw [hco]; omega)
   rw [w1, Bool.xor_false] at u1
   rw [if_neg h1, if_neg h1, if_neg h2, if_neg h2, r2, u1]
/-- The colours go on along a column and its row. -/
theorem Gd.part_ch {c : Nat} (hc : c < n) {vv hh : Nat → Nat → Bool} (L : Lat n x o cx co vv hh) :
  Ch (inK (sgl n x o cx co) (kap (crl n x o cx co) cx co hh)) (outK (sgl n x o cx co) (kap (crl n x o cx co) cx co hh)) (qC x o hh c (if x c < o c then x c + 1 else x c)) (part n x o cx co c)
   (qC x o hh (cx (o c)) (if x (cx (o c)) < o (cx (o c)) then x (cx (o c)) + 1 else x (cx (o c)))) := by
 have h1 := g.col_ch hc L
 have h2 := g.row_ch (g.ol hc) L
 have hco : co (o c) = c := g.po.gf c
 rw [g.o_turn hc L] at h1
 have h3 := g.x_turn (g.nxl hc) L
 have hx : x (cx (o c)) = o c := g.px.fg (o c)
 rw [hx] at h3 ⊢
 rw [hco] at h2 h3
 rw [h3] at h2
 exact h1.app h2
end
end Gl
end Go.Proofs.Yticemffhlapnnaa

/- The grid's diagram is drawn in the plane. -/
set_option linter.unusedVariables false
set_option linter.unusedSimpArgs false
namespace Go.Proofs.Yticemffhlapnnaa
open Ev
namespace Gl
open Gar Pg
theorem slot_par (S : Nat → Bool) (cx co : Nat → Nat) (c j : Nat) : par S c = (((S (4 * c + slot cx co j 0) ^^ S (4 * c + slot cx co j 1)) ^^ S (4 * c + slot cx co j 2)) ^^ S (4 * c + slot cx co j 3)) := by
 unfold par slot
 by_cases h : co j < cx j
 · simp only [if_pos h, Nat.add_zero]
 ·
  simp only [if_neg h]
  show _ = (((S (4 * c + 2) ^^ S (4 * c + 3)) ^^ S (4 * c + 0)) ^^ S (4 * c + 1))
  rw [Nat.add_zero]
  cases S (4 * c) <;> cases S (4 * c + 1) <;> cases S (4 * c + 2) <;> cases S (4 * c + 3) <;> rfl
def inS (sg : List Int) (S : Nat → Bool) (v : Vis) : Bool := S (inH sg v)
def outS (sg : List Int) (S : Nat → Bool) (v : Vis) : Bool := S (outH sg v)
section
variable {n : Nat} {x o cx co : Nat → Nat} (g : Gd n x o cx co)
include g
theorem Gd.lat {S : Nat → Bool} {a : Nat → Bool} (ha : ∀ c, c < n → Ch (inS (sgl n x o cx co) S) (outS (sgl n x o cx co) S) (a c) (part n x o cx co c) (a (cx (o c)))) (hS : ∀ c, c < (crl n x o cx co).length → par S c = false) :
  ∃ vv hh, Lat n x o cx co vv hh ∧ ∀ i j, i < n → j < n → cr x o cx co i j = true →
   hh i j = S (4 * num (crl n x o cx co) (i, j) + slot cx co j 0) ∧ vv i j = S (4 * num (crl n x o cx co) (i, j) + slot cx co j 1) ∧ hh (i + 1) j = S (4 * num (crl n x o cx co) (i, j) + slot cx co j 2) ∧ vv i (j + 1) = S (4 * num (crl n x o cx co) (i, j) + slot cx co j 3) := by
 have hb : ∀ c, ∃ b : Bool, c < n → Ch (inS (sgl n x o cx co) S) (outS (sgl n x o cx co) S) (a c) (colV n x o cx co c) b ∧ Ch (inS (sgl n x o cx co) S) (outS (sgl n x o cx co) S) b (rowV n x o cx co (o c)) (a (cx (o c))) := by
  intro c
  by_cases hc : c < n
  ·
   obtain ⟨y, h1, h2⟩ := Ch.split (show Ch _ _ (a c) (colV n x o cx co c ++ rowV n x o cx co (o c)) _ from ha c hc)
   exact ⟨y, fun _ => ⟨h1, h2⟩⟩
  · exact ⟨false, fun h => absurd h hc⟩
 obtain ⟨b, hb⟩ := Classical.skolem.1 hb
 have hU : ∀ i, ∃ U : Nat → Bool, i < n → (∀ r, min (x i) (o i) < r → r < max (x i) (o i) → cr x o cx co i r = false → U r = U (r + 1)) ∧
   (∀ r, cr x o cx co i r = true → U r = S (4 * num (crl n x o cx co) (i, r) + slot cx co r 1) ∧ U (r + 1) = S (4 * num (crl n x o cx co) (i, r) + slot cx co r 3)) ∧
   U (if x i < o i then x i + 1 else x i) = a i ∧ U (if x i < o i then o i else o i + 1) = b i := by
  intro i
  by_cases hi : i < n
  ·
   have h1 := (hb i hi).1
   unfold colV at h1
   rw [Ch.map] at h1
   obtain ⟨u, u1, u2, u3, u4⟩ := seg_val (g.ne i hi) (fun r h => g.cr_col h) h1
   refine ⟨u, fun _ => ⟨u1, fun r hr => ?_, u3, u4⟩⟩
   have hrn : r < n := by
    have := g.cr_col hr
    have := g.xl hi
    have := g.ol hi
    omega
   obtain ⟨q1, q2⟩ := u2 r hr
   obtain ⟨e1, e2⟩ := g.over_in hi hrn hr
   have hne := g.ne i hi
   unfold inS outS at q1 q2
   by_cases h : x i < o i
   ·
    obtain ⟨q3, q4⟩ := q1 h
    rw [e1, if_pos h] at q3
    rw [e2, if_pos h] at q4
    exact ⟨q3.symm, q4.symm⟩
   ·
    obtain ⟨q3, q4⟩ := q2 (by omega)
    rw [e1, if_neg h] at q3
    rw [e2, if_neg h] at q4
    exact ⟨q4.symm, q3.symm⟩
  · exact ⟨fun _ => false, fun h => absurd h hi⟩
 obtain ⟨U, hU⟩ := Classical.skolem.1 hU
 have hV : ∀ j, ∃ V : Nat → Bool, j < n → (∀ r, min (co j) (cx j) < r → r < max (co j) (cx j) → cr x o cx co r j = false → V r = V (r + 1)) ∧
   (∀ r, cr x o cx co r j = true → V r = S (4 * num (crl n x o cx co) (r, j) + slot cx co j 0) ∧ V (r + 1) = S (4 * num (crl n x o cx co) (r, j) + slot cx co j 2)) ∧
   V (if co j < cx j then co j + 1 else co j) = b (co j) ∧ V (if co j < cx j then cx j else cx j + 1) = a (cx j) := by
  intro j
  by_cases hj : j < n
  ·
   have h1 := (hb (co j) (g.col hj)).2
   rw [g.po.fg j] at h1
   unfold rowV at h1
   rw [Ch.map] at h1
   obtain ⟨u, u1, u2, u3, u4⟩ := seg_val (P := fun i => cr x o cx co i j) (fun e => g.cne hj e.symm) (fun r h => g.cr_row h) h1
   refine ⟨u, fun _ => ⟨u1, fun r hr => ?_, u3, u4⟩⟩
   obtain ⟨q1, q2⟩ := u2 r hr
   obtain ⟨e1, e2⟩ := g.under_in r j
   have hne := g.cne hj
   unfold inS outS at q1 q2
   by_cases h : co j < cx j
   ·
    obtain ⟨q3, q4⟩ := q1 h
    rw [e1, if_pos h] at q3
    rw [e2, if_pos h] at q4
    exact ⟨q3.symm, q4.symm⟩
   ·
    obtain ⟨q3, q4⟩ := q2 (by omega)
    rw [e1, if_neg h] at q3
    rw [e2, if_neg h] at q4
    exact ⟨q4.symm, q3.symm⟩
  · exact ⟨fun _ => false, fun h => absurd h hj⟩
 obtain ⟨V, hV⟩ := Classical.skolem.1 hV
 let vv : Nat → Nat → Bool := fun i Y => if min (x i) (o i) < Y ∧ Y ≤ max (x i) (o i) then U i Y else false
 let hh : Nat → Nat → Bool := fun X j => if min (co j) (cx j) < X ∧ X ≤ max (co j) (cx j) then V j X else false
 have vy : ∀ i Y, min (x i) (o i) < Y ∧ Y ≤ max (x i) (o i) → vv i Y = U i Y := fun i Y h => if_pos h
 have vn : ∀ i Y, ¬ (min (x i) (o i) < Y ∧ Y ≤ max (x i) (o i)) → vv i Y = false := fun i Y h => if_neg h
 have hy : ∀ X j, min (co j) (cx j) < X ∧ X ≤ max (co j) (cx j) → hh X j = V j X := fun X j h => if_pos h
 have hn : ∀ X j, ¬ (min (co j) (cx j) < X ∧ X ≤ max (co j) (cx j)) → hh X j = false := fun X j h => if_neg h
 have hcr : ∀ i j, i < n → j < n → cr x o cx co i j = true → hh i j = S (4 * num (crl n x o cx co) (i, j) + slot cx co j 0) ∧ vv i j = S (4 * num (crl n x o cx co) (i, j) + slot cx co j 1) ∧ hh (i + 1) j = S (4 * num (crl n x o cx co) (i, j) + slot cx co j 2) ∧ vv i (j + 1) = S (4 * num (crl n x o cx co) (i, j) + slot cx co j 3) := by
  intro i j hi hj hc
  have k1 := g.cr_col hc
  have k2 := g.cr_row hc
  obtain ⟨c1, c2⟩ := (hU i hi).2.1 j hc
  obtain ⟨c3, c4⟩ := (hV j hj).2.1 i hc
  exact ⟨by rw [hy i j (by omega), c3], by rw [vy i j (by omega), c1], by rw [hy (i + 1) j (by omega), c4], by rw [vy i (j + 1) (by omega), c2]⟩
 refine ⟨vv, hh, ⟨fun i Y _ h => vn i Y h, fun X j _ h => hn X j h, fun i j hi hj => ?_⟩, hcr⟩
 have ne1 := g.ne i hi
 have ne2 := g.cne hj
 by_cases hx : j = x i
 ·
  have hc : cx j = i := by rw [hx]; exact g.px.gf i
  obtain ⟨_, _, u3, _⟩ := hU i hi
  obtain ⟨_, _, _, v4⟩ := hV j hj
  rw [hc] at v4
  have e1 : (vv i j ^^ vv i (j + 1)) = a i := by
   by_cases h : x i < o i
   ·
    rw [if_pos h] at u3
    rw [vn i j (by omega), vy i (j + 1) (by omega), hx, u3, Bool.false_xor]
   ·
    rw [if_neg h] at u3
    rw [vy i j (by omega), vn i (j + 1) (by omega), hx, u3, Bool.xor_false]
  have e2 : (hh i j ^^ hh (i + 1) j) = a i := by
   by_cases h : co j < i
   ·
    rw [if_pos h] at v4
    rw [hy i j (by omega), hn (i + 1) j (by omega), v4, Bool.xor_false]
   ·
    rw [if_neg h] at v4
    rw [hn i j (by omega), hy (i + 1) j (by omega), v4, Bool.false_xor]
  rw [e1, e2, Bool.xor_self]
 by_cases ho : j = o i
 ·
  have hc : co j = i := by rw [ho]; exact g.po.gf i
  obtain ⟨_, _, _, u4⟩ := hU i hi
  obtain ⟨_, _, v3, _⟩ := hV j hj
  rw [hc] at v3
  have e1 : (vv i j ^^ vv i (j + 1)) = b i := by
   by_cases h : x i < o i
   ·
    rw [if_pos h] at u4
    rw [vy i j (by omega), vn i (j + 1) (by omega), ho, u4, Bool.xor_false]
   ·
    rw [if_neg h] at u4
    rw [vn i j (by omega), vy i (j + 1) (by omega), ho, u4, Bool.false_xor]
  have e2 : (hh i j ^^ hh (i + 1) j) = b i := by
   by_cases h : i < cx j
   ·
    rw [if_pos h] at v3
    rw [hn i j (by omega), hy (i + 1) j (by omega), v3, Bool.false_xor]
   ·
    rw [if_neg h] at v3
    rw [hy i j (by omega), hn (i + 1) j (by omega), v3, Bool.xor_false]
  rw [e1, e2, Bool.xor_self]
 have n1 : cx j ≠ i := fun e => hx (by rw [← e]; exact (g.px.fg j).symm)
 have n2 : co j ≠ i := fun e => ho (by rw [← e]; exact (g.po.fg j).symm)
 cases hc : cr x o cx co i j with
 | true =>
  obtain ⟨c1, c2, c3, c4⟩ := hcr i j hi hj hc
  have h1 := hS _ (num_lt (mem_crl.2 ⟨hi, hj, hc⟩))
  rw [slot_par S cx co _ j] at h1
  rw [c1, c2, c3, c4]
  revert h1
  cases S (4 * num (crl n x o cx co) (i, j) + slot cx co j 0) <;> cases S (4 * num (crl n x o cx co) (i, j) + slot cx co j 1) <;> cases S (4 * num (crl n x o cx co) (i, j) + slot cx co j 2) <;> cases S (4 * num (crl n x o cx co) (i, j) + slot cx co j 3) <;> decide
 | false =>
  have e1 : (vv i j ^^ vv i (j + 1)) = false := by
   by_cases h : min (x i) (o i) < j ∧ j < max (x i) (o i)
   · rw [vy i j (by omega), vy i (j + 1) (by omega), (hU i hi).1 j h.1 h.2 hc, Bool.xor_self]
   · rw [vn i j (by omega), vn i (j + 1) (by omega)]; rfl
  have e2 : (hh i j ^^ hh (i + 1) j) = false := by
   by_cases h : min (co j) (cx j) < i ∧ i < max (co j) (cx j)
   · rw [hy i j (by omega), hy (i + 1) j (by omega), (hV j hj).1 i h.1 h.2 hc, Bool.xor_self]
   · rw [hn i j (by omega), hn (i + 1) j (by omega)]; rfl
  rw [e1, e2]; rfl
end
/-- A chain over the parts of a ring. -/
theorem Ch.flat {β α : Type} {In Out : β → α} {P : Nat → List β} {A : Nat → α} : ∀ {v : List Nat} {z : α}, v ≠ [] → (∀ k c d, v[k]? = some c → v[k + 1]? = some d → Ch In Out (A c) (P c) (A d)) → (∀ c, v[v.length - 1]? = some c → Ch In Out (A c) (P c) z) → ∀ c, v[0]? = some c → Ch In Out (A c) (v.flatMap P) z
 | [], z, h, _, _ => absurd rfl h
 | [a], z, _, _, h2 => fun c hc => by
  simp at hc; subst hc
  rw [List.flatMap_cons, List.flatMap_nil, List.append_nil]
  exact h2 a rfl
 | a :: b :: v, z, _, h1, h2 => fun c hc => by
  simp at hc; subst hc
  rw [List.flatMap_cons]
  refine Ch.app (h1 0 a b rfl rfl) (Ch.flat (v := b :: v) (by simp) (fun k c d hc hd => h1 (k + 1) c d (by simpa using hc) (by simpa using hd)) (fun c hc => h2 c ?_) b rfl)
  simpa using hc
end Gl
end Go.Proofs.Yticemffhlapnnaa
