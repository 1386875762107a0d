/- The crossings of a grid, alike in both programs. -/
import Derived.Test.YticemffhlapnnaaPRgrid
set_option linter.unusedVariables false
set_option linter.unusedSimpArgs false
namespace Go.Proofs.Yticemffhlapnnaa
open Ev
namespace Gl
open Gar
def cr (x o cx co : Nat → Nat) (i j : Nat) : Bool := decide (min (x i) (o i) < j) && decide (j < max (x i) (o i)) && (decide (min (cx j) (co j) < i) && decide (i < max (cx j) (co j)))
def crl (n : Nat) (x o cx co : Nat → Nat) : List (Nat × Nat) := (List.range n).flatMap fun i => ((List.range n).filter (cr x o cx co i)).map fun j => (i, j)
def ip (p : Nat × Nat) : Int × Int := ((p.1 : Int), (p.2 : Int))
theorem filter_none {P : Nat → Bool} {a : Nat} (h : ∀ j, j < a → P j = false) : (List.range a).filter P = [] := by
 rw [List.filter_eq_nil_iff]
 intro j hj
 rw [h j (List.mem_range.1 hj)]
 decide
theorem filter_more {P : Nat → Bool} {a : Nat} : ∀ {b : Nat}, a ≤ b → (∀ j, a ≤ j → j < b → P j = false) → (List.range b).filter P = (List.range a).filter P
 | 0, h, _ => by
  have : a = 0 := by omega
  subst this; rfl
 | b + 1, h, hP => by
  rcases Nat.lt_or_ge a (b + 1) with hl | hl
  ·
   rw [List.range_succ, List.filter_append, filter_more (b := b) (by omega) (fun j h1 h2 => hP j h1 (by omega))]
   simp [hP b (by omega) (by omega)]
  ·
   have : a = b + 1 := by omega
   subst this; rfl
theorem range_step {P : Nat → Bool} (k : Nat) : (List.range (k + 1)).filter P = (List.range k).filter P ++ (if P k = true then [k] else []) := by
 rw [List.range_succ, List.filter_append]
 by_cases h : P k = true
 · rw [if_pos h]; simp [h]
 · rw [if_neg h]; simp [h]
section
variable {N : Nat} {f g : Nat → Nat}
theorem inv_loop (h : Pm N f g) (hl : N ≤ 1000) (n : Nat) (hn : N < n) (body : Int × List Int → Option ((Int × List Int) ⊕ (Int × List Int)))
  (hb : ∀ v q, body (v, q) = cond (decide (v < ((li N f).length : Int))) ((Ev.get (li N f) v).bind fun x26 => (Ev.get q x26).bind fun x32 => (chk (v + 1)).bind fun z39 => some (.inl (z39, (q.set x26.toNat v)))) (some (.inr (v, q)))) :
  loopN n body (0, List.replicate N (0 : Int)) = some ((N : Int), li N g) := by
 have := count_loop (body := body) (fun k => ((k : Int), li N (fun y => if g y < k then g y else 0))) N (r := ((N : Int), li N g)) (fun k hk => by
  rw [hb]
  have hfk := h.lt hk
  rw [li_len, decide_eq_true (by omega), cond_true, get_li (by omega) (by omega), Option.bind_some, show (k : Int).toNat = k by omega, get_li (by omega) (by omega), Option.bind_some, chk_ok (by omega) (by omega), Option.bind_some, show ((f k : Nat) : Int).toNat = f k by omega, li_set]
  congr 3
  apply li_ext
  intro y hy
  by_cases e : y = f k
  · subst e; rw [if_pos rfl, h.gf, if_pos (by omega)]
  ·
   rw [if_neg e]
   have : g y ≠ k := fun e2 => e (by rw [← e2, h.fg])
   by_cases e3 : g y < k
   · rw [if_pos e3, if_pos (by omega)]
   · rw [if_neg e3, if_neg (by omega)]) (by
  rw [hb, li_len, decide_eq_false (by omega), cond_false]
  congr 3
  apply li_ext
  intro y hy
  rw [if_pos (h.symm.lt hy)]) n hn
 have e0 : List.replicate N (0 : Int) = li N (fun y => if g y < 0 then g y else 0) := by
  rw [li_rep]; exact li_ext fun y _ => (if_neg (by omega)).symm
 rw [e0]
 exact this
theorem gridColumns (h : Pm N f g) (hl : N ≤ 1000) (n : Nat) (hn : N < n) : F.grid_columns n (li N f) = some (li N g) := by
 unfold F.grid_columns
 rw [li_len, pos_ok (by omega) (by omega), Option.bind_some, show ((N : Int)).toNat = N by omega, inv_loop h hl n hn _ (fun v q => rfl), Option.bind_some]
theorem linkInverse (h : Pm N f g) (hl : N ≤ 1000) (n : Nat) (hn : N < n) : F.gridlink_inverse n (li N f) = some (li N g) := by
 unfold F.gridlink_inverse
 rw [li_len, pos_ok (by omega) (by omega), Option.bind_some, show ((N : Int)).toNat = N by omega, inv_loop h hl n hn _ (fun v q => rfl), Option.bind_some]
theorem columnsAt {v : Int} (h0 : 0 ≤ v) (h1 : v < N) (n : Nat) : F.grid_columns_c1 n v (li N g) = some (g v.toNat : Int) := by
 unfold F.grid_columns_c1
 rw [get_li h0 h1, Option.bind_some]
theorem refColumn (h : Pm N f g) {j : Nat} (hj : j < N) (hl : N ≤ 1000) (n : Nat) (hn : N < n) : F.ref42_Column n (li N f) (j : Int) = some (g j : Int) := by
 unfold F.ref42_Column
 have hg := h.symm.lt hj
 have := count_loop (body := F.ref42_Column_b0 n (li N f) (j : Int)) (fun k => (k : Int)) (g j) (r := .inr (g j : Int)) (fun k hk => by
  unfold F.ref42_Column_b0
  dsimp only
  have : f k ≠ j := fun e => by rw [← e, h.gf] at hk; omega
  rw [li_len, decide_eq_true (by omega), cond_true, get_li (by omega) (by omega), Option.bind_some, show (k : Int).toNat = k by omega, decide_eq_false (by omega), cond_false, chk_ok (by omega) (by omega), Option.bind_some]
  rfl) (by
  unfold F.ref42_Column_b0
  dsimp only
  rw [li_len, decide_eq_true (by omega), cond_true, get_li (by omega) (by omega), Option.bind_some, show ((g j : Nat) : Int).toNat = g j by omega, h.fg, decide_eq_true rfl, cond_true]) n (by omega)
 rw [show ((0 : Int)) = ((0 : Nat) : Int) from rfl, this, Option.bind_some]
end
theorem refBetween (v a b : Nat) (n : Nat) : F.ref42_between n (v : Int) (a : Int) (b : Int) = some (decide (min a b < v) && decide (v < max a b)) := by
 unfold F.ref42_between
 by_cases h : min a b < v
 ·
  rw [decide_eq_true (show min (a : Int) (b : Int) < (v : Int) by omega), cond_true, decide_eq_true h, Bool.true_and]
  exact congrArg some (decide_eq_decide.2 (by omega))
 · rw [decide_eq_false (show ¬ min (a : Int) (b : Int) < (v : Int) by omega), cond_false, decide_eq_false h, Bool.false_and]
section
variable {n : Nat} {x o cx co : Nat → Nat} (g : Gd n x o cx co)
include g
omit g in
theorem Gd.row_len (g : Gd n x o cx co) (i k : Nat) : ((List.range k).filter (cr x o cx co i)).length ≤ k := by
 have := List.length_filter_le (cr x o cx co i) (List.range k)
 simpa using this
theorem Gd.crl_take (i : Nat) : ((List.range i).flatMap fun i => ((List.range n).filter (cr x o cx co i)).map fun j => (i, j)).length ≤ 40 * i := by
 induction i with
 | zero => simp
 | succ i ih =>
  have h1 := g.row_len i n
  have h2 := g.hi
  rw [List.range_succ, List.flatMap_append, List.length_append]
  simp only [List.flatMap_cons, List.flatMap_nil, List.append_nil, List.length_map]
  omega
theorem Gd.crl_len : (crl n x o cx co).length ≤ 1600 := by
 have := g.crl_take n
 have := g.hi
 unfold crl; omega
theorem Gd.gridCrossings (m : Nat) (hm : 2000 < m) : F.grid_Crossings m (li n x) (li n o) = some ((crl n x o cx co).map ip) := by
 obtain ⟨r, e1, e2⟩ := gridValid (li n x) (li n o) m (by omega)
 have hv := e2.2 g.vg
 have hn := g.hi
 unfold F.grid_Crossings
 rw [e1, Option.bind_some, hv, Bool.not_true, cond_false, gridColumns g.px (by omega) m (by omega), Option.bind_some, gridColumns g.po (by omega) m (by omega), Option.bind_some]
 have key := count_loop (body := F.grid_Crossings_b0 m (li n x) (li n o) (li n cx) (li n co)) (fun k => (((List.range k).flatMap fun i => ((List.range n).filter (cr x o cx co i)).map fun j => (i, j)).map ip, (k : Int))) n
  (r := ((crl n x o cx co).map ip, (n : Int))) (fun i hi => ?_) ?_ m (by omega)
 · rw [show ((([] : List (Int × Int))), (0 : Int)) = (((List.range 0).flatMap fun i => ((List.range n).filter (cr x o cx co i)).map fun j => (i, j)).map ip, ((0 : Nat) : Int)) from rfl, key, Option.bind_some]
 ·
  have h1 := g.xl hi
  have h2 := g.ol hi
  have h3 := g.ne i hi
  have hT := g.crl_take i
  generalize hTT : (((List.range i).flatMap fun i => ((List.range n).filter (cr x o cx co i)).map fun j => (i, j)).map ip) = T
  have hTl : T.length ≤ 1600 := by rw [← hTT, List.length_map]; omega
  unfold F.grid_Crossings_b0
  dsimp only
  rw [li_len, decide_eq_true (show (i : Int) < (n : Int) by omega), cond_true, get_li (by omega) (by omega), Option.bind_some, get_li (by omega) (by omega), Option.bind_some, show (i : Int).toNat = i by omega, chk_ok (by omega) (by omega), Option.bind_some]
  have inner := count_loop (body := F.grid_Crossings_b1 m (li n x) (li n o) (li n cx) (li n co) (i : Int)) (fun k => (T ++ ((List.range (min (x i) (o i) + 1 + k)).filter (cr x o cx co i)).map fun j => ip (i, j), ((min (x i) (o i) + 1 + k : Nat) : Int))) (max (x i) (o i) - (min (x i) (o i) + 1))
   (r := (T ++ ((List.range n).filter (cr x o cx co i)).map fun j => ip (i, j), ((max (x i) (o i) : Nat) : Int))) (fun k hk => ?_) ?_ m (by omega)
  ·
   have e0 : (List.range (min (x i) (o i) + 1)).filter (cr x o cx co i) = [] := filter_none fun j hj => by
    unfold cr; rw [decide_eq_false (by omega)]; rfl
   rw [Nat.add_zero, e0, List.map_nil, List.append_nil] at inner
   rw [show min ((x i : Nat) : Int) ((o i : Nat) : Int) + 1 = ((min (x i) (o i) + 1 : Nat) : Int) by omega, inner, Option.bind_some]
   dsimp only
   rw [chk_ok (by omega) (by omega), Option.bind_some, List.range_succ, List.flatMap_append, List.map_append, hTT]
   simp only [List.flatMap_cons, List.flatMap_nil, List.append_nil, List.map_map]
   rfl
  ·
   generalize hj : min (x i) (o i) + 1 + k = j
   have hjn : j < n := by omega
   have h4 := g.row_len i j
   have h5 := g.cxl hjn
   have h6 := g.col hjn
   unfold F.grid_Crossings_b1
   dsimp only
   rw [get_li (by omega) (by omega), Option.bind_some, get_li (by omega) (by omega), Option.bind_some, show (i : Int).toNat = i by omega, decide_eq_true (show ((j : Nat) : Int) < max ((x i : Nat) : Int) ((o i : Nat) : Int) by omega), cond_true,
    columnsAt (by omega) (by omega), Option.bind_some, columnsAt (by omega) (by omega), Option.bind_some, show (j : Int).toNat = j by omega, show min (x i) (o i) + 1 + (k + 1) = j + 1 by omega, range_step]
   by_cases c1 : min (cx j) (co j) < i
   ·
    rw [decide_eq_true (show min ((cx j : Nat) : Int) ((co j : Nat) : Int) < (i : Int) by omega), cond_true]
    by_cases c2 : i < max (cx j) (co j)
    ·
     have hc : cr x o cx co i j = true := by
      unfold cr; rw [decide_eq_true (by omega), decide_eq_true (by omega), decide_eq_true c1, decide_eq_true c2]; rfl
     rw [decide_eq_true (show (i : Int) < max ((cx j : Nat) : Int) ((co j : Nat) : Int) by omega), cond_true, lim_ok (by simp only [List.length_append, List.length_map, List.length_cons, List.length_nil]; omega), Option.bind_some, chk_ok (by omega) (by omega), Option.bind_some, if_pos hc, List.map_append, List.append_assoc]
     rfl
    ·
     have hc : ¬ cr x o cx co i j = true := by
      unfold cr; rw [decide_eq_false c2, Bool.and_false, Bool.and_false]; decide
     rw [decide_eq_false (show ¬ (i : Int) < max ((cx j : Nat) : Int) ((co j : Nat) : Int) by omega), cond_false, chk_ok (by omega) (by omega), Option.bind_some, if_neg hc, List.append_nil]
     rfl
   ·
    have hc : ¬ cr x o cx co i j = true := by
     unfold cr; rw [decide_eq_false c1, Bool.false_and, Bool.and_false]; decide
    rw [decide_eq_false (show ¬ min ((cx j : Nat) : Int) ((co j : Nat) : Int) < (i : Int) by omega), cond_false, chk_ok (by omega) (by omega), Option.bind_some, if_neg hc, List.append_nil]
    rfl
  ·
   have em : min (x i) (o i) + 1 + (max (x i) (o i) - (min (x i) (o i) + 1)) = max (x i) (o i) := by omega
   unfold F.grid_Crossings_b1
   dsimp only
   rw [em, get_li (by omega) (by omega), Option.bind_some, get_li (by omega) (by omega), Option.bind_some, show (i : Int).toNat = i by omega, decide_eq_false (show ¬ ((max (x i) (o i) : Nat) : Int) < max ((x i : Nat) : Int) ((o i : Nat) : Int) by omega), cond_false]
   rw [filter_more (show max (x i) (o i) ≤ n by omega) (fun j h1 h2 => by unfold cr; rw [decide_eq_false (show ¬ j < max (x i) (o i) by omega), Bool.and_false, Bool.false_and])]
 ·
  unfold F.grid_Crossings_b0
  dsimp only
  rw [li_len, decide_eq_false (by omega), cond_false]
  rfl
theorem Gd.refCrossings (m : Nat) (hm : 2000 < m) : F.ref42_Crossings m (li n x) (li n o) = some ((crl n x o cx co).map ip) := by
 have hn := g.hi
 unfold F.ref42_Crossings
 have key := count_loop (body := F.ref42_Crossings_b0 m (li n x) (li n o)) (fun k => (((List.range k).flatMap fun i => ((List.range n).filter (cr x o cx co i)).map fun j => (i, j)).map ip, (k : Int))) n
  (r := ((crl n x o cx co).map ip, (n : Int))) (fun i hi => ?_) ?_ m (by omega)
 · rw [show ((([] : List (Int × Int))), (0 : Int)) = (((List.range 0).flatMap fun i => ((List.range n).filter (cr x o cx co i)).map fun j => (i, j)).map ip, ((0 : Nat) : Int)) from rfl, key, Option.bind_some]
 ·
  have h1 := g.xl hi
  have h2 := g.ol hi
  have h3 := g.ne i hi
  have hT := g.crl_take i
  generalize hTT : (((List.range i).flatMap fun i => ((List.range n).filter (cr x o cx co i)).map fun j => (i, j)).map ip) = T
  have hTl : T.length ≤ 1600 := by rw [← hTT, List.length_map]; omega
  unfold F.ref42_Crossings_b0
  dsimp only
  rw [li_len, decide_eq_true (show (i : Int) < (n : Int) by omega), cond_true]
  have inner := count_loop (body := F.ref42_Crossings_b1 m (li n x) (li n o) (i : Int)) (fun k => (T ++ ((List.range k).filter (cr x o cx co i)).map fun j => ip (i, j), (k : Int))) n
   (r := (T ++ ((List.range n).filter (cr x o cx co i)).map fun j => ip (i, j), (n : Int))) (fun j hjn => ?_) ?_ m (by omega)
  ·
   rw [List.range_zero, List.filter_nil, List.map_nil, List.append_nil] at inner
   rw [show ((0 : Int)) = ((0 : Nat) : Int) from rfl, inner, Option.bind_some]
   dsimp only
   rw [chk_ok (by omega) (by omega), Option.bind_some, List.range_succ, List.flatMap_append, List.map_append, hTT]
   simp only [List.flatMap_cons, List.flatMap_nil, List.append_nil, List.map_map]
   rfl
  ·
   have h4 := g.row_len i j
   have h5 := g.cxl hjn
   have h6 := g.col hjn
   unfold F.ref42_Crossings_b1
   dsimp only
   rw [li_len, decide_eq_true (show (j : Int) < (n : Int) by omega), cond_true, get_li (by omega) (by omega), Option.bind_some, get_li (by omega) (by omega), Option.bind_some, show (i : Int).toNat = i by omega, refBetween, Option.bind_some, range_step]
   cases c1 : (decide (min (x i) (o i) < j) && decide (j < max (x i) (o i))) with
   | false =>
    have hc : ¬ cr x o cx co i j = true := by unfold cr; rw [c1, Bool.false_and]; decide
    rw [cond_false, chk_ok (by omega) (by omega), Option.bind_some, if_neg hc, List.append_nil]
    rfl
   | true =>
    rw [cond_true, refColumn g.px hjn (by omega) m (by omega), Option.bind_some, refColumn g.po hjn (by omega) m (by omega), Option.bind_some, refBetween, Option.bind_some]
    cases c2 : (decide (min (cx j) (co j) < i) && decide (i < max (cx j) (co j))) with
    | false =>
     have hc : ¬ cr x o cx co i j = true := by unfold cr; rw [c1, c2]; decide
     rw [cond_false, chk_ok (by omega) (by omega), Option.bind_some, if_neg hc, List.append_nil]
     rfl
    | true =>
     have hc : cr x o cx co i j = true := by unfold cr; rw [c1, c2]; rfl
     rw [cond_true, lim_ok (by simp only [List.length_append, List.length_map, List.length_cons, List.length_nil]; omega), Option.bind_some, chk_ok (by omega) (by omega), Option.bind_some, if_pos hc, List.map_append, List.append_assoc]
     rfl
  ·
   unfold F.ref42_Crossings_b1
   dsimp only
   rw [li_len, decide_eq_false (show ¬ ((n : Nat) : Int) < (n : Int) by omega), cond_false]
 ·
  unfold F.ref42_Crossings_b0
  dsimp only
  rw [li_len, decide_eq_false (by omega), cond_false]
  rfl
end
end Gl
end Go.Proofs.Yticemffhlapnnaa
