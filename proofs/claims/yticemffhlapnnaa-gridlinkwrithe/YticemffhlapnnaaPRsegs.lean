/- The program's lists of passages. -/
import Derived.Test.YticemffhlapnnaaPRseg
set_option linter.unusedVariables false
set_option linter.unusedSimpArgs false
namespace Go.Proofs.Yticemffhlapnnaa
open Ev
namespace Gl
open Gar Pg
theorem filter_take_succ {α : Type} {P : α → Bool} {L : List α} {k : Nat} {p : α} (h : L[k]? = some p) : (L.take (k + 1)).filter P = (L.take k).filter P ++ (if P p = true then [p] else []) := by
 rw [List.take_add_one, h, Option.toList_some, List.filter_append]
 by_cases e : P p = true
 · rw [if_pos e]; simp [e]
 · rw [if_neg e]; simp [e]
theorem ps_over {sg : List Int} {c : Nat} (h : sg.getD c 0 = 1) : ps sg ((c : Int), true) = (4 * (c : Int) + 3, 4 * (c : Int) + 1) := by
 unfold ps inH outH
 simp only [Int.toNat_natCast, if_true, h]
 exact Prod.ext (by simp) (by simp)
theorem ps_over' {sg : List Int} {c : Nat} (h : sg.getD c 0 ≠ 1) : ps sg ((c : Int), true) = (4 * (c : Int) + 1, 4 * (c : Int) + 3) := by
 unfold ps inH outH
 simp only [Int.toNat_natCast, if_true, if_neg h]
 exact Prod.ext (by simp) (by simp)
theorem ps_under {sg : List Int} {c : Nat} : ps sg ((c : Int), false) = (4 * (c : Int), 4 * (c : Int) + 2) := by
 unfold ps inH outH
 exact Prod.ext (by simp) (by simp)
section
variable {n : Nat} {x o cx co : Nat → Nat} (g : Gd n x o cx co)
include g
theorem Gd.seg_loop (hL : (crl n x o cx co).length ≤ 64) (m : Nat) (hm : 2000 < m) :
  loopN m (F.gridlink_segments_b0 m (li n x) (li n o) ((crl n x o cx co).map ip) (li n cx) (li n co)) (([] : List Int), 0, tab n (fun _ => ([] : List (Int × Int))), tab n (fun _ => ([] : List (Int × Int)))) =
   some (sgl n x o cx co, ((crl n x o cx co).length : Int), tab n (fun i => ((crl n x o cx co).filter (fun p => decide (p.1 = i))).map fun p => ps (sgl n x o cx co) (vov (crl n x o cx co) p)), tab n (fun j => ((crl n x o cx co).filter (fun p => decide (p.2 = j))).map fun p => ps (sgl n x o cx co) (vun (crl n x o cx co) p))) := by
 have key := count_loop (body := F.gridlink_segments_b0 m (li n x) (li n o) ((crl n x o cx co).map ip) (li n cx) (li n co))
  (fun k => ((sgl n x o cx co).take k, (k : Int), tab n (fun i => (((crl n x o cx co).take k).filter (fun p => decide (p.1 = i))).map fun p => ps (sgl n x o cx co) (vov (crl n x o cx co) p)), tab n (fun j => (((crl n x o cx co).take k).filter (fun p => decide (p.2 = j))).map fun p => ps (sgl n x o cx co) (vun (crl n x o cx co) p))))
  (crl n x o cx co).length (r := (sgl n x o cx co, ((crl n x o cx co).length : Int), tab n (fun i => ((crl n x o cx co).filter (fun p => decide (p.1 = i))).map fun p => ps (sgl n x o cx co) (vov (crl n x o cx co) p)), tab n (fun j => ((crl n x o cx co).filter (fun p => decide (p.2 = j))).map fun p => ps (sgl n x o cx co) (vun (crl n x o cx co) p)))) (fun k hk => ?_) ?_ m (by omega)
 · exact key
 ·
  have hn := g.hi
  obtain ⟨p, hp⟩ : ∃ p, (crl n x o cx co)[k]? = some p := ⟨_, List.getElem?_eq_getElem hk⟩
  have hmem := List.mem_of_getElem? hp
  obtain ⟨i, j⟩ := p
  obtain ⟨hi, hj, hc⟩ := mem_crl.1 hmem
  have hnum := num_at (crl_nodup n x o cx co) hp
  have hsg := sgl_at hmem
  rw [hnum] at hsg
  have h1 := g.xl hi
  have h2 := g.ol hi
  have h3 := g.cxl hj
  have h4 := g.col hj
  have hsk : (sgl n x o cx co).take (k + 1) = (sgl n x o cx co).take k ++ [sgn x o cx co (i, j)] := by
   rw [List.take_add_one]
   unfold sgl
   rw [List.getElem?_map, hp]
   rfl
  have hlt : ((sgl n x o cx co).take k).length ≤ k := by rw [List.length_take]; omega
  have hfl : ∀ P : Nat × Nat → Bool, (((crl n x o cx co).take k).filter P).length ≤ k := fun P => by
   have := List.length_filter_le P ((crl n x o cx co).take k)
   rw [List.length_take] at this; omega
  have e1 : (tab n (fun a => (((crl n x o cx co).take k).filter (fun p => decide (p.1 = a))).map fun p => ps (sgl n x o cx co) (vov (crl n x o cx co) p))).set i ((((crl n x o cx co).take k).filter (fun p => decide (p.1 = i))).map (fun p => ps (sgl n x o cx co) (vov (crl n x o cx co) p)) ++ [ps (sgl n x o cx co) ((k : Int), true)]) =
    tab n (fun a => (((crl n x o cx co).take (k + 1)).filter (fun p => decide (p.1 = a))).map fun p => ps (sgl n x o cx co) (vov (crl n x o cx co) p)) := by
   rw [tab_set]
   refine tab_ext fun a ha => ?_
   rw [filter_take_succ hp]
   by_cases e : a = i
   ·
    subst e
    rw [if_pos rfl, if_pos (by simp), List.map_append]
    congr 1
    simp only [List.map_cons, List.map_nil]
    unfold vov
    rw [hnum]
   · rw [if_neg e, if_neg (by simp; exact fun h => e h.symm), List.append_nil]
  have e2 : (tab n (fun a => (((crl n x o cx co).take k).filter (fun p => decide (p.2 = a))).map fun p => ps (sgl n x o cx co) (vun (crl n x o cx co) p))).set j ((((crl n x o cx co).take k).filter (fun p => decide (p.2 = j))).map (fun p => ps (sgl n x o cx co) (vun (crl n x o cx co) p)) ++ [ps (sgl n x o cx co) ((k : Int), false)]) =
    tab n (fun a => (((crl n x o cx co).take (k + 1)).filter (fun p => decide (p.2 = a))).map fun p => ps (sgl n x o cx co) (vun (crl n x o cx co) p)) := by
   rw [tab_set]
   refine tab_ext fun a ha => ?_
   rw [filter_take_succ hp]
   by_cases e : a = j
   ·
    subst e
    rw [if_pos rfl, if_pos (by simp), List.map_append]
    congr 1
    simp only [List.map_cons, List.map_nil]
    unfold vun
    rw [hnum]
   · rw [if_neg e, if_neg (by simp; exact fun h => e h.symm), List.append_nil]
  have hgc : Ev.get ((crl n x o cx co).map ip) (k : Int) = some (ip (i, j)) := get_at rfl (by rw [List.getElem?_map, hp]; rfl)
  have hj1 : ∀ (b : Bool) (a1 a2 : Int), (a1, a2) = ps (sgl n x o cx co) ((k : Int), true) → F.gridlink_segments_j1 m ((sgl n x o cx co).take k) (k : Int)
    (tab n (fun i => (((crl n x o cx co).take k).filter (fun p => decide (p.1 = i))).map fun p => ps (sgl n x o cx co) (vov (crl n x o cx co) p))) (tab n (fun j => (((crl n x o cx co).take k).filter (fun p => decide (p.2 = j))).map fun p => ps (sgl n x o cx co) (vun (crl n x o cx co) p))) (ip (i, j)) (sgn x o cx co (i, j)) b a1 a2 =
    some (.inl ((sgl n x o cx co).take (k + 1), ((k + 1 : Nat) : Int), tab n (fun i => (((crl n x o cx co).take (k + 1)).filter (fun p => decide (p.1 = i))).map fun p => ps (sgl n x o cx co) (vov (crl n x o cx co) p)), tab n (fun j => (((crl n x o cx co).take (k + 1)).filter (fun p => decide (p.2 = j))).map fun p => ps (sgl n x o cx co) (vun (crl n x o cx co) p)))) := by
   intro b a1 a2 ha
   have q1 : (ip (i, j)).1 = ((i : Nat) : Int) := rfl
   have q2 : (ip (i, j)).2 = ((j : Nat) : Int) := rfl
   have f1 := hfl fun p => decide (p.1 = i)
   have f2 := hfl fun p => decide (p.2 = j)
   unfold F.gridlink_segments_j1
   rw [q1, q2, lim_ok (by simp only [List.length_cons, List.length_nil]; omega), Option.bind_some, get_tab rfl hi, Option.bind_some, Option.bind_some, lim_ok (by rw [List.length_map]; simp only [List.length_cons, List.length_nil]; omega), Option.bind_some, Option.bind_some,
    get_tab rfl hj, Option.bind_some, chk_ok (by omega) (by omega), Option.bind_some, Option.bind_some, chk_ok (by omega) (by omega), Option.bind_some, lim_ok (by rw [List.length_map]; simp only [List.length_cons, List.length_nil]; omega), Option.bind_some, Option.bind_some, chk_ok (by omega) (by omega), Option.bind_some,
    hsk, Int.toNat_natCast, Int.toNat_natCast, ha, e1, ← ps_under (sg := sgl n x o cx co), e2]
   rfl
  unfold F.gridlink_segments_b0
  dsimp only
  rw [List.length_map, decide_eq_true (show (k : Int) < ((crl n x o cx co).length : Int) by omega), cond_true, hgc, Option.bind_some]
  have q1 : (ip (i, j)).1 = ((i : Nat) : Int) := rfl
  have q2 : (ip (i, j)).2 = ((j : Nat) : Int) := rfl
  rw [q1, q2, get_li (by omega) (by omega), Option.bind_some, get_li (by omega) (by omega), Option.bind_some, get_li (by omega) (by omega), Option.bind_some, get_li (by omega) (by omega), Option.bind_some, Int.toNat_natCast, Int.toNat_natCast,
   chk_ok (z := 4 * (k : Int)) (by omega) (by omega), Option.bind_some, chk_ok (z := 4 * (k : Int) + 1) (by omega) (by omega), Option.bind_some, Option.bind_some, chk_ok (z := 4 * (k : Int) + 3) (by omega) (by omega), Option.bind_some]
  have hb1 : decide (((x i : Nat) : Int) < ((o i : Nat) : Int)) = decide (x i < o i) := decide_eq_decide.2 (by omega)
  have hb2 : decide (((co j : Nat) : Int) < ((cx j : Nat) : Int)) = decide (co j < cx j) := decide_eq_decide.2 (by omega)
  rw [hb1, hb2]
  cases hb : (!(decide (x i < o i) == decide (co j < cx j))) with
  | true =>
   have hs : sgn x o cx co (i, j) = 1 := by unfold sgn; rw [if_pos hb]
   rw [cond_true, Option.bind_some, chk_ok (z := 4 * (k : Int) + 3) (by omega) (by omega), Option.bind_some, Option.bind_some, chk_ok (z := 4 * (k : Int) + 1) (by omega) (by omega), Option.bind_some]
   rw [hs] at hsg
   have q := hj1 true _ _ (ps_over hsg).symm
   rw [hs] at q
   exact q
  | false =>
   have hs : sgn x o cx co (i, j) = -1 := by unfold sgn; rw [if_neg (by rw [hb]; decide)]
   rw [cond_false]
   rw [hs] at hsg
   have q := hj1 false _ _ (ps_over' (by rw [hsg]; decide)).symm
   rw [hs] at q
   exact q
 ·
  unfold F.gridlink_segments_b0
  dsimp only
  rw [List.length_map, decide_eq_false (by omega), cond_false, List.take_length, show (crl n x o cx co).length = (sgl n x o cx co).length by simp [sgl], List.take_length]
theorem Gd.seg_len (P : Nat × Nat → Bool) : ((crl n x o cx co).filter P).length ≤ 1600 := by
 have := List.length_filter_le P (crl n x o cx co)
 have := g.crl_len
 omega
theorem Gd.segments (hL : (crl n x o cx co).length ≤ 64) (m : Nat) (hm : 2000 < m) :
  F.gridlink_segments m (li n x) (li n o) ((crl n x o cx co).map ip) = some (sgl n x o cx co, tab n (fun i => (colV n x o cx co i).map (ps (sgl n x o cx co))), tab n (fun j => (rowV n x o cx co j).map (ps (sgl n x o cx co)))) := by
 have hn := g.hi
 unfold F.gridlink_segments
 rw [linkInverse g.px (by omega) m (by omega), Option.bind_some, linkInverse g.po (by omega) m (by omega), Option.bind_some, li_len, pos_ok (by omega) (by omega), Option.bind_some, Option.bind_some, Int.toNat_natCast, tab_rep, g.seg_loop hL m hm, Option.bind_some]
 dsimp only
 let A : Nat → List (Int × Int) := fun i => ((crl n x o cx co).filter (fun p => decide (p.1 = i))).map fun p => ps (sgl n x o cx co) (vov (crl n x o cx co) p)
 let B : Nat → List (Int × Int) := fun j => ((crl n x o cx co).filter (fun p => decide (p.2 = j))).map fun p => ps (sgl n x o cx co) (vun (crl n x o cx co) p)
 let A' : Nat → List (Int × Int) := fun i => (colV n x o cx co i).map (ps (sgl n x o cx co))
 let B' : Nat → List (Int × Int) := fun j => (rowV n x o cx co j).map (ps (sgl n x o cx co))
 have hA : ∀ i, i < n → A' i = if x i < o i then A i else (A i).reverse := fun i hi => by
  show (colV n x o cx co i).map (ps (sgl n x o cx co)) = _
  rw [g.colV_eq hi]
  by_cases h : x i < o i
  · rw [if_pos h, if_pos h, List.map_map]; rfl
  · rw [if_neg h, if_neg h, List.map_reverse, List.map_map]; rfl
 have hB : ∀ j, j < n → B' j = if co j < cx j then B j else (B j).reverse := fun j hj => by
  show (rowV n x o cx co j).map (ps (sgl n x o cx co)) = _
  rw [g.rowV_eq hj]
  by_cases h : co j < cx j
  · rw [if_pos h, if_pos h, List.map_map]; rfl
  · rw [if_neg h, if_neg h, List.map_reverse, List.map_map]; rfl
 have lA : ∀ i, (A i).length ≤ 1600 := fun i => by show (List.map _ _).length ≤ _; rw [List.length_map]; exact g.seg_len _
 have lB : ∀ j, (B j).length ≤ 1600 := fun j => by show (List.map _ _).length ≤ _; rw [List.length_map]; exact g.seg_len _
 show (loopN m (F.gridlink_segments_b2 m (li n x) (li n o) (li n cx) (li n co)) (0, tab n A, tab n B)).bind _ = some (sgl n x o cx co, tab n A', tab n B')
 have key := count_loop (body := F.gridlink_segments_b2 m (li n x) (li n o) (li n cx) (li n co))
  (fun k => ((k : Int), tab n (fun i => if i < k then A' i else A i), tab n (fun j => if j < k then B' j else B j))) n (r := ((n : Int), tab n A', tab n B')) (fun k hk => ?_) ?_ m (by omega)
 ·
  have s0 : ((0 : Int), tab n A, tab n B) = (((0 : Nat) : Int), tab n (fun i => if i < 0 then A' i else A i), tab n (fun j => if j < 0 then B' j else B j)) := by
   rw [tab_ext (f := fun i => if i < 0 then A' i else A i) (g := A) (fun i _ => if_neg (by omega)), tab_ext (f := fun j => if j < 0 then B' j else B j) (g := B) (fun i _ => if_neg (by omega))]
   rfl
  rw [s0, key, Option.bind_some]
 ·
  have h1 := g.xl hk
  have h2 := g.ol hk
  have h3 := g.cxl hk
  have h4 := g.col hk
  have h5 := g.ne k hk
  have h6 := g.cne hk
  have setA : (tab n (fun i => if i < k then A' i else A i)).set k (A' k) = tab n (fun i => if i < k + 1 then A' i else A i) := by
   rw [tab_set]
   refine tab_ext fun i hi => ?_
   by_cases e : i = k
   · subst e; rw [if_pos rfl, if_pos (by omega)]
   ·
    rw [if_neg e]
    by_cases e2 : i < k
    · rw [if_pos e2, if_pos (by omega)]
    · rw [if_neg e2, if_neg (by omega)]
  have setB : (tab n (fun i => if i < k then B' i else B i)).set k (B' k) = tab n (fun i => if i < k + 1 then B' i else B i) := by
   rw [tab_set]
   refine tab_ext fun i hi => ?_
   by_cases e : i = k
   · subst e; rw [if_pos rfl, if_pos (by omega)]
   ·
    rw [if_neg e]
    by_cases e2 : i < k
    · rw [if_pos e2, if_pos (by omega)]
    · rw [if_neg e2, if_neg (by omega)]
  have idA : x k < o k → tab n (fun i => if i < k then A' i else A i) = tab n (fun i => if i < k + 1 then A' i else A i) := fun h => tab_ext fun i hi => by
   by_cases e : i = k
   · subst e; rw [if_neg (by omega), if_pos (by omega), hA i hi, if_pos h]
   ·
    by_cases e2 : i < k
    · rw [if_pos e2, if_pos (by omega)]
    · rw [if_neg e2, if_neg (by omega)]
  have idB : co k < cx k → tab n (fun i => if i < k then B' i else B i) = tab n (fun i => if i < k + 1 then B' i else B i) := fun h => tab_ext fun i hi => by
   by_cases e : i = k
   · subst e; rw [if_neg (by omega), if_pos (by omega), hB i hi, if_pos h]
   ·
    by_cases e2 : i < k
    · rw [if_pos e2, if_pos (by omega)]
    · rw [if_neg e2, if_neg (by omega)]
  have hj3 : ∀ (b : Bool) (T : List (List (Int × Int))), F.gridlink_segments_j3 m (li n cx) (li n co) (k : Int) (tab n (fun j => if j < k then B' j else B j)) b T = some (.inl (((k + 1 : Nat) : Int), T, tab n (fun j => if j < k + 1 then B' j else B j))) := by
   intro b T
   unfold F.gridlink_segments_j3
   rw [get_li (by omega) (by omega), Option.bind_some, get_li (by omega) (by omega), Option.bind_some, Int.toNat_natCast]
   by_cases h : co k < cx k
   ·
    rw [decide_eq_false (by omega), cond_false, chk_ok (by omega) (by omega), Option.bind_some, idB h]
    rfl
   ·
    rw [decide_eq_true (by omega), cond_true, get_tab rfl hk, Option.bind_some, if_neg (by omega), revPass _ (by have := lB k; omega) m (by have := lB k; omega), Option.bind_some, chk_ok (by omega) (by omega), Option.bind_some]
    have : (B k).reverse = B' k := by rw [hB k hk, if_neg h]
    rw [this, setB]
    rfl
  unfold F.gridlink_segments_b2
  dsimp only
  rw [li_len, decide_eq_true (show (k : Int) < (n : Int) by omega), cond_true, get_li (by omega) (by omega), Option.bind_some, get_li (by omega) (by omega), Option.bind_some, Int.toNat_natCast]
  by_cases h : x k < o k
  · rw [decide_eq_false (show ¬ ((o k : Nat) : Int) < ((x k : Nat) : Int) by omega), cond_false, hj3, idA h]
  ·
   rw [decide_eq_true (show ((o k : Nat) : Int) < ((x k : Nat) : Int) by omega), cond_true, get_tab rfl hk, Option.bind_some, if_neg (by omega), revPass _ (by have := lA k; omega) m (by have := lA k; omega), Option.bind_some, hj3]
   have : (A k).reverse = A' k := by rw [hA k hk, if_neg h]
   rw [this, setA]
 ·
  unfold F.gridlink_segments_b2
  dsimp only
  rw [li_len, decide_eq_false (by omega), cond_false]
  rw [tab_ext (f := fun i => if i < n then A' i else A i) (g := A') (fun i h => if_pos h), tab_ext (f := fun i => if i < n then B' i else B i) (g := B') (fun i h => if_pos h)]
end
end Gl
end Go.Proofs.Yticemffhlapnnaa
