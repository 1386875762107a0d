/- The reference: numbers, signs, and the way along columns and rows. -/
import Derived.Test.YticemffhlapnnaaPRsegs
set_option linter.unusedVariables false
set_option linter.unusedSimpArgs false
namespace Go.Proofs.Yticemffhlapnnaa
open Ev
namespace Gl
open Gar Pg
theorem refNumber {L : List (Nat × Nat)} (hL : L.Nodup) (hl : L.length ≤ 2000) (i r : Nat) (n : Nat) (hn : 3000 < n) : F.ref44_number n (L.map ip) (i : Int) (r : Int) = some (if (i, r) ∈ L then (num L (i, r) : Int) else -1) := by
 unfold F.ref44_number
 have hstep : ∀ k, k < L.length → L[k]? ≠ some (i, r) → F.ref44_number_b0 n (L.map ip) (i : Int) (r : Int) (k : Int) = some (.inl ((k + 1 : Nat) : Int)) := by
  intro k hk hne
  obtain ⟨p, hp⟩ : ∃ p, L[k]? = some p := ⟨_, List.getElem?_eq_getElem hk⟩
  have hg : Ev.get (L.map ip) (k : Int) = some (ip p) := get_at rfl (by rw [List.getElem?_map, hp]; rfl)
  unfold F.ref44_number_b0
  dsimp only
  have hb : (decide ((ip p).1 = (i : Int)) && (decide ((ip p).2 = (r : Int)) && true)) = false := by
   rw [hp] at hne
   obtain ⟨a, b⟩ := p
   have q1 : (ip (a, b)).1 = ((a : Nat) : Int) := rfl
   have q2 : (ip (a, b)).2 = ((b : Nat) : Int) := rfl
   rw [q1, q2, Bool.and_true]
   by_cases e1 : a = i
   ·
    by_cases e2 : b = r
    · subst e1 e2; exact absurd rfl hne
    · rw [decide_eq_false (show ¬ ((b : Nat) : Int) = (r : Int) by omega), Bool.and_false]
   · rw [decide_eq_false (show ¬ ((a : Nat) : Int) = (i : Int) by omega), Bool.false_and]
  rw [List.length_map, decide_eq_true (show (k : Int) < (L.length : Int) by omega), cond_true, hg, Option.bind_some, hb, cond_false, chk_ok (by omega) (by omega), Option.bind_some]
  rfl
 by_cases hm : (i, r) ∈ L
 ·
  have h1 := num_lt hm
  have h2 := at_num hm
  have := count_loop (body := F.ref44_number_b0 n (L.map ip) (i : Int) (r : Int)) (fun k => (k : Int)) (num L (i, r)) (r := .inr (num L (i, r) : Int)) (fun k hk => hstep k (by omega) fun e => by
   have := num_at hL e; omega) (by
   have hg : Ev.get (L.map ip) ((num L (i, r) : Nat) : Int) = some (ip (i, r)) := get_at rfl (by rw [List.getElem?_map, h2]; rfl)
   have q1 : (ip (i, r)).1 = ((i : Nat) : Int) := rfl
   have q2 : (ip (i, r)).2 = ((r : Nat) : Int) := rfl
   unfold F.ref44_number_b0
   dsimp only
   rw [List.length_map, decide_eq_true (by omega), cond_true, hg, Option.bind_some, q1, q2, decide_eq_true rfl, decide_eq_true rfl]
   rfl) n (by omega)
  rw [show ((0 : Int)) = ((0 : Nat) : Int) from rfl, this, Option.bind_some, if_pos hm]
 ·
  have := count_loop (body := F.ref44_number_b0 n (L.map ip) (i : Int) (r : Int)) (fun k => (k : Int)) L.length (r := .inl (L.length : Int)) (fun k hk => hstep k hk fun e => hm (List.mem_of_getElem? e)) (by
   unfold F.ref44_number_b0
   dsimp only
   rw [List.length_map, decide_eq_false (by omega), cond_false]) n (by omega)
  rw [show ((0 : Int)) = ((0 : Nat) : Int) from rfl, this, Option.bind_some, if_neg hm]
/-- A way from a to b that gathers two lists. -/
theorem walk_loop {a b : Nat} (hab : a ≠ b) (P : Nat → Bool) (f : Nat → Int × Int) {body : List Int × List Int × Int → Option ((List Int × List Int × Int) ⊕ (List Int × List Int × Int))} (d : Int) (hd : d = if a < b then 1 else -1)
  (hs : ∀ l1 l2 (r : Nat), r ≠ b → min a b ≤ r → r ≤ max a b → l1.length ≤ 100000 → l2.length ≤ 100000 → body (l1, l2, (r : Int)) = some (.inl (l1 ++ (if P r = true then [(f r).1] else []), l2 ++ (if P r = true then [(f r).2] else []), (r : Int) + d)))
  (he : ∀ l1 l2, body (l1, l2, (b : Int)) = some (.inr (l1, l2, (b : Int)))) (a1 a2 : List Int) (h1 : a1.length ≤ 50000) (h2 : a2.length ≤ 50000) (hD : max a b ≤ 1000) (m : Nat) (hm : 2000 < m) :
  loopN m body (a1, a2, (a : Int)) = some (a1 ++ ((seg a b).filter P).map (fun r => (f r).1), a2 ++ ((seg a b).filter P).map (fun r => (f r).2), (b : Int)) := by
 have key := count_loop (body := body) (fun k => (a1 ++ ((segk a b k).filter P).map (fun r => (f r).1), a2 ++ ((segk a b k).filter P).map (fun r => (f r).2), (a : Int) + d * k)) (max a b - min a b)
  (r := (a1 ++ ((seg a b).filter P).map (fun r => (f r).1), a2 ++ ((seg a b).filter P).map (fun r => (f r).2), (b : Int))) (fun k hk => ?_) ?_ m (by omega)
 · simpa [segk] using key
 ·
  have hl : ((segk a b k).filter P).length ≤ k := by
   have := List.length_filter_le P (segk a b k)
   simpa [segk] using this
  have e : (a : Int) + d * k = (((if a < b then a + k else a - k) : Nat) : Int) := by
   rw [hd]
   by_cases h : a < b
   · rw [if_pos h, if_pos h]; omega
   · rw [if_neg h, if_neg h]; omega
  have e2 : (a : Int) + d * ((k + 1 : Nat) : Int) = (((if a < b then a + k else a - k) : Nat) : Int) + d := by
   rw [← e, Int.natCast_add, Int.mul_add]
   simp [Int.add_assoc]
  rw [e, e2, segk_succ, List.filter_append]
  generalize hr : (if a < b then a + k else a - k) = r
  have hr' : r ≠ b ∧ min a b ≤ r ∧ r ≤ max a b := by
   rw [← hr]
   split <;> omega
  rw [hs _ _ r hr'.1 hr'.2.1 hr'.2.2 (by rw [List.length_append, List.length_map]; omega) (by rw [List.length_append, List.length_map]; omega)]
  by_cases hp : P r = true
  · simp [hp]
  · simp [hp]
 ·
  have e : (a : Int) + d * ((max a b - min a b : Nat) : Int) = (b : Int) := by
   rw [hd]
   by_cases h : a < b
   · rw [if_pos h]; omega
   · rw [if_neg h]; omega
  rw [e, he]
  rfl
section
variable {n : Nat} {x o cx co : Nat → Nat} (g : Gd n x o cx co)
include g
theorem Gd.refNum {i j : Nat} (hi : i < n) (hj : j < n) (m : Nat) (hm : 3000 < m) : F.ref44_number m ((crl n x o cx co).map ip) (i : Int) (j : Int) = some (if cr x o cx co i j = true then (num (crl n x o cx co) (i, j) : Int) else -1) := by
 rw [refNumber (crl_nodup n x o cx co) (by have := g.crl_len; omega) i j m hm]
 by_cases h : cr x o cx co i j = true
 · rw [if_pos h, if_pos (mem_crl.2 ⟨hi, hj, h⟩)]
 · rw [if_neg h, if_neg (fun q => h (mem_crl.1 q).2.2)]
omit g in
theorem Gd.sgl_len (g : Gd n x o cx co) : (sgl n x o cx co).length = (crl n x o cx co).length := by simp [sgl]
omit g in
theorem Gd.sgl_get (g : Gd n x o cx co) {p : Nat × Nat} (h : p ∈ crl n x o cx co) : Ev.get (sgl n x o cx co) ((num (crl n x o cx co) p : Nat) : Int) = some (sgn x o cx co p) := by
 refine get_at rfl ?_
 unfold sgl
 rw [List.getElem?_map, at_num h]
 rfl
theorem Gd.refSigns (m : Nat) (hm : 3000 < m) : loopN m (F.ref44_Diagram_b0 m (li n x) (li n o) ((crl n x o cx co).map ip)) (0, ([] : List Int)) = some (((crl n x o cx co).length : Int), sgl n x o cx co) := by
 have hn := g.hi
 have hl := g.crl_len
 refine count_loop (body := F.ref44_Diagram_b0 m (li n x) (li n o) ((crl n x o cx co).map ip)) (fun k => ((k : Int), (sgl n x o cx co).take k)) (crl n x o cx co).length (fun k hk => ?_) ?_ m (by omega)
 ·
  obtain ⟨p, hp⟩ : ∃ p, (crl n x o cx co)[k]? = some p := ⟨_, List.getElem?_eq_getElem hk⟩
  have hmem := List.mem_of_getElem? hp
  obtain ⟨i, j⟩ := p
  obtain ⟨hi, hj, hc⟩ := mem_crl.1 hmem
  have h1 := g.xl hi
  have h2 := g.ol hi
  have h3 := g.cxl hj
  have h4 := g.col hj
  have h5 := g.ne i hi
  have h6 := g.cne hj
  have hsk : (sgl n x o cx co).take (k + 1) = (sgl n x o cx co).take k ++ [sgn x o cx co (i, j)] := by
   rw [List.take_add_one]
   unfold sgl
   rw [List.getElem?_map, hp]
   rfl
  have hlt : ((sgl n x o cx co).take k).length ≤ k := by rw [List.length_take]; omega
  have hgc : Ev.get ((crl n x o cx co).map ip) (k : Int) = some (ip (i, j)) := get_at rfl (by rw [List.getElem?_map, hp]; rfl)
  have q1 : (ip (i, j)).1 = ((i : Nat) : Int) := rfl
  have q2 : (ip (i, j)).2 = ((j : Nat) : Int) := rfl
  unfold F.ref44_Diagram_b0
  dsimp only
  rw [List.length_map, decide_eq_true (show (k : Int) < ((crl n x o cx co).length : Int) by omega), cond_true, hgc, Option.bind_some, q1, get_li (by omega) (by omega), Option.bind_some, Option.bind_some, q1, get_li (by omega) (by omega), Option.bind_some, Option.bind_some, q2, refColumn g.po hj (by omega) m (by omega), Option.bind_some, Option.bind_some, q2, refColumn g.px hj (by omega) m (by omega), Option.bind_some, Int.toNat_natCast, hsk]
  have hb1 : decide (((o i : Nat) : Int) < ((x i : Nat) : Int)) = !decide (x i < o i) := by
   by_cases h : x i < o i
   · rw [decide_eq_true h, decide_eq_false (by omega)]; rfl
   · rw [decide_eq_false h, decide_eq_true (by omega)]; rfl
  have hb2 : decide (((co j : Nat) : Int) < ((cx j : Nat) : Int)) = decide (co j < cx j) := decide_eq_decide.2 (by omega)
  rw [hb1, hb2]
  have hsg : sgn x o cx co (i, j) = if ((!decide (x i < o i)) == decide (co j < cx j)) = true then 1 else -1 := by
   unfold sgn
   cases decide (x i < o i) <;> cases decide (co j < cx j) <;> rfl
  rw [hsg]
  cases ((!decide (x i < o i)) == decide (co j < cx j)) with
  | true =>
   rw [cond_true, lim_ok (by simp only [List.length_cons, List.length_nil]; omega), Option.bind_some, chk_ok (by omega) (by omega), Option.bind_some]
   rfl
  | false =>
   rw [cond_false, lim_ok (by simp only [List.length_cons, List.length_nil]; omega), Option.bind_some, chk_ok (by omega) (by omega), Option.bind_some]
   rfl
 ·
  unfold F.ref44_Diagram_b0
  dsimp only
  rw [List.length_map, decide_eq_false (by omega), cond_false, ← g.sgl_len, List.take_length]
omit g in
theorem Gd.ps_vov (g : Gd n x o cx co) {i j : Nat} (hi : i < n) (hj : j < n) (h : cr x o cx co i j = true) : ps (sgl n x o cx co) (vov (crl n x o cx co) (i, j)) = (4 * (num (crl n x o cx co) (i, j) : Int) + 2 + sgn x o cx co (i, j), 4 * (num (crl n x o cx co) (i, j) : Int) + 2 - sgn x o cx co (i, j)) := by
 have hs := sgl_at (mem_crl.2 ⟨hi, hj, h⟩)
 unfold vov
 rcases sgn_or x o cx co (i, j) with e | e
 ·
  rw [ps_over (by rw [hs, e]), e]
  exact Prod.ext (by dsimp only; omega) (by dsimp only; omega)
 ·
  rw [ps_over' (by rw [hs, e]; decide), e]
  exact Prod.ext (by dsimp only; omega) (by dsimp only; omega)
theorem Gd.col_walk {c : Nat} (hc : c < n) (a1 a2 : List Int) (h1 : a1.length ≤ 50000) (h2 : a2.length ≤ 50000) (m : Nat) (hm : 3000 < m) :
  loopN m (F.ref44_Diagram_b4 m (li n o) ((crl n x o cx co).map ip) (sgl n x o cx co) (c : Int) (if x c < o c then 1 else -1)) (a1, a2, (x c : Int)) =
   some (a1 ++ (colV n x o cx co c).map (fun v => (ps (sgl n x o cx co) v).1), a2 ++ (colV n x o cx co c).map (fun v => (ps (sgl n x o cx co) v).2), (o c : Int)) := by
 have hn := g.hi
 have hl := g.crl_len
 have hxc := g.xl hc
 have hoc := g.ol hc
 have := walk_loop (g.ne c hc) (cr x o cx co c) (fun r => ps (sgl n x o cx co) (vov (crl n x o cx co) (c, r))) (body := F.ref44_Diagram_b4 m (li n o) ((crl n x o cx co).map ip) (sgl n x o cx co) (c : Int) (if x c < o c then 1 else -1)) (if x c < o c then 1 else -1) rfl
  (fun l1 l2 r hr q1 q2 q3 q4 => by
   have hrn : r < n := by omega
   have hd : (if x c < o c then (1 : Int) else -1) = 1 ∨ (if x c < o c then (1 : Int) else -1) = -1 := by split <;> simp
   generalize (if x c < o c then (1 : Int) else -1) = d at hd ⊢
   unfold F.ref44_Diagram_b4
   dsimp only
   rw [get_li (by omega) (by omega), Option.bind_some, Int.toNat_natCast, decide_eq_false (show ¬ ((r : Nat) : Int) = ((o c : Nat) : Int) by omega), Bool.not_false, cond_true, g.refNum hc hrn m hm, Option.bind_some]
   by_cases h : cr x o cx co c r = true
   ·
    have hmem := mem_crl.2 ⟨hc, hrn, h⟩
    have hlt := num_lt hmem
    have hsg := sgn_or x o cx co (c, r)
    rw [if_pos h, decide_eq_true (show (0 : Int) ≤ (num (crl n x o cx co) (c, r) : Int) by omega), cond_true, chk_ok (by omega) (by omega), Option.bind_some, chk_ok (by omega) (by omega), Option.bind_some, g.sgl_get hmem, Option.bind_some,
     chk_ok (z := 4 * (num (crl n x o cx co) (c, r) : Int) + 2 + sgn x o cx co (c, r)) (by omega) (by omega), Option.bind_some, lim_ok (by simp only [List.length_cons, List.length_nil]; omega), Option.bind_some, Option.bind_some, chk_ok (z := 4 * (num (crl n x o cx co) (c, r) : Int) + 2) (by omega) (by omega), Option.bind_some, Option.bind_some,
     chk_ok (z := 4 * (num (crl n x o cx co) (c, r) : Int) + 2 - sgn x o cx co (c, r)) (by omega) (by omega), Option.bind_some, lim_ok (by simp only [List.length_cons, List.length_nil]; omega), Option.bind_some, chk_ok (z := (r : Int) + d) (by omega) (by omega), Option.bind_some, if_pos h, if_pos h, g.ps_vov hc hrn h]
   · rw [if_neg h, decide_eq_false (by decide), cond_false, chk_ok (z := (r : Int) + d) (by omega) (by omega), Option.bind_some, if_neg h, if_neg h, List.append_nil, List.append_nil])
  (fun l1 l2 => by
   unfold F.ref44_Diagram_b4
   dsimp only
   rw [get_li (by omega) (by omega), Option.bind_some, Int.toNat_natCast, decide_eq_true rfl, Bool.not_true, cond_false]) a1 a2 h1 h2 (by omega) m (by omega)
 rw [this]
 unfold colV
 rw [List.map_map, List.map_map]
 rfl
theorem Gd.row_walk {j : Nat} (hj : j < n) (a1 a2 : List Int) (h1 : a1.length ≤ 50000) (h2 : a2.length ≤ 50000) (m : Nat) (hm : 3000 < m) :
  loopN m (F.ref44_Diagram_b6 m ((crl n x o cx co).map ip) (j : Int) (cx j : Int) (if co j < cx j then 1 else -1)) (a1, a2, (co j : Int)) =
   some (a1 ++ (rowV n x o cx co j).map (fun v => (ps (sgl n x o cx co) v).1), a2 ++ (rowV n x o cx co j).map (fun v => (ps (sgl n x o cx co) v).2), (cx j : Int)) := by
 have hn := g.hi
 have hl := g.crl_len
 have hxc := g.cxl hj
 have hoc := g.col hj
 have := walk_loop (fun e => g.cne hj e.symm) (fun i => cr x o cx co i j) (fun i => ps (sgl n x o cx co) (vun (crl n x o cx co) (i, j))) (body := F.ref44_Diagram_b6 m ((crl n x o cx co).map ip) (j : Int) (cx j : Int) (if co j < cx j then 1 else -1)) (if co j < cx j then 1 else -1) rfl
  (fun l1 l2 r hr q1 q2 q3 q4 => by
   have hrn : r < n := by omega
   have hd : (if co j < cx j then (1 : Int) else -1) = 1 ∨ (if co j < cx j then (1 : Int) else -1) = -1 := by split <;> simp
   generalize (if co j < cx j then (1 : Int) else -1) = d at hd ⊢
   unfold F.ref44_Diagram_b6
   dsimp only
   rw [decide_eq_false (show ¬ ((r : Nat) : Int) = ((cx j : Nat) : Int) by omega), Bool.not_false, cond_true, g.refNum hrn hj m hm, Option.bind_some]
   by_cases h : cr x o cx co r j = true
   ·
    have hmem := mem_crl.2 ⟨hrn, hj, h⟩
    have hlt := num_lt hmem
    rw [if_pos h, decide_eq_true (show (0 : Int) ≤ (num (crl n x o cx co) (r, j) : Int) by omega), cond_true, chk_ok (z := 4 * (num (crl n x o cx co) (r, j) : Int)) (by omega) (by omega), Option.bind_some, lim_ok (by simp only [List.length_cons, List.length_nil]; omega), Option.bind_some, Option.bind_some, chk_ok (z := 4 * (num (crl n x o cx co) (r, j) : Int) + 2) (by omega) (by omega), Option.bind_some,
     lim_ok (by simp only [List.length_cons, List.length_nil]; omega), Option.bind_some, chk_ok (z := (r : Int) + d) (by omega) (by omega), Option.bind_some, if_pos h, if_pos h]
    unfold vun
    rw [ps_under]
   · rw [if_neg h, decide_eq_false (by decide), cond_false, chk_ok (z := (r : Int) + d) (by omega) (by omega), Option.bind_some, if_neg h, if_neg h, List.append_nil, List.append_nil])
  (fun l1 l2 => by
   unfold F.ref44_Diagram_b6
   dsimp only
   rw [decide_eq_true rfl, Bool.not_true, cond_false]) a1 a2 h1 h2 (by omega) m (by omega)
 rw [this]
 unfold rowV
 rw [List.map_map, List.map_map]
 rfl
end
end Gl
end Go.Proofs.Yticemffhlapnnaa
