/- Exponent and permutation of words that are equal as braids. -/
import Derived.Test.YtlkmcbgkohpmiaaPGform
set_option linter.unusedVariables false
set_option linter.unusedSimpArgs false
namespace Go.Proofs.Ytlkmcbgkohpmiaa
open Ev
namespace Gar
def sg (x : Int) : Int := if 0 < x then 1 else -1
def expo : List Int → Int
  | [] => 0
  | x :: w => sg x + expo w
theorem expo_app (u w : List Int) : expo (u ++ w) = expo u + expo w := by
  induction u with
  | nil => simp [expo]
  | cons x u ih => simp only [List.cons_append, expo, ih]; omega
theorem expo_bound (w : List Int) : -(w.length : Int) ≤ expo w ∧ expo w ≤ w.length := by
  induction w with
  | nil => simp [expo]
  | cons x u ih => simp only [List.length_cons, expo]; unfold sg; split <;> omega
theorem sg_pos {i : Nat} (h : 1 ≤ i) : sg (i : Int) = 1 := if_pos (by omega)
theorem sg_neg {i : Nat} (h : 1 ≤ i) : sg (-(i : Int)) = -1 := if_neg (by omega)
theorem expo_pos {N : Nat} {w : List Nat} (h : ∀ i ∈ w, 1 ≤ i ∧ i < N) : expo (pos w) = w.length := by
  induction w with
  | nil => rfl
  | cons i w ih =>
    have := ih fun j hj => h j (by simp [hj])
    unfold pos at this ⊢
    rw [List.map_cons]
    simp only [expo, this, sg_pos (h i (by simp)).1, List.length_cons]; omega
theorem expo_neg {N : Nat} {w : List Int} (h : Rg N w) : expo (neg w) = - expo w := by
  induction w with
  | nil => rfl
  | cons x w ih =>
    have h1 := ih fun y hy => h y (by simp [hy])
    have h2 := h x (by simp)
    have e : neg (x :: w) = neg w ++ [-x] := by simp [neg]
    rw [e, expo_app, h1]
    simp only [expo]
    unfold sg
    by_cases hx : 0 < x
    · rw [if_pos hx, if_neg (by omega)]; omega
    · rw [if_neg hx, if_pos (by omega)]; omega
/-- The permutation of a word, and its inverse. -/
def pmw : List Int → Nat → Nat
  | [], k => k
  | x :: w, k => pmw w (tr x.natAbs k)
def pmi : List Int → Nat → Nat
  | [], k => k
  | x :: w, k => tr x.natAbs (pmi w k)
theorem pmw_app (u v : List Int) (k : Nat) : pmw (u ++ v) k = pmw v (pmw u k) := by
  induction u generalizing k with
  | nil => rfl
  | cons x u ih => simp only [List.cons_append, pmw, ih]
theorem pmi_app (u v : List Int) (k : Nat) : pmi (u ++ v) k = pmi u (pmi v k) := by
  induction u generalizing k with
  | nil => rfl
  | cons x u ih => simp only [List.cons_append, pmi, ih]
section
variable {N : Nat}
theorem pmw_pm {w : List Int} (h : Rg N w) : Pm N (pmw w) (pmi w) := by
  induction w with
  | nil => exact Pm.id N
  | cons x w ih =>
    have h1 := h x (by simp)
    have h2 := (ih fun y hy => h y (by simp [hy])).ex (i := x.natAbs) (by omega) (by omega)
    exact h2
theorem BE.hom {u v : List Int} (h : BE N u v) : expo u = expo v ∧ pmw u = pmw v := by
  induction h with
  | refl w => exact ⟨rfl, rfl⟩
  | symm _ ih => exact ⟨ih.1.symm, ih.2.symm⟩
  | trans _ _ h1 h2 => exact ⟨h1.1.trans h2.1, h1.2.trans h2.2⟩
  | @far a b i j h1 h2 h3 h4 h5 =>
    refine ⟨by simp only [expo_app, expo]; omega, funext fun k => ?_⟩
    rw [pmw_app, pmw_app]
    simp only [pmw, Int.natAbs_natCast]
    rw [tr_far h1 h3 (.inl h5)]
  | @braid a b i h1 h2 =>
    refine ⟨by simp only [expo_app, expo]; rw [sg_pos h1, sg_pos (show 1 ≤ i + 1 by omega)], funext fun k => ?_⟩
    rw [pmw_app, pmw_app]
    simp only [pmw, Int.natAbs_natCast]
    rw [tr_braid h1]
  | @pn a b i h1 h2 =>
    refine ⟨by simp only [expo_app, expo]; rw [sg_pos h1, sg_neg h1]; omega, funext fun k => ?_⟩
    rw [pmw_app, pmw_app]
    simp only [pmw, Int.natAbs_neg, Int.natAbs_natCast, tr_tr h1]
  | @np a b i h1 h2 =>
    refine ⟨by simp only [expo_app, expo]; rw [sg_pos h1, sg_neg h1]; omega, funext fun k => ?_⟩
    rw [pmw_app, pmw_app]
    simp only [pmw, Int.natAbs_neg, Int.natAbs_natCast, tr_tr h1]
theorem Wd.pmw {f : Nat → Nat} {w : List Nat} (h : Wd N f w) : pmw (pos w) = f := by
  induction h with
  | nil => rfl
  | @cons f i w h1 h2 h3 h4 ih =>
    funext k
    unfold pos at ih ⊢
    simp only [List.map_cons, Gar.pmw, ih, Int.natAbs_natCast, tr_tr h1]
/-- One permutation after the other. -/
def comp : List (Nat → Nat) → Nat → Nat
  | [], k => k
  | f :: fs, k => comp fs (f k)
def invs (N : Nat) : List (Nat → Nat) → Nat
  | [] => 0
  | f :: fs => inv (lst N f) + invs N fs
theorem Wl.pmw {fs : List (Nat → Nat)} {v : List Nat} (h : Wl N fs v) : pmw (pos v) = comp fs ∧ v.length = invs N fs := by
  induction h with
  | nil => exact ⟨rfl, rfl⟩
  | @cons f fs w v h1 _ ih =>
    refine ⟨funext fun k => ?_, by rw [List.length_append, h1.len, ih.2]; rfl⟩
    rw [pos_app, pmw_app, h1.pmw, ih.1]; rfl
theorem pwn_hom {u : List Int} (n : Nat) : expo (pwn u n) = n * expo u := by
  induction n with
  | zero => simp [pwn, expo]
  | succ n ih => simp only [pwn, expo_app, ih]; rw [Int.natCast_add, Int.add_mul]; simp
theorem pwn_dl {u : List Int} (h : Gar.pmw u = dl N) (n : Nat) : Gar.pmw (pwn u n) = if n % 2 = 0 then (fun k => k) else dl N := by
  induction n with
  | zero => rfl
  | succ n ih =>
    funext k
    simp only [pwn, pmw_app, ih, h]
    by_cases e : n % 2 = 0
    · rw [if_pos e, if_neg (by omega)]
    · rw [if_neg e, if_pos (by omega)]; exact dl_dl k
variable {H : List Nat} (hH : Wd N (dl N) H)
include hH
theorem pw_expo (p : Int) : expo (pw H p) = p * (H.length : Int) := by
  have h1 := expo_pos hH.rng
  have h2 := expo_neg (Hrg hH)
  unfold pw
  split
  · rename_i h; rw [pwn_hom, h1]; congr 1; omega
  · rename_i h; rw [pwn_hom, h2, h1, Int.mul_neg, ← Int.neg_mul]; congr 1; omega
theorem pw_pmw (p : Int) : Gar.pmw (pw H p) = if p % 2 = 0 then (fun k => k) else dl N := by
  have h1 := hH.pmw
  have h2 : Gar.pmw (neg (pos H)) = dl N := by
    have e := (BE.cancel (Hrg hH)).hom.2
    funext k
    have e1 := congrFun e (dl N k)
    rw [pmw_app, h1, dl_dl] at e1
    exact e1
  unfold pw
  split
  · rename_i h; rw [pwn_dl h1]
    by_cases e : p % 2 = 0
    · rw [if_pos e, if_pos (by omega)]
    · rw [if_neg e, if_neg (by omega)]
  · rename_i h; rw [pwn_dl h2]
    by_cases e : p % 2 = 0
    · rw [if_pos e, if_pos (by omega)]
    · rw [if_neg e, if_neg (by omega)]
omit hH
/-- Exponent and permutation of a normal form. -/
theorem NV.hom {p : Int} {qs : List Pr} {b : List Int} (h : NV N p qs b) : expo b = p * (inv (lst N (dl N)) : Int) + invs N (fsts qs) ∧ Gar.pmw b = fun k => comp (fsts qs) ((if p % 2 = 0 then (fun k => k) else dl N) k) := by
  obtain ⟨H, hH⟩ := (dl_pm (N := N)).word
  obtain ⟨v, h1, h2⟩ := h.ns H hH
  obtain ⟨a1, a2⟩ := h2.hom
  obtain ⟨b1, b2⟩ := h1.pmw
  refine ⟨?_, ?_⟩
  · rw [a1, expo_app, pw_expo hH, hH.len, expo_pos h1.rng, b2]
  · rw [a2]
    funext k
    rw [pmw_app, pw_pmw hH, b1]
theorem inv_dl : ∀ N, N ≤ 10 → 2 * inv (lst N (dl N)) = N * (N - 1) := by decide
/-! The program's functions. -/
def invTo (l : List Nat) : Nat → Nat
  | 0 => 0
  | i + 1 => invTo l i + (l.drop (i + 1)).countP fun x => decide (x < l.getD i 0)
theorem invTo_cons (a : Nat) (l : List Nat) (i : Nat) : invTo (a :: l) (i + 1) = l.countP (fun x => decide (x < a)) + invTo l i := by
  induction i with
  | zero => simp [invTo]
  | succ i ih => rw [invTo, ih, invTo]; simp; omega
theorem invTo_all (l : List Nat) : invTo l l.length = inv l := by
  induction l with
  | nil => rfl
  | cons a l ih => rw [List.length_cons, invTo_cons, ih]; rfl
theorem invTo_le (l : List Nat) (i : Nat) : invTo l i ≤ i * l.length := by
  induction i with
  | zero => simp [invTo]
  | succ i ih =>
    have := List.countP_le_length (p := fun x => decide (x < l.getD i 0)) (l := l.drop (i + 1))
    rw [List.length_drop] at this
    rw [invTo, Nat.succ_mul]; omega
theorem lst_len (f : Nat → Nat) : (lst N f).length = N := by simp [lst]
theorem lst_at {f : Nat → Nat} {k : Nat} (h : k < N) : (lst N f)[k]? = some (f k) := by simp [lst, h]
theorem generator_eq {x : Int} (n : Nat) (h : -1000 ≤ x ∧ x ≤ 1000) : F.braid_generator n x = some ((x.natAbs : Nat) : Int) := by
  unfold F.braid_generator
  rw [chk_ok (by omega) (by omega), Option.bind_some]
  congr 1; omega
theorem permStep {w : List Int} (h4 : Rg N w) (hN : N ≤ 100) (hl : w.length ≤ 1000) (n : Nat) (k : Nat) (hk : k < w.length) : F.braid_Perm_b1 n w ((k : Int), li N (pmi (w.take k))) = some (.inl (((k + 1 : Nat) : Int), li N (pmi (w.take (k + 1))))) := by
  have hx := h4 w[k] (List.getElem_mem hk)
  have ht : w.take (k + 1) = w.take k ++ [w[k]] := by rw [List.take_add_one, List.getElem?_eq_getElem hk]; rfl
  have hpx : pmi (w.take (k + 1)) = fun j => pmi (w.take k) (tr w[k].natAbs j) := by funext j; rw [ht, pmi_app]; rfl
  have hi1 : 1 ≤ w[k].natAbs := by omega
  have hi2 : w[k].natAbs < N := by omega
  have hg := generator_eq (x := w[k]) n (by omega)
  rw [hpx]
  unfold F.braid_Perm_b1
  dsimp only
  rw [decide_eq_true (by omega), cond_true, get_nat, List.getElem?_eq_getElem hk, Option.bind_some, hg, Option.bind_some]
  generalize pmi (w.take k) = f
  generalize w[k].natAbs = i at hi1 hi2
  have hk1 : ((i : Int) - 1).toNat = i - 1 := by omega
  have hk2 : (i : Int).toNat = i := by omega
  obtain ⟨x, e3⟩ : ∃ x, Ev.get ((li N f).set (i - 1) ((f i : Nat) : Int)) (i : Int) = some x := ⟨_, get_ok (by omega) (by rw [List.length_set, li_len]; omega)⟩
  have g1 : Ev.get (li N f) (i : Int) = some ((f i : Nat) : Int) := by rw [get_li (by omega) (by omega), hk2]
  have g2 : Ev.get (li N f) ((i : Int) - 1) = some ((f (i - 1) : Nat) : Int) := by rw [get_li (by omega) (by omega), hk1]
  rw [chk_ok (z := (i : Int) - 1) (by omega) (by omega), Option.bind_some, g1, Option.bind_some, Option.bind_some, g2, Option.bind_some, Option.bind_some, hk1, hk2, e3, Option.bind_some, li_sw hi1 hi2, chk_ok (by omega) (by omega), Option.bind_some]
  rfl
theorem permEnd {w : List Int} (n : Nat) (f : Nat → Nat) : F.braid_Perm_b1 n w ((w.length : Int), li N f) = some (.inr ((w.length : Int), li N f)) := by
  unfold F.braid_Perm_b1
  dsimp only
  rw [decide_eq_false (by omega), cond_false]
theorem permId (n : Nat) (hl : N ≤ 100) (hn : N < n) : loopN n (F.braid_Perm_b0 n (N : Int)) (0, List.replicate N (0 : Int)) = some ((N : Int), li N fun k => k) := by
  have l0 := count_loop (body := F.braid_Perm_b0 n (N : Int)) (fun k => ((k : Int), li N (fill (fun k => k) k))) N (r := ((N : Int), li N fun k => k)) (fun k hk => by
    unfold F.braid_Perm_b0
    dsimp only
    rw [List.length_replicate, show ((N : Int)).toNat = N by omega, decide_eq_true (by omega), cond_true, get_li (by omega) (by omega), Option.bind_some, chk_ok (by omega) (by omega), Option.bind_some, show (k : Int).toNat = k by omega, li_fill (f := fun k => k)]; rfl) (by
    unfold F.braid_Perm_b0
    dsimp only
    rw [List.length_replicate, show ((N : Int)).toNat = N by omega, decide_eq_false (by omega), cond_false, li_full]) n (by omega)
  rw [li_empty (f := fun k => k)]
  exact l0
theorem permInv {f g : Nat → Nat} (hp : Pm N f g) (n : Nat) (hl : N ≤ 100) (hn : N < n) : loopN n (F.braid_Perm_b2 n (N : Int) (li N f)) (0, List.replicate N (0 : Int)) = some ((N : Int), li N g) := by
  have l2 := count_loop (body := F.braid_Perm_b2 n (N : Int) (li N f)) (fun k => ((k : Int), li N (fun y => if g y < k then g y else 0))) N (r := ((N : Int), li N g)) (fun k hk => by
    unfold F.braid_Perm_b2
    dsimp only
    have hfk := hp.lt hk
    rw [List.length_replicate, show ((N : Int)).toNat = N by omega, decide_eq_true (by omega), cond_true, get_li (by omega) (by omega), Option.bind_some, show (k : Int).toNat = k by omega, get_li (by omega) (by omega), Option.bind_some, chk_ok (by omega) (by omega), Option.bind_some, show ((f k : Nat) : Int).toNat = f k by omega, li_set]
    congr 3
    apply li_ext
    intro y hy
    by_cases e : y = f k
    · subst e; rw [if_pos rfl, hp.gf, if_pos (by omega)]
    · rw [if_neg e]
      have : g y ≠ k := fun e2 => e (by rw [← e2, hp.fg])
      by_cases e3 : g y < k
      · rw [if_pos e3, if_pos (by omega)]
      · rw [if_neg e3, if_neg (by omega)]) (by
    unfold F.braid_Perm_b2
    dsimp only
    rw [List.length_replicate, show ((N : Int)).toNat = N by omega, decide_eq_false (by omega), cond_false]
    congr 3
    apply li_ext
    intro y hy
    rw [if_pos (hp.symm.lt hy)]) n (by omega)
  have e0 : List.replicate N (0 : Int) = li N (fun y => if g y < 0 then g y else 0) := by
    rw [li_rep]; exact li_ext fun y _ => (if_neg (by omega)).symm
  rw [e0]
  exact l2
theorem braidPerm {w : List Int} (hv : okB (N : Int) w = true) (n : Nat) (hn : 300 ≤ n) : F.braid_Perm n (N : Int) w = some (li N (Gar.pmw w)) := by
  obtain ⟨h1, h2, h3, h4⟩ := okB_iff.1 hv
  have hR : Rg N w := h4
  unfold F.braid_Perm
  have hpos : Ev.pos (N : Int) = some () := pos_ok (by omega) (by omega)
  have l1 := count_loop (body := F.braid_Perm_b1 n w) (fun k => ((k : Int), li N (pmi (w.take k)))) w.length (fun k hk => permStep hR (by omega) (by omega) n k hk) (permEnd n _) n (by omega)
  rw [List.take_length] at l1
  have l1' : loopN n (F.braid_Perm_b1 n w) (0, li N fun k => k) = some ((w.length : Int), li N (pmi w)) := l1
  rw [braidValid n (by omega), Option.bind_some, hv, Bool.not_true, cond_false, hpos, Option.bind_some, show ((N : Int)).toNat = N by omega, permId n (by omega) (by omega), Option.bind_some]
  dsimp only
  rw [l1', Option.bind_some]
  dsimp only
  rw [Option.bind_some, permInv (pmw_pm hR).symm n (by omega) (by omega), Option.bind_some]
end
end Gar
end Go.Proofs.Ytlkmcbgkohpmiaa
