/- Words of the free group: how letters turn them, and how that shows on the gapw. -/
import Derived.Test.YtkjpldmelafooaaPGgap
set_option linter.unusedVariables false
set_option linter.unusedSimpArgs false
namespace Go.Proofs.Ytkjpldmelafooaa
namespace Gar
/-! Words up to neighbours that cancel. -/
def ipush (a : Int) : List Int → List Int
  | [] => [a]
  | b :: t => if a = -b then t else a :: b :: t
theorem ipush_eq (a b : Int) (t : List Int) (h : a = -b) : ipush a (b :: t) = t := if_pos h
theorem ipush_ne {a b : Int} (h : a ≠ -b) (t : List Int) : ipush a (b :: t) = a :: b :: t := if_neg h
def ird : List Int → List Int
  | [] => []
  | a :: l => ipush a (ird l)
def Irdc : List Int → Prop
  | [] => True
  | [_] => True
  | a :: b :: t => a ≠ -b ∧ Irdc (b :: t)
theorem Irdc.tail {a : Int} {l : List Int} (h : Irdc (a :: l)) : Irdc l := by
  cases l with
  | nil => trivial
  | cons b t => exact h.2
theorem Irdc.push {l : List Int} (h : Irdc l) (a : Int) : Irdc (ipush a l) := by
  cases l with
  | nil => trivial
  | cons b t =>
    by_cases e : a = -b
    · rw [ipush_eq _ _ _ e]; exact h.tail
    · rw [ipush_ne e]; exact ⟨e, h⟩
theorem ird_rdc (l : List Int) : Irdc (ird l) := by
  induction l with
  | nil => trivial
  | cons a l ih => exact ih.push a
theorem ird_of {l : List Int} (h : Irdc l) : ird l = l := by
  induction l with
  | nil => rfl
  | cons a l ih =>
    rw [ird, ih h.tail]
    cases l with
    | nil => rfl
    | cons b t => rw [ipush_ne h.1]
theorem ipush_push {l : List Int} (h : Irdc l) (a b : Int) (hab : a = -b) : ipush a (ipush b l) = l := by
  cases l with
  | nil => show (if a = -b then _ else _) = _; rw [if_pos hab]
  | cons c t =>
    by_cases e : b = -c
    · rw [ipush_eq _ _ _ e]
      have hac : a = c := by omega
      subst hac
      cases t with
      | nil => rfl
      | cons d t => rw [ipush_ne h.1]
    · rw [ipush_ne e, ipush_eq _ _ _ hab]
theorem ird_app (u v : List Int) : ird (u ++ v) = ird (u ++ ird v) := by
  induction u with
  | nil => simp [ird_of (ird_rdc v)]
  | cons a u ih => simp only [List.cons_append, ird, ih]
theorem ird_cancel (u v : List Int) (a b : Int) (hab : a = -b) : ird (u ++ a :: b :: v) = ird (u ++ v) := by
  rw [ird_app u (a :: b :: v), ird_app u v]
  congr 2
  exact ipush_push (ird_rdc v) a b hab
/-- Equal in the free group. -/
def IE (u v : List Int) : Prop := ird u = ird v
theorem IE.refl (u) : IE u u := rfl
theorem IE.symm {u v} (h : IE u v) : IE v u := Eq.symm h
theorem IE.trans {u v w} (h : IE u v) (k : IE v w) : IE u w := Eq.trans h k
theorem IE.left {u v} (h : IE u v) (a : List Int) : IE (a ++ u) (a ++ v) := by unfold IE at *; rw [ird_app a u, ird_app a v, h]
theorem ird_rdapp (u v : List Int) : ird (ird u ++ v) = ird (u ++ v) := by
  induction u with
  | nil => rfl
  | cons a u ih =>
    simp only [ird, List.cons_append]
    rw [← ih]
    generalize ird u = w
    cases w with
    | nil => rfl
    | cons b t =>
      by_cases e : a = -b
      · rw [ipush_eq _ _ _ e]
        simp only [List.cons_append, ird]
        exact (ipush_push (ird_rdc _) a b e).symm
      · rw [ipush_ne e]; rfl
theorem IE.right {u v} (h : IE u v) (a : List Int) : IE (u ++ a) (v ++ a) := by unfold IE at *; rw [← ird_rdapp u a, ← ird_rdapp v a, h]
theorem IE.rd (u) : IE (ird u) u := ird_of (ird_rdc u)
theorem IE.app {u v u' v'} (h : IE u v) (k : IE u' v') : IE (u ++ u') (v ++ v') := (h.right u').trans (k.left v)
theorem IE.eq {u v : List Int} (h : IE u v) (hu : Irdc u) (hv : Irdc v) : u = v := by
  unfold IE at h
  rwa [ird_of hu, ird_of hv] at h
theorem ird_mem {l : List Int} : ∀ y ∈ ird l, y ∈ l := by
  induction l with
  | nil => exact fun y hy => hy
  | cons a l ih =>
    intro y hy
    rw [ird] at hy
    generalize ird l = w at hy ih
    cases w with
    | nil => rw [ipush, List.mem_singleton] at hy; subst hy; simp
    | cons b t =>
      by_cases e : a = -b
      · rw [ipush_eq _ _ _ e] at hy; exact List.mem_cons_of_mem _ (ih y (List.mem_cons_of_mem _ hy))
      · rw [ipush_ne e] at hy
        rcases List.mem_cons.1 hy with h | h
        · subst h; simp
        · exact List.mem_cons_of_mem _ (ih y h)
theorem ird_le (l : List Int) : (ird l).length ≤ l.length := by
  induction l with
  | nil => simp [ird]
  | cons a l ih =>
    rw [ird, List.length_cons]
    generalize ird l = w at ih
    cases w with
    | nil => simp [ipush]
    | cons b t =>
      by_cases e : a = -b
      · rw [ipush_eq _ _ _ e]; simp at ih; omega
      · rw [ipush_ne e]; simp at ih ⊢; omega
theorem IE.inv (u : List Int) : IE (neg u ++ u) [] := by
  induction u with
  | nil => exact .refl _
  | cons a u ih =>
    have e : neg (a :: u) ++ (a :: u) = neg u ++ (-a) :: a :: u := by simp [neg]
    rw [e]
    exact (ird_cancel (neg u) u (-a) a rfl : IE _ _).trans ih
theorem IE.inv' (u : List Int) : IE (u ++ neg u) [] := by
  have := IE.inv (neg u)
  rwa [neg_neg] at this
theorem IE.neg {u v : List Int} (h : IE u v) : IE (Gar.neg u) (Gar.neg v) := by
  have h1 : IE (Gar.neg u ++ u ++ Gar.neg v) (Gar.neg v) := (IE.inv u).right (Gar.neg v)
  have h2 : IE (Gar.neg u ++ (u ++ Gar.neg v)) (Gar.neg u ++ (v ++ Gar.neg v)) := (h.right _).left _
  have h3 : IE (Gar.neg u ++ (v ++ Gar.neg v)) (Gar.neg u ++ []) := (IE.inv' v).left _
  rw [List.append_nil] at h3
  rw [List.append_assoc] at h1
  exact (h3.symm.trans (h2.symm.trans h1))
/-! The images of the generators. -/
def gimg (x : Int) (k : Nat) : List Int :=
  if k = x.natAbs then (if 0 < x then [(k : Int), (k : Int) + 1, -(k : Int)] else [(k : Int) + 1])
  else if k = x.natAbs + 1 then (if 0 < x then [(k : Int) - 1] else [-(k : Int), (k : Int) - 1, (k : Int)]) else [(k : Int)]
def iimg (x y : Int) : List Int := if 0 < y then gimg x y.toNat else neg (gimg x (-y).toNat)
def isub (x : Int) (w : List Int) : List Int := w.flatMap (iimg x)
def iact : List Int → Nat → List Int
  | [], j => [(j : Int)]
  | x :: w, j => ird (isub x (iact w j))
def Lr (N : Nat) (y : Int) : Prop := y ≠ 0 ∧ -(N : Int) ≤ y ∧ y ≤ N
theorem gimg_lr {N : Nat} {x : Int} (hx : x ≠ 0 ∧ -(N : Int) < x ∧ x < N) {k : Nat} (h1 : 1 ≤ k) (h2 : k ≤ N) : ∀ y ∈ gimg x k, Lr N y := by
  intro y hy
  unfold gimg at hy
  unfold Lr
  split at hy
  · split at hy <;> simp at hy <;> omega
  · split at hy
    · split at hy <;> simp at hy <;> omega
    · simp at hy; omega
theorem iimg_lr {N : Nat} {x y : Int} (hx : x ≠ 0 ∧ -(N : Int) < x ∧ x < N) (hy : Lr N y) : ∀ z ∈ iimg x y, Lr N z := by
  intro z hz
  unfold Lr at hy
  unfold iimg at hz
  split at hz
  · exact gimg_lr hx (by omega) (by omega) z hz
  · unfold neg at hz
    rw [List.mem_reverse, List.mem_map] at hz
    obtain ⟨z', h1, rfl⟩ := hz
    have := gimg_lr hx (by omega) (by omega) z' h1
    unfold Lr at this ⊢
    omega
theorem isub_lr {N : Nat} {x : Int} (hx : x ≠ 0 ∧ -(N : Int) < x ∧ x < N) {w : List Int} (hw : ∀ y ∈ w, Lr N y) : ∀ z ∈ isub x w, Lr N z := by
  intro z hz
  unfold isub at hz
  rw [List.mem_flatMap] at hz
  obtain ⟨y, h1, h2⟩ := hz
  exact iimg_lr hx (hw y h1) z h2
theorem iact_lr {N : Nat} {w : List Int} (hw : Rg N w) {j : Nat} (h1 : 1 ≤ j) (h2 : j ≤ N) : ∀ y ∈ iact w j, Lr N y := by
  induction w with
  | nil => intro y hy; rw [iact, List.mem_singleton] at hy; subst hy; unfold Lr; omega
  | cons x w ih =>
    intro y hy
    exact isub_lr (hw x (by simp)) (ih fun z hz => hw z (by simp [hz])) y (ird_mem y hy)
theorem iact_rdc (w : List Int) (j : Nat) : Irdc (iact w j) := by
  cases w with
  | nil => trivial
  | cons x w => exact ird_rdc _
/-! Generators as pairs of gapw. -/
def gap (y : Int) : List Nat := if 0 < y then [y.toNat - 1, y.toNat] else [(-y).toNat, (-y).toNat - 1]
def gapw (w : List Int) : List Nat := w.flatMap gap
theorem gapw_cons (y : Int) (w : List Int) : gapw (y :: w) = gap y ++ gapw w := rfl
theorem gapw_app (u v : List Int) : gapw (u ++ v) = gapw u ++ gapw v := List.flatMap_append
theorem gap_cancel (y : Int) (v : List Nat) : GE (gap y ++ (gap (-y) ++ v)) v := by
  unfold gap
  by_cases h : 0 < y
  · rw [if_pos h, if_neg (by omega), Int.neg_neg]
    exact (GE.cancel [y.toNat - 1] ((y.toNat - 1) :: v) y.toNat).trans (GE.cancel [] v (y.toNat - 1))
  · rw [if_neg h]
    by_cases h0 : y = 0
    · subst h0
      exact (GE.cancel [] (0 :: 0 :: v) 0).trans (GE.cancel [] v 0)
    · rw [if_pos (by omega)]
      exact (GE.cancel [(-y).toNat] ((-y).toNat :: v) ((-y).toNat - 1)).trans (GE.cancel [] v _)
theorem gapw_push (a : Int) (l : List Int) : GE (gapw (ipush a l)) (gap a ++ gapw l) := by
  cases l with
  | nil => exact .refl _
  | cons b t =>
    by_cases e : a = -b
    · rw [ipush_eq _ _ _ e, gapw_cons]
      have := gap_cancel a (gapw t)
      rw [show -a = b by omega] at this
      exact this.symm
    · rw [ipush_ne e]; exact .refl _
theorem gapw_ird (w : List Int) : GE (gapw (ird w)) (gapw w) := by
  induction w with
  | nil => exact .refl _
  | cons a w ih => exact (gapw_push a _).trans (ih.left _)
/-! Paths that are turned round. -/
theorem GE.rev {u v : List Nat} (h : GE u v) : GE u.reverse v.reverse := by
  have key : ∀ u : List Nat, GE u.reverse (Gar.rd u).reverse := by
    intro u
    induction u with
    | nil => exact .refl _
    | cons a u ih =>
      rw [List.reverse_cons]
      refine (ih.right [a]).trans ?_
      show GE _ (pushG a (Gar.rd u)).reverse
      generalize Gar.rd u = w
      cases w with
      | nil => exact .refl _
      | cons b t =>
        by_cases e : a = b
        · subst e
          rw [pushG_eq, List.reverse_cons, List.append_assoc]
          have := GE.cancel t.reverse [] a
          rw [List.append_nil] at this
          exact this
        · rw [pushG_ne e, List.reverse_cons (a := a)]; exact .refl _
  have h' : Gar.rd u = Gar.rd v := h
  have k := key u
  rw [h'] at k
  exact k.trans (key v).symm
theorem GE.lcan {a u v : List Nat} (h : GE (a ++ u) (a ++ v)) : GE u v := by
  have key : ∀ a w : List Nat, GE (a.reverse ++ (a ++ w)) w := by
    intro a
    induction a with
    | nil => exact fun w => .refl _
    | cons c a ih =>
      intro w
      have e : (c :: a).reverse ++ (c :: a ++ w) = a.reverse ++ c :: c :: (a ++ w) := by simp
      rw [e]
      exact (GE.cancel _ _ _).trans (ih w)
  exact (key a u).symm.trans ((h.left a.reverse).trans (key a v))
theorem img_rev (x : Int) (e : Bool) (h : Nat) : (img x e h).reverse = img x (!e) h := by
  unfold img
  split
  · cases e <;> cases decide (0 < x) <;> rfl
  · rfl
theorem par_par (e : Bool) (n : Nat) : par (par (!e) n) n = !e := by
  unfold par
  by_cases h : n % 2 = 0
  · rw [if_pos h, if_pos h]
  · rw [if_neg h, if_neg h, Bool.not_not]
theorem sub_rev (x : Int) (e : Bool) (u : List Nat) : (sub x e u).reverse = sub x (par e u.length) u.reverse := by
  induction u generalizing e with
  | nil => rfl
  | cons a t ih =>
    rw [sub, List.reverse_append, ih, img_rev, List.reverse_cons, sub_app, List.length_cons, par_succ, List.length_reverse, par_par]
    simp [sub]
theorem sube_rev (w : List Int) (e : Bool) (u : List Nat) : (sube w e u).reverse = sube w (par e u.length) u.reverse := by
  induction w with
  | nil => rfl
  | cons x w ih => rw [sube, sub_rev, ih, par_eq (sube_len w e u)]; rfl
theorem gap_neg {y : Int} (h : y ≠ 0) : gap (-y) = (gap y).reverse := by
  unfold gap
  by_cases h1 : 0 < y
  · rw [if_pos h1, if_neg (by omega), Int.neg_neg]; rfl
  · rw [if_neg h1, if_pos (by omega)]; rfl
theorem gapw_neg {w : List Int} (h : ∀ y ∈ w, y ≠ 0) : gapw (neg w) = (gapw w).reverse := by
  induction w with
  | nil => rfl
  | cons y w ih =>
    have e : neg (y :: w) = neg w ++ [-y] := by simp [neg]
    rw [e, gapw_app, ih fun z hz => h z (by simp [hz]), gapw_cons y w, List.reverse_append, ← gap_neg (h y (by simp))]
    congr 1
    show gap (-y) ++ [] = _
    rw [List.append_nil]
/-- A letter does to generators what it does to gapw. -/
theorem gimg_gapw {x : Int} (hx : x ≠ 0) {k : Nat} (hk : 1 ≤ k) : GE (gapw (gimg x k)) (sub x true (gap (k : Int))) := by
  have eg : ∀ j : Nat, 1 ≤ j → gap (j : Int) = [j - 1, j] := fun j hj => by unfold gap; rw [if_pos (by omega), Int.toNat_natCast]
  have en : ∀ j : Nat, 1 ≤ j → gap (-(j : Int)) = [j, j - 1] := fun j hj => by unfold gap; rw [if_neg (by omega), Int.neg_neg, Int.toNat_natCast]
  rw [eg k hk]
  simp only [sub, List.append_nil, Bool.not_true]
  unfold gimg
  by_cases h1 : k = x.natAbs
  · rw [if_pos h1]
    by_cases h2 : 0 < x
    · obtain rfl : x = (k : Int) := by omega
      rw [if_pos h2, img_po (show k - 1 ≠ k by omega), img_p hk]
      have e : gapw [(k : Int), (k : Int) + 1, -(k : Int)] = [k - 1, k, k, k + 1, k, k - 1] := by
        rw [gapw_cons, gapw_cons, gapw_cons, eg k hk, show (k : Int) + 1 = ((k + 1 : Nat) : Int) by omega, eg (k + 1) (by omega), en k hk]; rfl
      rw [e]
      exact GE.cancel [k - 1] [k + 1, k, k - 1] k
    · obtain rfl : x = -(k : Int) := by omega
      rw [if_neg h2, img_o (show k - 1 ≠ (-(k : Int)).natAbs by omega)]
      have e1 : img (-(k : Int)) false k = [k - 1, k, k + 1] := by
        unfold img; rw [if_pos (by omega), decide_eq_false (by omega)]; rfl
      have e : gapw [(k : Int) + 1] = [k, k + 1] := by
        rw [gapw_cons, show (k : Int) + 1 = ((k + 1 : Nat) : Int) by omega, eg (k + 1) (by omega)]; rfl
      rw [e1, e]
      exact (GE.cancel [] [k, k + 1] (k - 1)).symm
  · rw [if_neg h1]
    by_cases h2 : k = x.natAbs + 1
    · rw [if_pos h2]
      obtain ⟨i, rfl⟩ : ∃ i, k = i + 1 := ⟨k - 1, by omega⟩
      have hi : 1 ≤ i := by omega
      rw [Nat.add_sub_cancel, show ((i + 1 : Nat) : Int) - 1 = (i : Int) by omega]
      by_cases h3 : 0 < x
      · obtain rfl : x = (i : Int) := by omega
        rw [if_pos h3, img_p hi, img_po (show i + 1 ≠ i by omega)]
        have e : gapw [(i : Int)] = [i - 1, i] := by rw [gapw_cons, eg i hi]; rfl
        rw [e]
        exact (GE.cancel [i - 1, i] [] (i + 1)).symm
      · obtain rfl : x = -(i : Int) := by omega
        rw [if_neg h3, img_o (show i + 1 ≠ (-(i : Int)).natAbs by omega)]
        have e1 : img (-(i : Int)) true i = [i + 1, i, i - 1] := by
          unfold img; rw [if_pos (by omega), decide_eq_false (by omega)]; rfl
        have e : gapw [-((i + 1 : Nat) : Int), (i : Int), ((i + 1 : Nat) : Int)] = [i + 1, i, i - 1, i, i, i + 1] := by
          rw [gapw_cons, gapw_cons, gapw_cons, en (i + 1) (by omega), eg i hi, eg (i + 1) (by omega)]; rfl
        rw [e1, e]
        exact GE.cancel [i + 1, i, i - 1] [i + 1] i
    · rw [if_neg h2, img_o (show k - 1 ≠ x.natAbs by omega), img_o (show k ≠ x.natAbs from h1)]
      have e : gapw [(k : Int)] = [k - 1, k] := by rw [gapw_cons, eg k hk]; rfl
      rw [e]; exact .refl _
theorem gimg_nz {x : Int} (hx : x ≠ 0) {k : Nat} (hk : 1 ≤ k) : ∀ y ∈ gimg x k, y ≠ 0 := by
  intro y hy
  unfold gimg at hy
  split at hy
  · split at hy <;> simp at hy <;> omega
  · split at hy
    · split at hy <;> simp at hy <;> omega
    · simp at hy; omega
theorem gap_len (y : Int) : (gap y).length = 2 := by unfold gap; split <;> rfl
theorem iimg_gapw {x y : Int} (hx : x ≠ 0) (hy : y ≠ 0) : GE (gapw (iimg x y)) (sub x true (gap y)) := by
  unfold iimg
  by_cases h : 0 < y
  · rw [if_pos h]
    have := gimg_gapw hx (k := y.toNat) (by omega)
    rwa [show ((y.toNat : Nat) : Int) = y by omega] at this
  · rw [if_neg h, gapw_neg (gimg_nz hx (by omega))]
    have := (gimg_gapw hx (k := (-y).toNat) (by omega)).rev
    rw [show (((-y).toNat : Nat) : Int) = -y by omega, sub_rev, gap_len, ← gap_neg (by omega), Int.neg_neg] at this
    exact this
theorem isub_gapw {x : Int} (hx : x ≠ 0) {w : List Int} (hw : ∀ y ∈ w, y ≠ 0) : GE (gapw (isub x w)) (sub x true (gapw w)) := by
  induction w with
  | nil => exact .refl _
  | cons y w ih =>
    have e : isub x (y :: w) = iimg x y ++ isub x w := rfl
    rw [e, gapw_app, gapw_cons, sub_app, gap_len]
    exact (iimg_gapw hx (hw y (by simp))).app (ih fun z hz => hw z (by simp [hz]))
theorem iact_gapw {N : Nat} {w : List Int} (hw : Rg N w) {j : Nat} (h1 : 1 ≤ j) (h2 : j ≤ N) : GE (gapw (iact w j)) (subs w [j - 1, j]) := by
  induction w with
  | nil =>
    show GE (gap (j : Int) ++ []) [j - 1, j]
    unfold gap
    rw [if_pos (by omega), Int.toNat_natCast]; exact .refl _
  | cons x w ih =>
    have hw' : Rg N w := fun z hz => hw z (by simp [hz])
    refine (gapw_ird _).trans ((isub_gapw (hw x (by simp)).1 fun y hy => (iact_lr hw' h1 h2 y hy).1).trans ?_)
    exact sub_ge x true (ih hw')
/-! Back from gapw to generators. -/
def xs : Nat → List Int
  | 0 => []
  | h + 1 => xs h ++ [((h + 1 : Nat) : Int)]
def kap : Bool → List Nat → List Int
  | _, [] => []
  | e, h :: t => (if e = true then neg (xs h) else xs h) ++ kap (!e) t
theorem kap_rd (e : Bool) (u : List Nat) : IE (kap e (rd u)) (kap e u) := by
  induction u generalizing e with
  | nil => exact .refl _
  | cons a u ih =>
    have h := (ih (!e)).left (if e = true then neg (xs a) else xs a)
    refine IE.trans ?_ h
    show IE (kap e (pushG a (rd u))) _
    generalize rd u = w
    cases w with
    | nil => exact .refl _
    | cons b t =>
      by_cases c : a = b
      · subst c
        rw [pushG_eq]
        simp only [kap]
        rw [← List.append_assoc, Bool.not_not]
        have : IE ((if e = true then neg (xs a) else xs a) ++ if (!e) = true then neg (xs a) else xs a) [] := by
          cases e
          · exact IE.inv' _
          · exact IE.inv _
        exact (this.right (kap e t)).symm
      · rw [pushG_ne c]; exact .refl _
theorem kap_ge (e : Bool) {u v : List Nat} (h : GE u v) : IE (kap e u) (kap e v) := by
  have h' : rd u = rd v := h
  have k := kap_rd e u
  rw [h'] at k
  exact k.symm.trans (kap_rd e v)
theorem kap_gap {y : Int} (hy : y ≠ 0) (v : List Nat) : IE (kap true (gap y ++ v)) (y :: kap true v) := by
  unfold gap
  by_cases h : 0 < y
  · rw [if_pos h]
    obtain ⟨k, rfl⟩ : ∃ k : Nat, y = ((k + 1 : Nat) : Int) := ⟨y.toNat - 1, by omega⟩
    rw [Int.toNat_natCast, Nat.add_sub_cancel]
    show IE (neg (xs k) ++ (xs k ++ [((k + 1 : Nat) : Int)] ++ kap true v)) _
    rw [List.append_assoc, ← List.append_assoc]
    exact (IE.inv (xs k)).right _
  · rw [if_neg h]
    obtain ⟨k, rfl⟩ : ∃ k : Nat, y = -((k + 1 : Nat) : Int) := ⟨(-y).toNat - 1, by omega⟩
    rw [Int.neg_neg, Int.toNat_natCast, Nat.add_sub_cancel]
    show IE (neg (xs k ++ [((k + 1 : Nat) : Int)]) ++ (xs k ++ kap true v)) _
    rw [neg_app, List.append_assoc, ← List.append_assoc (neg (xs k))]
    exact ((IE.inv (xs k)).right (kap true v)).left [-((k + 1 : Nat) : Int)]
theorem kap_gapw {w : List Int} (hw : ∀ y ∈ w, y ≠ 0) : IE (kap true (gapw w)) w := by
  induction w with
  | nil => exact .refl _
  | cons y w ih => exact (kap_gap (hw y (by simp)) _).trans ((ih fun z hz => hw z (by simp [hz])).left [y])
theorem gapw_inj {u v : List Int} (hu : ∀ y ∈ u, y ≠ 0) (hv : ∀ y ∈ v, y ≠ 0) (ru : Irdc u) (rv : Irdc v) (h : GE (gapw u) (gapw v)) : u = v :=
  ((kap_gapw hu).symm.trans ((kap_ge true h).trans (kap_gapw hv))).eq ru rv
section
variable {N : Nat}
theorem iact_iff {w w' : List Int} (hw : Rg N w) (hw' : Rg N w') {j : Nat} (h1 : 1 ≤ j) (h2 : j ≤ N) : iact w j = iact w' j ↔ GE (subs w [j - 1, j]) (subs w' [j - 1, j]) := by
  have a := iact_gapw hw h1 h2
  have b := iact_gapw hw' h1 h2
  refine ⟨fun h => ?_, fun h => ?_⟩
  · rw [h] at a; exact a.symm.trans b
  · exact gapw_inj (fun y hy => (iact_lr hw h1 h2 y hy).1) (fun y hy => (iact_lr hw' h1 h2 y hy).1) (iact_rdc _ _) (iact_rdc _ _) (a.trans (h.trans b.symm))
/-- Words that are equal as braids do the same to all paths. -/
theorem BE.subs {u v : List Int} (h : BE N u v) (g : List Nat) : GE (Gar.subs u g) (Gar.subs v g) := by
  induction h with
  | refl w => exact .refl _
  | symm _ ih => exact ih.symm
  | trans _ _ h1 h2 => exact h1.trans h2
  | @far a b i k h1 h2 h3 h4 h5 => exact subs_mid (w := [(i : Int), (k : Int)]) (w' := [(k : Int), (i : Int)]) (fun e j => far_ge h1 h3 h5 e j) a b g
  | @braid a b i h1 h2 => exact subs_mid (w := [(i : Int), ((i + 1 : Nat) : Int), (i : Int)]) (w' := [((i + 1 : Nat) : Int), (i : Int), ((i + 1 : Nat) : Int)]) (fun e j => braid_ge h1 e j) a b g
  | @pn a b i h1 h2 =>
    refine subs_mid (w := [(i : Int), -(i : Int)]) (w' := []) (fun e j => ?_) a b g
    have := sub_inv (x := -(i : Int)) (by omega) e [j]
    rw [Int.neg_neg] at this
    exact this
  | @np a b i h1 h2 => exact subs_mid (w := [-(i : Int), (i : Int)]) (w' := []) (fun e j => sub_inv (x := (i : Int)) (by omega) e [j]) a b g
theorem BE.iact {w w' : List Int} (hw : Rg N w) (hw' : Rg N w') (h : BE N w w') {j : Nat} (h1 : 1 ≤ j) (h2 : j ≤ N) : Gar.iact w j = Gar.iact w' j :=
  (iact_iff hw hw' h1 h2).2 (h.subs _)
theorem sube_fix {w : List Int} (hw : Rg N w) {k : Nat} (hk : k = 0 ∨ N ≤ k) (e : Bool) : sube w e [k] = [k] := by
  induction w with
  | nil => rfl
  | cons x w ih =>
    have := hw x (by simp)
    rw [sube, ih fun z hz => hw z (by simp [hz])]
    simp only [sub, List.append_nil]
    exact img_o (by omega)
/-- Words that act alike on the generators act alike on all gapw. -/
theorem act_of_iact {w w' : List Int} (hw : Rg N w) (hw' : Rg N w') (h : ∀ j, 1 ≤ j → j ≤ N → Gar.iact w j = Gar.iact w' j) (k : Nat) : Gar.act w k = Gar.act w' k := by
  have key : ∀ k, k ≤ N → GE (sube w true [k]) (sube w' true [k]) := by
    intro k
    induction k with
    | zero => intro _; rw [sube_fix hw (.inl rfl), sube_fix hw' (.inl rfl)]; exact .refl _
    | succ k ih =>
      intro hk
      have h1 := (iact_iff hw hw' (j := k + 1) (by omega) hk).1 (h (k + 1) (by omega) hk)
      rw [Nat.add_sub_cancel, ← sube_true, ← sube_true] at h1
      have e1 := sube_app w true [k] [k + 1]
      have e2 := sube_app w' true [k] [k + 1]
      simp only [List.singleton_append, List.length_singleton] at e1 e2
      rw [e1, e2] at h1
      have h2 := (ih (by omega)).symm.right (sube w' (par true 1) [k + 1])
      have h3 : GE (sube w true [k] ++ sube w (par true 1) [k + 1]) (sube w true [k] ++ sube w' (par true 1) [k + 1]) := h1.trans h2
      have h4 := h3.lcan.rev
      rw [sube_rev, sube_rev] at h4
      exact h4
  refine act_eq ?_
  rw [← sube_true, ← sube_true]
  by_cases hk : k ≤ N
  · exact key k hk
  · rw [sube_fix hw (.inr (by omega)), sube_fix hw' (.inr (by omega))]; exact .refl _
end
end Gar
end Go.Proofs.Ytkjpldmelafooaa
