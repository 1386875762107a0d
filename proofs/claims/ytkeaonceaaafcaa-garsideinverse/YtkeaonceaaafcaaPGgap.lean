/- Paths through the gaps between the punctures: how a generator turns them. -/
import Derived.Test.YtkeaonceaaafcaaPGb
set_option linter.unusedVariables false
set_option linter.unusedSimpArgs false
namespace Go.Proofs.Ytkeaonceaaafcaa
namespace Gar
/-! Words of gaps, up to neighbours that cancel. -/
def pushG (a : Nat) : List Nat → List Nat
  | [] => [a]
  | b :: t => if a = b then t else a :: b :: t
theorem pushG_cons (a b : Nat) (t : List Nat) : pushG a (b :: t) = if a = b then t else a :: b :: t := rfl
theorem pushG_eq (a : Nat) (t : List Nat) : pushG a (a :: t) = t := if_pos rfl
theorem pushG_ne {a b : Nat} (h : a ≠ b) (t : List Nat) : pushG a (b :: t) = a :: b :: t := if_neg h
def rd : List Nat → List Nat
  | [] => []
  | a :: l => pushG a (rd l)
/-- No two neighbours are equal. -/
def Rdc : List Nat → Prop
  | [] => True
  | [_] => True
  | a :: b :: t => a ≠ b ∧ Rdc (b :: t)
theorem Rdc.tail {a : Nat} {l : List Nat} (h : Rdc (a :: l)) : Rdc l := by
  cases l with
  | nil => trivial
  | cons b t => exact h.2
theorem Rdc.push {l : List Nat} (h : Rdc l) (a : Nat) : Rdc (pushG a l) := by
  cases l with
  | nil => trivial
  | cons b t =>
    by_cases e : a = b
    · subst e; rw [pushG_eq]; exact h.tail
    · rw [pushG_ne e]; exact ⟨e, h⟩
theorem rd_rdc (l : List Nat) : Rdc (rd l) := by
  induction l with
  | nil => trivial
  | cons a l ih => exact ih.push a
theorem rd_of {l : List Nat} (h : Rdc l) : rd l = l := by
  induction l with
  | nil => rfl
  | cons a l ih =>
    rw [rd, ih h.tail]
    cases l with
    | nil => rfl
    | cons b t => rw [pushG_ne h.1]
theorem push_push {l : List Nat} (h : Rdc l) (a : Nat) : pushG a (pushG a l) = l := by
  cases l with
  | nil => simp [pushG]
  | cons b t =>
    by_cases e : a = b
    · subst e
      rw [pushG_eq]
      cases t with
      | nil => rfl
      | cons c t => rw [pushG_ne h.1]
    · rw [pushG_ne e, pushG_eq]
theorem rd_app (u v : List Nat) : rd (u ++ v) = rd (u ++ rd v) := by
  induction u with
  | nil => simp [rd_of (rd_rdc v)]
  | cons a u ih => simp only [List.cons_append, rd, ih]
theorem rd_cancel (u v : List Nat) (a : Nat) : rd (u ++ a :: a :: v) = rd (u ++ v) := by
  rw [rd_app u (a :: a :: v), rd_app u v]
  congr 2
  exact push_push (rd_rdc v) a
/-- Equal as paths. -/
def GE (u v : List Nat) : Prop := rd u = rd v
theorem GE.refl (u) : GE u u := rfl
theorem GE.symm {u v} (h : GE u v) : GE v u := Eq.symm h
theorem GE.trans {u v w} (h : GE u v) (k : GE v w) : GE u w := Eq.trans h k
theorem GE.left {u v} (h : GE u v) (a : List Nat) : GE (a ++ u) (a ++ v) := by unfold GE at *; rw [rd_app a u, rd_app a v, h]
theorem rd_rdapp (u v : List Nat) : rd (rd u ++ v) = rd (u ++ v) := by
  induction u with
  | nil => rfl
  | cons a u ih =>
    simp only [rd, List.cons_append]
    rw [← ih]
    have hu := rd_rdc u
    generalize rd u = w at hu
    cases w with
    | nil => rfl
    | cons b t =>
      by_cases e : a = b
      · subst e
        rw [pushG_eq]
        simp only [List.cons_append, rd]
        exact (push_push (rd_rdc _) a).symm
      · rw [pushG_ne e]; rfl
theorem GE.right {u v} (h : GE u v) (a : List Nat) : GE (u ++ a) (v ++ a) := by unfold GE at *; rw [← rd_rdapp u a, ← rd_rdapp v a, h]
theorem GE.rd (u) : GE (rd u) u := rd_of (rd_rdc u)
theorem GE.cancel (u v : List Nat) (a : Nat) : GE (u ++ a :: a :: v) (u ++ v) := rd_cancel u v a
theorem GE.app {u v u' v'} (h : GE u v) (k : GE u' v') : GE (u ++ u') (v ++ v') := (h.right u').trans (k.left v)

/-! How letters turn gaps; e tells whether the gap is crossed downwards. -/
def img (x : Int) (e : Bool) (h : Nat) : List Nat :=
  if h = x.natAbs then (if (decide (0 < x) == e) = true then [h - 1, h, h + 1] else [h + 1, h, h - 1]) else [h]
def sub (x : Int) : Bool → List Nat → List Nat
  | _, [] => []
  | e, h :: t => img x e h ++ sub x (!e) t
def par (e : Bool) (n : Nat) : Bool := if n % 2 = 0 then e else !e
theorem par_succ (e : Bool) (n : Nat) : par e (n + 1) = par (!e) n := by
  unfold par
  by_cases h : n % 2 = 0
  · rw [if_pos h, if_neg (by omega)]
  · rw [if_neg h, if_pos (by omega), Bool.not_not]
theorem sub_app (x : Int) (e : Bool) (u v : List Nat) : sub x e (u ++ v) = sub x e u ++ sub x (par e u.length) v := by
  induction u generalizing e with
  | nil => simp [sub, par]
  | cons h t ih => simp only [List.cons_append, sub, ih, List.length_cons, par_succ, List.append_assoc]
theorem img_len (x : Int) (e : Bool) (h : Nat) : (img x e h).length % 2 = 1 := by
  unfold img; split
  · split <;> simp
  · simp
theorem sub_len (x : Int) (e : Bool) (u : List Nat) : (sub x e u).length % 2 = u.length % 2 := by
  induction u generalizing e with
  | nil => rfl
  | cons h t ih => simp only [sub, List.length_append, List.length_cons]; have := ih (!e); have := img_len x e h; omega
theorem par_eq {e : Bool} {m n : Nat} (h : m % 2 = n % 2) : par e m = par e n := by unfold par; rw [h]
theorem img_cancel (x : Int) (e : Bool) (h : Nat) (v : List Nat) : GE (img x e h ++ (img x (!e) h ++ v)) v := by
  unfold img
  by_cases hx : h = x.natAbs
  · simp only [hx, if_true]
    generalize decide (0 < x) = d
    generalize x.natAbs = i
    have key : ∀ a b c : Nat, GE ([a, b, c] ++ ([c, b, a] ++ v)) v := fun a b c => by
      have h1 := GE.cancel [a, b] ([b, a] ++ v) c
      have h2 := GE.cancel [a] ([a] ++ v) b
      have h3 := GE.cancel [] v a
      exact h1.trans (h2.trans h3)
    cases d <;> cases e <;> exact key _ _ _
  · simp only [hx, if_false]
    exact GE.cancel [] v h
theorem sub_cancel (x : Int) (e : Bool) (u v : List Nat) (a : Nat) : GE (sub x e (u ++ a :: a :: v)) (sub x e (u ++ v)) := by
  rw [sub_app, sub_app]
  refine GE.left ?_ _
  simp only [sub, Bool.not_not]
  exact img_cancel x _ a _
theorem sub_push (x : Int) (e : Bool) (a : Nat) (l : List Nat) : GE (sub x e (pushG a l)) (sub x e (a :: l)) := by
  cases l with
  | nil => exact .refl _
  | cons b t =>
    by_cases h : a = b
    · subst h; rw [pushG_eq]; exact (sub_cancel x e [] t a).symm
    · rw [pushG_ne h]; exact .refl _
theorem sub_rd (x : Int) (e : Bool) (u : List Nat) : GE (sub x e (rd u)) (sub x e u) := by
  induction u generalizing e with
  | nil => exact .refl _
  | cons a u ih =>
    rw [rd]
    refine (sub_push x e a (rd u)).trans ?_
    simp only [sub]
    exact (ih (!e)).left _
theorem rd_len (u : List Nat) : (rd u).length % 2 = u.length % 2 := by
  induction u with
  | nil => rfl
  | cons a u ih =>
    rw [rd, List.length_cons]
    generalize rd u = w at ih
    cases w with
    | nil => simp [pushG] at ih ⊢; omega
    | cons b t => rw [pushG_cons]; split <;> simp at ih ⊢ <;> omega
theorem GE.len {u v : List Nat} (h : GE u v) : u.length % 2 = v.length % 2 := by
  have h1 := rd_len u; have h2 := rd_len v
  unfold GE at h; rw [h] at h1; omega
theorem sub_ge (x : Int) (e : Bool) {u v : List Nat} (h : GE u v) : GE (sub x e u) (sub x e v) := by
  have h1 := sub_rd x e u; have h2 := sub_rd x e v
  unfold GE at h; rw [h] at h1
  exact h1.symm.trans h2
/-- The inverse letter. -/
theorem sub_inv {x : Int} (hx : x ≠ 0) (e : Bool) (u : List Nat) : GE (sub (-x) e (sub x e u)) u := by
  induction u generalizing e with
  | nil => exact .refl _
  | cons h t ih =>
    simp only [sub]
    rw [sub_app]
    have hl := img_len x e h
    have hp : par e (img x e h).length = !e := by unfold par; rw [if_neg (by omega)]
    rw [hp]
    show GE _ ([h] ++ t)
    refine GE.app ?_ (ih (!e))
    by_cases hh : h = x.natAbs
    · have h1 : 1 ≤ x.natAbs := by omega
      subst hh
      have n1 : ∀ k, k ≠ x.natAbs → ∀ e', img (-x) e' k = [k] := fun k hk e' => by unfold img; rw [if_neg (by rw [Int.natAbs_neg]; exact hk)]
      have m1 := n1 (x.natAbs - 1) (by omega)
      have m2 := n1 (x.natAbs + 1) (by omega)
      have key : ∀ a b c : Nat, GE (a :: a :: b :: c :: c :: []) [b] := fun a b c => (GE.cancel [] [b, c, c] a).trans (GE.cancel [b] [] c)
      have two : ∀ d : Bool, decide (0 < x) = d → decide (0 < -x) = !d → GE (sub (-x) e (img x e x.natAbs)) [x.natAbs] := fun d d1 d2 => by
        have p1 : ∀ e', img x e' x.natAbs = if (d == e') = true then [x.natAbs - 1, x.natAbs, x.natAbs + 1] else [x.natAbs + 1, x.natAbs, x.natAbs - 1] := fun e' => by
          unfold img; rw [if_pos rfl, d1]
        have p2 : ∀ e', img (-x) e' x.natAbs = if ((!d) == e') = true then [x.natAbs - 1, x.natAbs, x.natAbs + 1] else [x.natAbs + 1, x.natAbs, x.natAbs - 1] := fun e' => by
          unfold img; rw [Int.natAbs_neg, if_pos rfl, d2]
        cases d <;> cases e
        · have a1 : img x false x.natAbs = [x.natAbs - 1, x.natAbs, x.natAbs + 1] := p1 false
          have a2 : img (-x) true x.natAbs = [x.natAbs - 1, x.natAbs, x.natAbs + 1] := p2 true
          rw [a1]; simp only [sub, m1, m2, a2, Bool.not_false, Bool.not_true, List.cons_append, List.nil_append]; exact key _ _ _
        · have a1 : img x true x.natAbs = [x.natAbs + 1, x.natAbs, x.natAbs - 1] := p1 true
          have a2 : img (-x) false x.natAbs = [x.natAbs + 1, x.natAbs, x.natAbs - 1] := p2 false
          rw [a1]; simp only [sub, m1, m2, a2, Bool.not_false, Bool.not_true, List.cons_append, List.nil_append]; exact key _ _ _
        · have a1 : img x false x.natAbs = [x.natAbs + 1, x.natAbs, x.natAbs - 1] := p1 false
          have a2 : img (-x) true x.natAbs = [x.natAbs + 1, x.natAbs, x.natAbs - 1] := p2 true
          rw [a1]; simp only [sub, m1, m2, a2, Bool.not_false, Bool.not_true, List.cons_append, List.nil_append]; exact key _ _ _
        · have a1 : img x true x.natAbs = [x.natAbs - 1, x.natAbs, x.natAbs + 1] := p1 true
          have a2 : img (-x) false x.natAbs = [x.natAbs - 1, x.natAbs, x.natAbs + 1] := p2 false
          rw [a1]; simp only [sub, m1, m2, a2, Bool.not_false, Bool.not_true, List.cons_append, List.nil_append]; exact key _ _ _
      rcases Int.lt_or_gt_of_ne hx with hneg | hpos
      · exact two false (decide_eq_false (by omega)) (decide_eq_true (by omega))
      · exact two true (decide_eq_true (by omega)) (decide_eq_false (by omega))
    · have e1 : img x e h = [h] := if_neg hh
      have e2 : img (-x) e h = [h] := by unfold img; rw [if_neg (by rw [Int.natAbs_neg]; exact hh)]
      rw [e1]; simp only [sub, e2]; exact .refl _
/-- The paths that the gaps become: the first letter is substituted last. -/
def act : List Int → Nat → List Nat
  | [], j => [j]
  | x :: w, j => rd (sub x true (act w j))
/-- The letters of a word, substituted into a path. -/
def subs : List Int → List Nat → List Nat
  | [], u => u
  | x :: w, u => sub x true (subs w u)
theorem subs_ge (w : List Int) {u v : List Nat} (h : GE u v) : GE (subs w u) (subs w v) := by
  induction w with
  | nil => exact h
  | cons x w ih => exact sub_ge x true ih
theorem act_ge (w : List Int) (j : Nat) : GE (act w j) (subs w [j]) := by
  induction w with
  | nil => exact .refl _
  | cons x w ih => exact (GE.rd _).trans (sub_ge x true ih)
theorem act_rdc (w : List Int) (j : Nat) : Rdc (act w j) := by
  cases w with
  | nil => trivial
  | cons x w => exact rd_rdc _
theorem act_eq {w w' : List Int} {j : Nat} (h : GE (subs w [j]) (subs w' [j])) : act w j = act w' j := by
  have := (act_ge w j).trans (h.trans (act_ge w' j).symm)
  unfold GE at this
  rwa [rd_of (act_rdc w j), rd_of (act_rdc w' j)] at this
theorem subs_app (u v : List Int) (g : List Nat) : subs (u ++ v) g = subs u (subs v g) := by
  induction u with
  | nil => rfl
  | cons x u ih => simp only [List.cons_append, subs, ih]
theorem subs_len (w : List Int) (u : List Nat) : (subs w u).length % 2 = u.length % 2 := by
  induction w with
  | nil => rfl
  | cons x w ih => rw [subs, sub_len, ih]
/-- Two words of letters that do the same to single gaps do the same to all paths. -/
def sube : List Int → Bool → List Nat → List Nat
  | [], _, u => u
  | x :: w, e, u => sub x e (sube w e u)
theorem sube_true (w : List Int) (u : List Nat) : sube w true u = subs w u := by
  induction w with
  | nil => rfl
  | cons x w ih => simp only [sube, subs, ih]
theorem sube_len (w : List Int) (e : Bool) (u : List Nat) : (sube w e u).length % 2 = u.length % 2 := by
  induction w with
  | nil => rfl
  | cons x w ih => rw [sube, sub_len, ih]
theorem sube_app (w : List Int) (e : Bool) (u v : List Nat) : sube w e (u ++ v) = sube w e u ++ sube w (par e u.length) v := by
  induction w with
  | nil => rfl
  | cons x w ih => simp only [sube, ih, sub_app]; rw [par_eq (sube_len w e u)]
theorem sube_ext {w w' : List Int} (h : ∀ e j, GE (sube w e [j]) (sube w' e [j])) (e : Bool) (u : List Nat) : GE (sube w e u) (sube w' e u) := by
  induction u generalizing e with
  | nil =>
    have : ∀ w : List Int, sube w e [] = [] := fun w => by
      induction w with
      | nil => rfl
      | cons x w ih => rw [sube, ih]; rfl
    rw [this, this]; exact .refl _
  | cons a u ih =>
    have e1 := sube_app w e [a] u
    have e2 := sube_app w' e [a] u
    simp only [List.singleton_append, List.length_singleton] at e1 e2
    rw [e1, e2]
    exact GE.app (h e a) (ih _)
theorem img_o {x : Int} {e : Bool} {h : Nat} (hh : h ≠ x.natAbs) : img x e h = [h] := if_neg hh
theorem img_p {i : Nat} (hi : 1 ≤ i) (e : Bool) : img (i : Int) e i = if e = true then [i - 1, i, i + 1] else [i + 1, i, i - 1] := by
  unfold img
  rw [if_pos (by omega), decide_eq_true (by omega : (0 : Int) < i)]
  cases e <;> rfl
theorem img_po {i h : Nat} (hh : h ≠ i) (e : Bool) : img (i : Int) e h = [h] := img_o (by omega)
theorem far_ge {i j : Nat} (h1 : 1 ≤ i) (h2 : 1 ≤ j) (h : i + 1 < j) (e : Bool) (k : Nat) : GE (sube [(i : Int), (j : Int)] e [k]) (sube [(j : Int), (i : Int)] e [k]) := by
  simp only [sube, sub, List.append_nil]
  by_cases e1 : k = i
  · subst e1
    rw [img_po (show k ≠ j by omega), img_p h1]
    cases e
    · simp only [Bool.false_eq_true, if_false, sub, List.append_nil, img_p h1, img_po (show k + 1 ≠ j by omega), img_po (show k ≠ j by omega), img_po (show k - 1 ≠ j by omega)]; exact .refl _
    · simp only [if_true, sub, List.append_nil, img_p h1, img_po (show k + 1 ≠ j by omega), img_po (show k ≠ j by omega), img_po (show k - 1 ≠ j by omega)]; exact .refl _
  by_cases e2 : k = j
  · subst e2
    rw [img_po (show k ≠ i by omega), img_p h2]
    cases e
    · simp only [Bool.false_eq_true, if_false, sub, List.append_nil, img_p h2, img_po (show k + 1 ≠ i by omega), img_po (show k ≠ i by omega), img_po (show k - 1 ≠ i by omega)]; exact .refl _
    · simp only [if_true, sub, List.append_nil, img_p h2, img_po (show k + 1 ≠ i by omega), img_po (show k ≠ i by omega), img_po (show k - 1 ≠ i by omega)]; exact .refl _
  rw [img_po e1, img_po e2]
  simp only [sub, List.append_nil, img_po e1, img_po e2]; exact .refl _
theorem braid_ge {i : Nat} (h1 : 1 ≤ i) (e : Bool) (k : Nat) : GE (sube [(i : Int), ((i + 1 : Nat) : Int), (i : Int)] e [k]) (sube [((i + 1 : Nat) : Int), (i : Int), ((i + 1 : Nat) : Int)] e [k]) := by
  simp only [sube, sub, List.append_nil]
  have a1 : ∀ e, img (i : Int) e (i - 1) = [i - 1] := fun e => img_po (by omega) e
  have a2 : ∀ e, img (i : Int) e (i + 1) = [i + 1] := fun e => img_po (by omega) e
  have a3 : ∀ e, img (i : Int) e (i + 2) = [i + 2] := fun e => img_po (by omega) e
  have b1 : ∀ e, img ((i + 1 : Nat) : Int) e (i - 1) = [i - 1] := fun e => img_po (by omega) e
  have b2 : ∀ e, img ((i + 1 : Nat) : Int) e i = [i] := fun e => img_po (by omega) e
  have b3 : ∀ e, img ((i + 1 : Nat) : Int) e (i + 2) = [i + 2] := fun e => img_po (by omega) e
  have c1 := img_p h1
  have c2 : ∀ e, img ((i + 1 : Nat) : Int) e (i + 1) = if e = true then [i, i + 1, i + 2] else [i + 2, i + 1, i] := fun e => by
    have := img_p (i := i + 1) (by omega) e
    rw [this]; rfl
  by_cases e1 : k = i
  · subst e1
    cases e
    · simp only [Bool.false_eq_true, if_false, if_true, sub, List.append_nil, a1, a2, a3, b1, b2, b3, c1, c2, Bool.not_false, Bool.not_true, List.cons_append, List.nil_append]
      exact ((GE.cancel [k + 2] [k, k - 1, k - 1, k, k + 1, k - 1] (k + 1)).trans ((GE.cancel [k + 2, k] [k, k + 1, k - 1] (k - 1)).trans (GE.cancel [k + 2] [k + 1, k - 1] k))).trans (GE.cancel [k + 2, k + 1] [k - 1] k).symm
    · simp only [Bool.false_eq_true, if_false, if_true, sub, List.append_nil, a1, a2, a3, b1, b2, b3, c1, c2, Bool.not_false, Bool.not_true, List.cons_append, List.nil_append]
      exact ((GE.cancel [k - 1, k + 1, k] [k, k + 1, k + 1, k + 2] (k - 1)).trans ((GE.cancel [k - 1, k + 1] [k + 1, k + 1, k + 2] k).trans (GE.cancel [k - 1] [k + 1, k + 2] (k + 1)))).trans (GE.cancel [k - 1] [k + 1, k + 2] k).symm
  by_cases e2 : k = i + 1
  · subst e2
    cases e
    · simp only [Bool.false_eq_true, if_false, if_true, sub, List.append_nil, a1, a2, a3, b1, b2, b3, c1, c2, Bool.not_false, Bool.not_true, List.cons_append, List.nil_append]
      exact (GE.cancel [i + 2] [i, i - 1] (i + 1)).trans ((GE.cancel [i + 2, i, i + 1] [i + 1, i, i, i - 1] (i + 2)).trans ((GE.cancel [i + 2, i] [i, i, i - 1] (i + 1)).trans (GE.cancel [i + 2] [i, i - 1] i))).symm
    · simp only [Bool.false_eq_true, if_false, if_true, sub, List.append_nil, a1, a2, a3, b1, b2, b3, c1, c2, Bool.not_false, Bool.not_true, List.cons_append, List.nil_append]
      exact (GE.cancel [i - 1, i] [i + 2] (i + 1)).trans ((GE.cancel [i - 1] [i + 1, i + 2, i + 2, i + 1, i, i + 2] i).trans ((GE.cancel [i - 1, i + 1] [i + 1, i, i + 2] (i + 2)).trans (GE.cancel [i - 1] [i, i + 2] (i + 1)))).symm
  have n1 : ∀ e, img (i : Int) e k = [k] := fun e => img_po e1 e
  have n2 : ∀ e, img ((i + 1 : Nat) : Int) e k = [k] := fun e => img_po e2 e
  simp only [n1, n2, sub, List.append_nil]; exact .refl _
theorem subs_mid {w w' : List Int} (h : ∀ e j, GE (sube w e [j]) (sube w' e [j])) (a b : List Int) (u : List Nat) : GE (subs (a ++ (w ++ b)) u) (subs (a ++ (w' ++ b)) u) := by
  rw [subs_app, subs_app, subs_app, subs_app]
  refine subs_ge a ?_
  rw [← sube_true w, ← sube_true w']
  exact sube_ext h true _
/-- Words that are equal as braids act alike. -/
theorem BE.act {N : Nat} {u v : List Int} (h : BE N u v) (j : Nat) : act u j = act v j := by
  refine act_eq ?_
  induction h with
  | refl w => exact .refl _
  | symm _ ih => exact ih.symm
  | trans _ _ h1 h2 => exact h1.trans h2
  | @far a b i k h1 h2 h3 h4 h5 => exact subs_mid (w := [(i : Int), (k : Int)]) (w' := [(k : Int), (i : Int)]) (fun e j => far_ge h1 h3 h5 e j) a b [j]
  | @braid a b i h1 h2 => exact subs_mid (w := [(i : Int), ((i + 1 : Nat) : Int), (i : Int)]) (w' := [((i + 1 : Nat) : Int), (i : Int), ((i + 1 : Nat) : Int)]) (fun e j => braid_ge h1 e j) a b [j]
  | @pn a b i h1 h2 =>
    refine subs_mid (w := [(i : Int), -(i : Int)]) (w' := []) (fun e j => ?_) a b [j]
    have := sub_inv (x := -(i : Int)) (by omega) e [j]
    rw [Int.neg_neg] at this
    exact this
  | @np a b i h1 h2 => exact subs_mid (w := [-(i : Int), (i : Int)]) (w' := []) (fun e j => sub_inv (x := (i : Int)) (by omega) e [j]) a b [j]
/-- A first letter may be taken away. -/
theorem act_lcan {x : Int} (hx : x ≠ 0) {u v : List Int} {j : Nat} (h : act (x :: u) j = act (x :: v) j) : act u j = act v j := by
  have h1 : GE (sub x true (act u j)) (sub x true (act v j)) := h
  have h2 := sub_ge (-x) true h1
  have h3 := (sub_inv hx true (act u j)).symm.trans (h2.trans (sub_inv hx true (act v j)))
  unfold GE at h3
  rwa [rd_of (act_rdc u j), rd_of (act_rdc v j)] at h3
theorem act_pre (a : List Int) {u v : List Int} {j : Nat} (h : act u j = act v j) : act (a ++ u) j = act (a ++ v) j := by
  induction a with
  | nil => exact h
  | cons x a ih => show rd (sub x true (act (a ++ u) j)) = _; rw [ih]; rfl
end Gar
end Go.Proofs.Ytkeaonceaaafcaa
