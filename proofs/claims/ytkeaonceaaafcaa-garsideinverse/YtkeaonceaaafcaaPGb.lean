/- Words that are equal as braids; the half twist; the words of normal forms. -/
import Derived.Test.YtkeaonceaaafcaaPGw
set_option linter.unusedVariables false
set_option linter.unusedSimpArgs false
namespace Go.Proofs.Ytkeaonceaaafcaa
namespace Gar
/-- Words that are equal as braids on N strands. -/
inductive BE (N : Nat) : List Int → List Int → Prop
  | refl (w) : BE N w w
  | symm {u v} : BE N u v → BE N v u
  | trans {u v w} : BE N u v → BE N v w → BE N u w
  | far (a b) {i j : Nat} : 1 ≤ i → i < N → 1 ≤ j → j < N → i + 1 < j → BE N (a ++ (i : Int) :: (j : Int) :: b) (a ++ (j : Int) :: (i : Int) :: b)
  | braid (a b) {i : Nat} : 1 ≤ i → i + 1 < N → BE N (a ++ (i : Int) :: ((i + 1 : Nat) : Int) :: (i : Int) :: b) (a ++ ((i + 1 : Nat) : Int) :: (i : Int) :: ((i + 1 : Nat) : Int) :: b)
  | pn (a b) {i : Nat} : 1 ≤ i → i < N → BE N (a ++ (i : Int) :: (-(i : Int)) :: b) (a ++ b)
  | np (a b) {i : Nat} : 1 ≤ i → i < N → BE N (a ++ (-(i : Int)) :: (i : Int) :: b) (a ++ b)
def pos (w : List Nat) : List Int := w.map fun (i : Nat) => (i : Int)
theorem pos_app (u v : List Nat) : pos (u ++ v) = pos u ++ pos v := List.map_append
section
variable {N : Nat}
theorem BE.app {u v : List Int} (h : BE N u v) (a b : List Int) : BE N (a ++ u ++ b) (a ++ v ++ b) := by
  induction h with
  | refl w => exact .refl _
  | symm _ ih => exact ih.symm
  | trans _ _ h1 h2 => exact h1.trans h2
  | far c d h1 h2 h3 h4 h5 =>
    have := BE.far (N := N) (a ++ c) (d ++ b) h1 h2 h3 h4 h5
    simpa [List.append_assoc] using this
  | braid c d h1 h2 =>
    have := BE.braid (N := N) (a ++ c) (d ++ b) h1 h2
    simpa [List.append_assoc] using this
  | pn c d h1 h2 =>
    have := BE.pn (N := N) (a ++ c) (d ++ b) h1 h2
    simpa [List.append_assoc] using this
  | np c d h1 h2 =>
    have := BE.np (N := N) (a ++ c) (d ++ b) h1 h2
    simpa [List.append_assoc] using this
theorem BE.left {u v : List Int} (h : BE N u v) (a : List Int) : BE N (a ++ u) (a ++ v) := by
  have := h.app a []; simpa using this
theorem BE.right {u v : List Int} (h : BE N u v) (b : List Int) : BE N (u ++ b) (v ++ b) := by
  have := h.app [] b; simpa using this
theorem BE.mul {u v u' v' : List Int} (h : BE N u v) (h' : BE N u' v') : BE N (u ++ u') (v ++ v') := (h.right u').trans (h'.left v)
theorem BE.of {u v : List Int} (h : u = v) : BE N u v := h ▸ .refl _
theorem PE.be {u v : List Nat} (h : PE N u v) : BE N (pos u) (pos v) := by
  induction h with
  | refl w => exact .refl _
  | symm _ ih => exact ih.symm
  | trans _ _ h1 h2 => exact h1.trans h2
  | far c d h1 h2 h3 h4 h5 =>
    have := BE.far (N := N) (pos c) (pos d) h1 h2 h3 h4 h5
    simpa [pos] using this
  | braid c d h1 h2 =>
    have := BE.braid (N := N) (pos c) (pos d) h1 h2
    simpa [pos] using this
/-- The inverse word. -/
def neg (w : List Int) : List Int := (w.map fun x => -x).reverse
theorem neg_app (u v : List Int) : neg (u ++ v) = neg v ++ neg u := by simp [neg]
theorem neg_neg (u : List Int) : neg (neg u) = u := by
  simp only [neg, List.map_reverse, List.reverse_reverse, List.map_map]
  conv => rhs; rw [← List.map_id' u]
  apply List.map_congr_left
  intro x _
  show - -x = x
  omega
/-- Words with letters of N strands. -/
def Rg (N : Nat) (w : List Int) : Prop := ∀ x ∈ w, x ≠ 0 ∧ -(N : Int) < x ∧ x < N
theorem Rg.app {u v : List Int} (h : Rg N u) (k : Rg N v) : Rg N (u ++ v) := fun x hx => by
  rcases List.mem_append.1 hx with h1 | h1
  · exact h x h1
  · exact k x h1
theorem Rg.neg {u : List Int} (h : Rg N u) : Rg N (neg u) := fun x hx => by
  simp only [Gar.neg, List.mem_reverse, List.mem_map] at hx
  obtain ⟨y, hy, rfl⟩ := hx
  have := h y hy; omega
theorem Rg.pos {w : List Nat} (h : ∀ i ∈ w, 1 ≤ i ∧ i < N) : Rg N (pos w) := fun x hx => by
  simp only [Gar.pos, List.mem_map] at hx
  obtain ⟨i, hi, rfl⟩ := hx
  have := h i hi; omega
theorem BE.one {x : Int} (hx : x ≠ 0 ∧ -(N : Int) < x ∧ x < N) (a b : List Int) : BE N (a ++ x :: (-x) :: b) (a ++ b) := by
  rcases Int.lt_or_gt_of_ne hx.1 with h | h
  · have := BE.np (N := N) a b (i := (-x).toNat) (by omega) (by omega)
    rwa [show ((-x).toNat : Int) = -x by omega, Int.neg_neg] at this
  · have := BE.pn (N := N) a b (i := x.toNat) (by omega) (by omega)
    rwa [show (x.toNat : Int) = x by omega] at this
theorem BE.cancel {w : List Int} (h : Rg N w) : BE N (w ++ Gar.neg w) [] := by
  induction w with
  | nil => exact .refl _
  | cons x w ih =>
    have h1 := ih fun y hy => h y (List.mem_cons_of_mem _ hy)
    have e : (x :: w) ++ Gar.neg (x :: w) = [x] ++ (w ++ Gar.neg w) ++ [-x] := by simp [Gar.neg]
    rw [e]
    have h2 := BE.one (N := N) (h x (by simp)) [] []
    exact (h1.app [x] [-x]).trans (by simpa using h2)
theorem BE.cancel' {w : List Int} (h : Rg N w) : BE N (Gar.neg w ++ w) [] := by
  have := BE.cancel h.neg
  rwa [neg_neg] at this
theorem BE.neg {u v : List Int} (hu : Rg N u) (hv : Rg N v) (h : BE N u v) : BE N (Gar.neg u) (Gar.neg v) := by
  -- neg u = neg u v neg v = neg u u neg v = neg v
  have h1 : BE N (Gar.neg u ++ (v ++ Gar.neg v)) (Gar.neg u) := by have := (BE.cancel hv).left (Gar.neg u); simpa using this
  have h2 : BE N (Gar.neg u ++ (v ++ Gar.neg v)) (Gar.neg u ++ (u ++ Gar.neg v)) := (h.symm.right _).left _
  have h3 : BE N (Gar.neg u ++ (u ++ Gar.neg v)) (Gar.neg v) := by
    rw [← List.append_assoc]
    have := (BE.cancel' hu).right (Gar.neg v); simpa using this
  exact h1.symm.trans (h2.trans h3)
/-- One may cancel on the left. -/
theorem BE.lcan {a u v : List Int} (ha : Rg N a) (h : BE N (a ++ u) (a ++ v)) : BE N u v := by
  have h1 : ∀ w, BE N (Gar.neg a ++ (a ++ w)) w := fun w => by
    rw [← List.append_assoc]
    have := (BE.cancel' ha).right w; simpa using this
  exact (h1 u).symm.trans ((h.left _).trans (h1 v))
theorem BE.rcan {a u v : List Int} (ha : Rg N a) (h : BE N (u ++ a) (v ++ a)) : BE N u v := by
  have h1 : ∀ w, BE N ((w ++ a) ++ Gar.neg a) w := fun w => by
    rw [List.append_assoc]
    have := (BE.cancel ha).left w; simpa using this
  exact (h1 u).symm.trans ((h.right _).trans (h1 v))

/-! The half twist. -/
def dl (N k : Nat) : Nat := if k < N then N - 1 - k else k
theorem dl_dl (k : Nat) : dl N (dl N k) = k := by
  unfold dl; by_cases h : k < N
  · rw [if_pos h, if_pos (by omega)]; omega
  · rw [if_neg h, if_neg h]
theorem dl_lt {k : Nat} (h : k < N) : dl N k = N - 1 - k := if_pos h
theorem dl_pm : Pm N (dl N) (dl N) := ⟨fun k hk => if_neg (by omega), dl_dl, dl_dl⟩
theorem dl_ds {i : Nat} (h1 : 1 ≤ i) (h2 : i < N) : ds (dl N) i := by
  unfold ds; rw [dl_lt h2, dl_lt (by omega)]; omega
theorem dl_tr {i : Nat} (h1 : 1 ≤ i) (h2 : i < N) (k : Nat) : dl N (tr i k) = tr (N - i) (dl N k) := by
  by_cases e1 : k = i - 1
  · subst e1; rw [tr_l h1, dl_lt h2, dl_lt (by omega), show N - 1 - (i - 1) = N - i by omega, tr_r (by omega)]; omega
  by_cases e2 : k = i
  · subst e2; rw [tr_r h1, dl_lt h2, dl_lt (by omega), show N - 1 - k = N - k - 1 by omega, tr_l (by omega)]; omega
  rw [tr_o (by omega) e2]
  by_cases h : k < N
  · rw [dl_lt h, tr_o (by omega) (by omega)]
  · unfold dl; rw [if_neg h, tr_o (by omega) (by omega)]
/-- Seen from the other side. -/
def tn (N : Nat) (f : Nat → Nat) : Nat → Nat := fun k => dl N (f (dl N k))
theorem tn_tn (f : Nat → Nat) : tn N (tn N f) = f := by funext k; unfold tn; rw [dl_dl, dl_dl]
theorem Pm.tn {f g : Nat → Nat} (h : Pm N f g) : Pm N (tn N f) (tn N g) := ⟨fun k hk => by
  unfold Gar.tn; rw [dl_pm.fix k hk, h.fix k hk, dl_pm.fix k hk], fun k => by unfold Gar.tn; rw [dl_dl, h.gf, dl_dl], fun k => by unfold Gar.tn; rw [dl_dl, h.fg, dl_dl]⟩
def tw (N : Nat) (w : List Nat) : List Nat := w.map fun i => N - i
theorem tw_tw {w : List Nat} (h : ∀ i ∈ w, 1 ≤ i ∧ i < N) : tw N (tw N w) = w := by
  unfold tw; rw [List.map_map]
  conv => rhs; rw [← List.map_id' w]
  apply List.map_congr_left
  intro i hi
  have := h i hi
  show N - (N - i) = i
  omega
theorem tw_rng {w : List Nat} (h : ∀ i ∈ w, 1 ≤ i ∧ i < N) : ∀ i ∈ tw N w, 1 ≤ i ∧ i < N := by
  intro i hi
  simp only [tw, List.mem_map] at hi
  obtain ⟨j, hj, rfl⟩ := hi
  have := h j hj; omega
theorem Wd.tn {f : Nat → Nat} {w : List Nat} (h : Wd N f w) : Wd N (tn N f) (tw N w) := by
  induction h with
  | nil =>
    have : Gar.tn N (fun k => k) = fun k => k := by funext k; unfold Gar.tn; exact dl_dl k
    rw [this]; exact .nil
  | @cons f i w h1 h2 h3 h4 ih =>
    refine .cons (show 1 ≤ N - i by omega) (show N - i < N by omega) ?_ ?_
    · have hp := (Wd.cons h1 h2 h3 h4).pm
      obtain ⟨g, hg⟩ := hp
      have a1 := hg.lt h2; have a2 := hg.lt (show i - 1 < N by omega)
      have h3' : f i < f (i - 1) := h3
      unfold ds
      show dl N (f (dl N (N - i))) < dl N (f (dl N (N - i - 1)))
      rw [dl_lt (show N - i < N by omega), dl_lt (show N - i - 1 < N by omega), show N - 1 - (N - i) = i - 1 by omega, show N - 1 - (N - i - 1) = i by omega, dl_lt a1, dl_lt a2]
      omega
    · have : (fun k => Gar.tn N f (tr (N - i) k)) = Gar.tn N (fun k => f (tr i k)) := by
        funext k
        show dl N (f (dl N (tr (N - i) k))) = dl N (f (tr i (dl N k)))
        rw [dl_tr (by omega) (by omega), show N - (N - i) = i by omega]
      rw [this]; exact ih
variable {H : List Nat} (hH : Wd N (dl N) H)
include hH
theorem slide1 {i : Nat} (h1 : 1 ≤ i) (h2 : i < N) : PE N (i :: H) (H ++ [N - i]) := by
  obtain ⟨v, v1, v2⟩ := (dl_pm (N := N)).wordAt h1 h2 (dl_ds h1 h2)
  have hp := (dl_pm (N := N)).ex h1 h2
  have v3 := v1.snoc hp (i := N - i) (by omega) (by omega) (by
    show tr i (dl N (N - i - 1)) < tr i (dl N (N - i))
    rw [dl_lt (by omega), dl_lt (by omega), show N - 1 - (N - i - 1) = i by omega, show N - 1 - (N - i) = i - 1 by omega, tr_r h1, tr_l h1]; omega)
  have e : (fun k => tr (N - i) (dl N (tr i k))) = dl N := by
    funext k; rw [dl_tr h1 h2, tr_tr (by omega)]
  rw [e] at v3
  have q1 := (hH.uniq v3).cons i
  have q2 := (v2.uniq hH).app [] [N - i]
  simp only [List.nil_append] at q2
  exact q1.trans q2
theorem slide {w : List Nat} (h : ∀ i ∈ w, 1 ≤ i ∧ i < N) : PE N (w ++ H) (H ++ tw N w) := by
  induction w with
  | nil => simp [tw]; exact .refl _
  | cons i w ih =>
    have h1 := (ih fun j hj => h j (List.mem_cons_of_mem _ hj)).cons i
    have h2 := (slide1 hH (h i (by simp)).1 (h i (by simp)).2).app [] (tw N w)
    simp only [List.nil_append, List.cons_append, List.append_assoc] at h1 h2 ⊢
    exact h1.trans h2
theorem Hrg : Rg N (pos H) := Rg.pos hH.rng
/-- The positive braid that is left of the half twist without a letter at its end. -/
theorem negX {i : Nat} (h1 : 1 ≤ i) (h2 : i < N) {X : List Nat} (hX : Wd N (fun k => dl N (tr (N - i) k)) X) : BE N [-(i : Int)] (neg (pos H) ++ pos X) := by
  have hp := (dl_pm (N := N)).ex (i := N - i) (by omega) (by omega)
  have v := hX.snoc hp (i := i) h1 h2 (by
    show tr (N - i) (dl N (i - 1)) < tr (N - i) (dl N i)
    rw [dl_lt (by omega), dl_lt h2, show N - 1 - (i - 1) = N - i by omega, show N - 1 - i = N - i - 1 by omega, tr_r (by omega), tr_l (by omega)]; omega)
  have e : (fun k => tr i (dl N (tr (N - i) k))) = dl N := by
    funext k; rw [dl_tr (by omega) (by omega), show N - (N - i) = i by omega, tr_tr h1]
  rw [e] at v
  have q := (v.uniq hH).be
  rw [pos_app] at q
  -- X i = H
  have q1 : BE N (pos X) (pos H ++ [-(i : Int)]) := by
    have a := q.right [-(i : Int)]
    have b := BE.pn (N := N) (pos X) [] h1 h2
    rw [List.append_nil] at b
    refine b.symm.trans ?_
    simpa [pos] using a
  have q2 := q1.left (neg (pos H))
  have q3 := (BE.cancel' (Hrg hH)).right [-(i : Int)]
  rw [List.append_assoc, List.nil_append] at q3
  exact (q2.trans q3).symm
omit hH
/-- Powers of the half twist. -/
def pwn (u : List Int) : Nat → List Int
  | 0 => []
  | n + 1 => pwn u n ++ u
def pw (H : List Nat) (p : Int) : List Int := if 0 ≤ p then pwn (pos H) p.toNat else pwn (neg (pos H)) (-p).toNat
theorem pwn_rg {u : List Int} (h : Rg N u) : ∀ n, Rg N (pwn u n)
  | 0 => fun x hx => by simp [pwn] at hx
  | n + 1 => (pwn_rg h n).app h
include hH
theorem pw_rg (p : Int) : Rg N (pw H p) := by
  unfold pw; split
  · exact pwn_rg (Hrg hH) _
  · exact pwn_rg (Hrg hH).neg _
theorem pw_up (p : Int) : BE N (pw H (p + 1)) (pw H p ++ pos H) := by
  unfold pw
  by_cases h : 0 ≤ p
  · rw [if_pos (by omega), if_pos h, show (p + 1).toNat = p.toNat + 1 by omega]; exact .refl _
  · rw [if_neg h, show (-p).toNat = (-(p + 1)).toNat + 1 by omega]
    have e : ∀ m, BE N (pwn (neg (pos H)) m) (pwn (neg (pos H)) (m + 1) ++ pos H) := fun m => by
      show BE N _ (pwn (neg (pos H)) m ++ neg (pos H) ++ pos H)
      rw [List.append_assoc]
      have := (BE.cancel' (Hrg hH)).left (pwn (neg (pos H)) m)
      rw [List.append_nil] at this
      exact this.symm
    by_cases h1 : 0 ≤ p + 1
    · obtain rfl : p = -1 := by omega
      exact e 0
    · rw [if_neg h1]; exact e _
theorem pw_down (p : Int) : BE N (pw H (p - 1)) (pw H p ++ neg (pos H)) := by
  have h1 := (pw_up hH (p - 1)).right (neg (pos H))
  rw [show p - 1 + 1 = p by omega, List.append_assoc] at h1
  have h2 := (BE.cancel (Hrg hH)).left (pw H (p - 1))
  rw [List.append_nil] at h2
  exact (h1.trans h2).symm
omit hH
/-! The words of lists of permutations. -/
inductive Wl (N : Nat) : List (Nat → Nat) → List Nat → Prop
  | nil : Wl N [] []
  | cons {f fs w v} : Wd N f w → Wl N fs v → Wl N (f :: fs) (w ++ v)
theorem Wl.app {fs gs : List (Nat → Nat)} {u v : List Nat} (h : Wl N fs u) (k : Wl N gs v) : Wl N (fs ++ gs) (u ++ v) := by
  induction h with
  | nil => exact k
  | cons h1 _ ih => rw [List.cons_append, List.append_assoc]; exact .cons h1 ih
theorem Wl.split {fs gs : List (Nat → Nat)} {w : List Nat} (h : Wl N (fs ++ gs) w) : ∃ u v, w = u ++ v ∧ Wl N fs u ∧ Wl N gs v := by
  induction fs generalizing w with
  | nil => exact ⟨[], w, rfl, .nil, h⟩
  | cons f fs ih =>
    cases h with
    | @cons _ _ w1 v1 h1 h2 =>
    obtain ⟨u, v, rfl, h3, h4⟩ := ih h2
    exact ⟨w1 ++ u, v, by rw [List.append_assoc], .cons h1 h3, h4⟩
theorem Wl.uniq {fs : List (Nat → Nat)} {u v : List Nat} (h : Wl N fs u) : ∀ {v}, Wl N fs v → PE N u v := by
  induction h with
  | nil => intro v k; cases k; exact .refl _
  | cons h1 _ ih => intro v k; cases k with | cons k1 k2 => exact (h1.uniq k1).mul (ih k2)
theorem Wl.rng {fs : List (Nat → Nat)} {u : List Nat} (h : Wl N fs u) : ∀ i ∈ u, 1 ≤ i ∧ i < N := by
  induction h with
  | nil => simp
  | cons h1 _ ih =>
    intro i hi
    rcases List.mem_append.1 hi with h2 | h2
    · exact h1.rng i h2
    · exact ih i h2
theorem Wl.pm {fs : List (Nat → Nat)} {u : List Nat} (h : Wl N fs u) : ∀ f ∈ fs, ∃ g, Pm N f g := by
  induction h with
  | nil => simp
  | cons h1 _ ih =>
    intro f hf
    rcases List.mem_cons.1 hf with rfl | hf
    · exact h1.pm
    · exact ih f hf
theorem Wl.tn {fs : List (Nat → Nat)} {u : List Nat} (h : Wl N fs u) : Wl N (fs.map (tn N)) (tw N u) := by
  induction h with
  | nil => exact .nil
  | cons h1 _ ih =>
    unfold tw at ih ⊢
    rw [List.map_append]; exact .cons h1.tn ih
theorem exists_Wl {fs : List (Nat → Nat)} (h : ∀ f ∈ fs, ∃ g, Pm N f g) : ∃ u, Wl N fs u := by
  induction fs with
  | nil => exact ⟨[], .nil⟩
  | cons f fs ih =>
    obtain ⟨g, hg⟩ := h f (by simp)
    obtain ⟨w, hw⟩ := hg.word
    obtain ⟨v, hv⟩ := ih fun k hk => h k (by simp [hk])
    exact ⟨_, .cons hw hv⟩
/-- b is the braid with a power of the half twist and simple factors. -/
def NS (N : Nat) (H : List Nat) (p : Int) (fs : List (Nat → Nat)) (b : List Int) : Prop := ∃ v, Wl N fs v ∧ BE N b (pw H p ++ pos v)
theorem NS.nil : NS N H 0 [] [] := ⟨[], .nil, .refl _⟩
theorem wd_tr {i : Nat} (h1 : 1 ≤ i) (h2 : i < N) : Wd N (fun k => tr i k) [i] := by
  refine .cons h1 h2 (by unfold ds; show tr i i < tr i (i - 1); rw [tr_l h1, tr_r h1]; omega) ?_
  have : (fun k => tr i (tr i k)) = fun k => k := by funext k; exact tr_tr h1 k
  rw [this]; exact .nil
theorem NS.up {p : Int} {fs : List (Nat → Nat)} {b : List Int} (h : NS N H p fs b) {i : Nat} (h1 : 1 ≤ i) (h2 : i < N) : NS N H p (fs ++ [fun k => tr i k]) (b ++ [(i : Int)]) := by
  obtain ⟨v, h3, h4⟩ := h
  refine ⟨v ++ ([i] ++ []), h3.app (.cons (wd_tr h1 h2) .nil), ?_⟩
  rw [pos_app, ← List.append_assoc]
  exact h4.right _
theorem NS.down (hH : Wd N (dl N) H) {p : Int} {fs : List (Nat → Nat)} {b : List Int} (h : NS N H p fs b) {i : Nat} (h1 : 1 ≤ i) (h2 : i < N) : NS N H (p - 1) (fs.map (tn N) ++ [fun k => dl N (tr (N - i) k)]) (b ++ [-(i : Int)]) := by
  obtain ⟨v, h3, h4⟩ := h
  obtain ⟨X, hX, -⟩ := (dl_pm (N := N)).wordAt (i := N - i) (by omega) (by omega) (dl_ds (by omega) (by omega))
  refine ⟨tw N v ++ (X ++ []), h3.tn.app (.cons hX .nil), ?_⟩
  have q1 := (h4.right [-(i : Int)]).trans ((negX hH h1 h2 hX).left _)
  -- v neg H = neg H tw v
  have q2 := (slide hH (tw_rng h3.rng)).be
  rw [tw_tw h3.rng, pos_app, pos_app] at q2
  have q3 : BE N (pos v ++ neg (pos H)) (neg (pos H) ++ pos (tw N v)) := by
    refine BE.rcan (Hrg hH) (BE.lcan (Hrg hH) ?_)
    have a1 : BE N (pos H ++ (pos v ++ neg (pos H) ++ pos H)) (pos H ++ pos v) := by
      have := (BE.cancel' (Hrg hH)).left (pos H ++ pos v)
      simpa [List.append_assoc] using this
    have a2 : BE N (pos H ++ (neg (pos H) ++ pos (tw N v) ++ pos H)) (pos (tw N v) ++ pos H) := by
      have := (BE.cancel (Hrg hH)).right (pos (tw N v) ++ pos H)
      simpa [List.append_assoc] using this
    exact a1.trans (q2.symm.trans a2.symm)
  refine q1.trans ?_
  rw [List.append_nil, pos_app]
  have a3 := (q3.left (pw H p)).right (pos X)
  have a4 := (pw_down hH p).symm.right (pos (tw N v) ++ pos X)
  simp only [List.append_assoc] at a3 a4 ⊢
  exact a3.trans a4
theorem NS.turn {p : Int} {fs fs' : List (Nat → Nat)} {b : List Int} (h : NS N H p fs b) (k : ∀ v, Wl N fs v → ∃ v', Wl N fs' v' ∧ PE N v v') : NS N H p fs' b := by
  obtain ⟨v, h1, h2⟩ := h
  obtain ⟨v', h3, h4⟩ := k v h1
  exact ⟨v', h3, h2.trans (h4.be.left _)⟩
/-- A letter goes over to the factor before. -/
theorem move1 {f1 g1 f2 : Nat → Nat} {i : Nat} (h1 : 1 ≤ i) (h2 : i < N) (hp : Pm N f1 g1) (hd : ds f2 i) (ha : g1 (i - 1) < g1 i) (pre post : List (Nat → Nat)) {v : List Nat} (h : Wl N (pre ++ f1 :: f2 :: post) v) :
    ∃ v', Wl N (pre ++ (fun k => tr i (f1 k)) :: (fun k => f2 (tr i k)) :: post) v' ∧ PE N v v' := by
  obtain ⟨u, v, rfl, k1, k2⟩ := h.split
  cases k2 with
  | @cons _ _ w1 v1 k3 k4 =>
  cases k4 with
  | @cons _ _ w2 v2 k5 k6 =>
  obtain ⟨g2, hg2⟩ := k5.pm
  obtain ⟨w, hw1, hw2⟩ := hg2.wordAt h1 h2 hd
  refine ⟨u ++ ((w1 ++ [i]) ++ (w ++ v2)), k1.app (.cons (k3.snoc hp h1 h2 ha) (.cons hw1 k6)), ?_⟩
  have := (k5.uniq hw2).app (u ++ w1) v2
  simpa [List.append_assoc] using this
theorem NS.dropId {p : Int} {fs : List (Nat → Nat)} {b : List Int} (h : NS N H p (fs ++ [fun k => k]) b) : NS N H p fs b := by
  obtain ⟨v, h1, h2⟩ := h
  obtain ⟨u, v, rfl, k1, k2⟩ := h1.split
  cases k2 with
  | @cons _ _ w1 v1 k3 k4 =>
  cases k4
  have e : w1 = [] := by
    have := k3.len; rw [inv_id] at this; exact List.eq_nil_of_length_eq_zero this
  subst e
  exact ⟨u, k1, by simpa using h2⟩
theorem NS.twist (hH : Wd N (dl N) H) {p : Int} {fs : List (Nat → Nat)} {b : List Int} (h : NS N H p (dl N :: fs) b) : NS N H (p + 1) fs b := by
  obtain ⟨v, h1, h2⟩ := h
  cases h1 with
  | @cons _ _ w1 v1 k3 k4 =>
  refine ⟨v1, k4, h2.trans ?_⟩
  rw [pos_app, ← List.append_assoc]
  exact (((k3.uniq hH).be.left (pw H p)).trans (pw_up hH p).symm).right (pos v1)
end
end Gar
end Go.Proofs.Ytkeaonceaaafcaa
