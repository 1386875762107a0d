/- Permutations as functions, their words, and when two words are equal as braids. -/
set_option linter.unusedVariables false
set_option linter.unusedSimpArgs false
namespace Go.Proofs.Ytmlkiafidahnbaa
namespace Gar
/-- The exchange of i - 1 and i. -/
def tr (i k : Nat) : Nat := if k + 1 = i then i else if k = i then i - 1 else k
theorem tr_tr {i : Nat} (hi : 1 ≤ i) (k : Nat) : tr i (tr i k) = k := by
 unfold tr; split <;> rename_i h1
 · rw [if_neg (by omega), if_pos rfl]; omega
 ·
  split <;> rename_i h2
  · rw [if_pos (by omega)]; omega
  · rfl
theorem tr_l {i : Nat} (hi : 1 ≤ i) : tr i (i - 1) = i := by unfold tr; rw [if_pos (by omega)]
theorem tr_r {i : Nat} (hi : 1 ≤ i) : tr i i = i - 1 := by unfold tr; rw [if_neg (by omega), if_pos rfl]
theorem tr_o {i k : Nat} (h1 : k + 1 ≠ i) (h2 : k ≠ i) : tr i k = k := by unfold tr; rw [if_neg h1, if_neg h2]
theorem tr_lt {i a b : Nat} (hi : 1 ≤ i) (h : a < b) (hn : ¬ (a + 1 = i ∧ b = i)) : tr i a < tr i b := by
 unfold tr; split <;> split <;> (try split) <;> (try split) <;> omega
theorem tr_far {i j : Nat} (hi : 1 ≤ i) (hj : 1 ≤ j) (h : i + 1 < j ∨ j + 1 < i) (k : Nat) : tr i (tr j k) = tr j (tr i k) := by
 by_cases h1 : k = i - 1
 · subst h1; rw [tr_l hi, tr_o (i := j) (k := i - 1) (by omega) (by omega), tr_l hi, tr_o (by omega) (by omega)]
 by_cases h2 : k = i
 · subst h2; rw [tr_r hi, tr_o (i := j) (k := k) (by omega) (by omega), tr_r hi, tr_o (by omega) (by omega)]
 by_cases h3 : k = j - 1
 · subst h3; rw [tr_l hj, tr_o (i := i) (k := j - 1) (by omega) (by omega), tr_l hj, tr_o (by omega) (by omega)]
 by_cases h4 : k = j
 · subst h4; rw [tr_r hj, tr_o (i := i) (k := k) (by omega) (by omega), tr_r hj, tr_o (by omega) (by omega)]
 rw [tr_o (i := j) (k := k) (by omega) h4, tr_o (i := i) (k := k) (by omega) h2, tr_o (by omega) h4]
theorem tr_braid {i : Nat} (hi : 1 ≤ i) (k : Nat) : tr i (tr (i + 1) (tr i k)) = tr (i + 1) (tr i (tr (i + 1) k)) := by
 have e1 : tr i (i - 1) = i := tr_l hi
 have e2 : tr i i = i - 1 := tr_r hi
 have e3 : tr (i + 1) i = i + 1 := tr_l (i := i + 1) (by omega)
 have e4 : tr (i + 1) (i + 1) = i := tr_r (i := i + 1) (by omega)
 have e5 : tr (i + 1) (i - 1) = i - 1 := tr_o (by omega) (by omega)
 have e6 : tr i (i + 1) = i + 1 := tr_o (by omega) (by omega)
 by_cases h1 : k = i - 1
 · subst h1; rw [e1, e3, e6, e5, e1, e3]
 by_cases h2 : k = i
 · subst h2; rw [e2, e5, e1, e3, e6, e4]
 by_cases h3 : k = i + 1
 · subst h3; rw [e6, e4, e2, e5]
 have f1 : tr i k = k := tr_o (by omega) h2
 have f2 : tr (i + 1) k = k := tr_o (by omega) h3
 rw [f1, f2, f1, f2]
/-- A permutation of the numbers below N, with its inverse. -/
structure Pm (N : Nat) (f g : Nat → Nat) : Prop where
 fix : ∀ k, N ≤ k → f k = k
 gf : ∀ k, g (f k) = k
 fg : ∀ k, f (g k) = k
section
variable {N : Nat} {f g : Nat → Nat}
theorem Pm.symm (h : Pm N f g) : Pm N g f := ⟨fun k hk => by have := h.gf k; rwa [h.fix k hk] at this, h.fg, h.gf⟩
theorem Pm.inj (h : Pm N f g) {a b : Nat} (e : f a = f b) : a = b := by rw [← h.gf a, ← h.gf b, e]
theorem Pm.lt (h : Pm N f g) {k : Nat} (hk : k < N) : f k < N := by
 rcases Nat.lt_or_ge (f k) N with h1 | h1
 · exact h1
 · have := h.inj (h.fix _ h1); omega
theorem Pm.id (N : Nat) : Pm N (fun k => k) (fun k => k) := ⟨fun _ _ => rfl, fun _ => rfl, fun _ => rfl⟩
theorem Pm.ex (h : Pm N f g) {i : Nat} (hi : 1 ≤ i) (hn : i < N) : Pm N (fun k => f (tr i k)) (fun k => tr i (g k)) :=
 ⟨fun k hk => by rw [tr_o (by omega) (by omega)]; exact h.fix k hk, fun k => by rw [h.gf, tr_tr hi], fun k => by rw [tr_tr hi, h.fg]⟩
theorem Pm.uniq {g' : Nat → Nat} (h : Pm N f g) (h' : Pm N f g') : g = g' := by
 funext k; have := h'.gf (g k); rw [h.fg] at this; exact this.symm
/-- i is a starting letter. -/
def ds (f : Nat → Nat) (i : Nat) : Prop := f i < f (i - 1)
instance (f : Nat → Nat) (i : Nat) : Decidable (ds f i) := inferInstanceAs (Decidable (_ < _))
/-- w is a reduced word of f. -/
inductive Wd (N : Nat) : (Nat → Nat) → List Nat → Prop
 | nil : Wd N (fun k => k) []
 | cons {f : Nat → Nat} {i : Nat} {w : List Nat} : 1 ≤ i → i < N → ds f i → Wd N (fun k => f (tr i k)) w → Wd N f (i :: w)
/-- Positive words that are equal as braids. -/
inductive PE (N : Nat) : List Nat → List Nat → Prop
 | refl (w) : PE N w w
 | symm {u v} : PE N u v → PE N v u
 | trans {u v w} : PE N u v → PE N v w → PE N u w
 | far (a b) {i j : Nat} : 1 ≤ i → i < N → 1 ≤ j → j < N → i + 1 < j → PE N (a ++ i :: j :: b) (a ++ j :: i :: b)
 | braid (a b) {i : Nat} : 1 ≤ i → i + 1 < N → PE N (a ++ i :: (i + 1) :: i :: b) (a ++ (i + 1) :: i :: (i + 1) :: b)
theorem PE.app {u v : List Nat} (h : PE N u v) (a b : List Nat) : PE N (a ++ u ++ b) (a ++ v ++ b) := by
 induction h with
 | refl w => exact .refl _
 | symm _ ih => exact ih.symm
 | trans _ _ h1 h2 => exact h1.trans h2
 | far c d h1 h2 h3 h4 h5 =>
  have := PE.far (N := N) (a ++ c) (d ++ b) h1 h2 h3 h4 h5
  simpa [List.append_assoc] using this
 | braid c d h1 h2 =>
  have := PE.braid (N := N) (a ++ c) (d ++ b) h1 h2
  simpa [List.append_assoc] using this
theorem PE.cons {u v : List Nat} (h : PE N u v) (i : Nat) : PE N (i :: u) (i :: v) := by
 have := h.app [i] []; simpa using this
theorem PE.mul {u v u' v' : List Nat} (h : PE N u v) (h' : PE N u' v') : PE N (u ++ u') (v ++ v') := by
 have h1 := h.app [] u'
 have h2 := h'.app v []
 simp only [List.nil_append, List.append_nil] at h1 h2
 exact h1.trans h2
theorem PE.len {u v : List Nat} (h : PE N u v) : u.length = v.length := by
 induction h with
 | refl w => rfl
 | symm _ ih => exact ih.symm
 | trans _ _ h1 h2 => exact h1.trans h2
 | far c d h1 h2 h3 h4 h5 => simp
 | braid c d h1 h2 => simp
theorem Wd.pm {w : List Nat} (h : Wd N f w) : ∃ g, Pm N f g := by
 induction h with
 | nil => exact ⟨_, Pm.id N⟩
 | @cons f i w h1 h2 h3 h4 ih =>
  obtain ⟨g, hg⟩ := ih
  have := hg.ex h1 h2
  simp only [tr_tr h1] at this
  exact ⟨_, this⟩
theorem Wd.rng {w : List Nat} (h : Wd N f w) : ∀ i ∈ w, 1 ≤ i ∧ i < N := by
 induction h with
 | nil => simp
 | cons h1 h2 _ _ ih =>
  intro j hj
  rcases List.mem_cons.1 hj with rfl | hj
  · exact ⟨h1, h2⟩
  · exact ih j hj

/-! Inversions. -/
def inv : List Nat → Nat
 | [] => 0
 | a :: l => l.countP (fun x => decide (x < a)) + inv l
theorem inv_swap (pre post : List Nat) {a b : Nat} (h : b < a) : inv (pre ++ a :: b :: post) = inv (pre ++ b :: a :: post) + 1 := by
 induction pre with
 | nil =>
  simp only [List.nil_append, inv, List.countP_cons]
  rw [decide_eq_true h, decide_eq_false (by omega : ¬ a < b)]
  simp; omega
 | cons c pre ih =>
  simp only [List.cons_append, inv, ih]
  have : (pre ++ a :: b :: post).countP (fun x => decide (x < c)) = (pre ++ b :: a :: post).countP (fun x => decide (x < c)) := by
   simp only [List.countP_append, List.countP_cons]; omega
  omega
def lst (N : Nat) (f : Nat → Nat) : List Nat := (List.range N).map f
theorem range_split {N i : Nat} (hi : 1 ≤ i) (hn : i < N) : List.range N = List.range (i - 1) ++ (i - 1) :: i :: (List.range' (i + 1) (N - i - 1)) := by
 rw [List.range_eq_range', List.range_eq_range']
 have h1 : List.range' 0 N = List.range' 0 (i - 1) ++ List.range' (i - 1) (N - (i - 1)) := by
  rw [show N = (i - 1) + (N - (i - 1)) by omega, ← List.range'_append_1]; simp
 rw [h1]
 congr 1
 rw [show N - (i - 1) = (N - i - 1) + 1 + 1 by omega, List.range'_succ, List.range'_succ, show i - 1 + 1 = i by omega]
theorem lst_tr {i : Nat} (hi : 1 ≤ i) (hn : i < N) : ∃ pre post, lst N f = pre ++ f (i - 1) :: f i :: post ∧ lst N (fun k => f (tr i k)) = pre ++ f i :: f (i - 1) :: post := by
 refine ⟨(List.range (i - 1)).map f, (List.range' (i + 1) (N - i - 1)).map f, ?_, ?_⟩
 · unfold lst; rw [range_split hi hn]; simp
 ·
  unfold lst; rw [range_split hi hn]
  simp only [List.map_append, List.map_cons, tr_l hi, tr_r hi]
  congr 1
  ·
   apply List.map_congr_left
   intro k hk
   rw [List.mem_range] at hk
   rw [tr_o (by omega) (by omega)]
  ·
   congr 2
   apply List.map_congr_left
   intro k hk
   rw [List.mem_range'_1] at hk
   rw [tr_o (by omega) (by omega)]
theorem inv_tr {i : Nat} (hi : 1 ≤ i) (hn : i < N) (hd : ds f i) : inv (lst N f) = inv (lst N (fun k => f (tr i k))) + 1 := by
 obtain ⟨pre, post, h1, h2⟩ := lst_tr (f := f) hi hn
 rw [h1, h2]; exact inv_swap pre post hd
theorem inv_id : inv (lst N (fun k => k)) = 0 := by
 have key : ∀ (m s : Nat), inv (List.range' s m) = 0 := by
  intro m
  induction m with
  | zero => intro s; rfl
  | succ m ih =>
   intro s
   rw [List.range'_succ]
   simp only [inv, ih, Nat.add_zero]
   rw [List.countP_eq_zero]
   intro x hx
   rw [List.mem_range'_1] at hx
   simp; omega
 unfold lst
 rw [List.map_id', List.range_eq_range']
 exact key N 0
theorem Wd.len {w : List Nat} (h : Wd N f w) : w.length = inv (lst N f) := by
 induction h with
 | nil => rw [inv_id]; rfl
 | cons h1 h2 h3 _ ih => rw [inv_tr h1 h2 h3, ← ih]; rfl
/-- Without starting letters it is the identity. -/
theorem Pm.noDs (h : Pm N f g) (hn : ∀ i, 1 ≤ i → i < N → ¬ ds f i) : f = fun k => k := by
 have mono : ∀ d k, k + d < N → f k + d ≤ f (k + d) := by
  intro d
  induction d with
  | zero => intro k _; exact Nat.le_refl _
  | succ d ih =>
   intro k hk
   have h1 := ih k (by omega)
   have h2 := hn (k + d + 1) (by omega) (by omega)
   unfold ds at h2
   rw [show k + d + 1 - 1 = k + d by omega] at h2
   have h3 : f (k + d) ≠ f (k + d + 1) := fun e => by have := h.inj e; omega
   rw [show k + (d + 1) = k + d + 1 by omega]
   omega
 funext k
 rcases Nat.lt_or_ge k N with hk | hk
 ·
  have h1 := mono k 0 (by omega)
  rw [Nat.zero_add] at h1
  have h2 := mono (N - 1 - k) k (by omega)
  have h3 := h.lt (show k + (N - 1 - k) < N by omega)
  omega
 · exact h.fix k hk
theorem exists_ds (h : Pm N f g) (hne : f ≠ fun k => k) : ∃ i, 1 ≤ i ∧ i < N ∧ ds f i := by
 refine Classical.byContradiction fun hc => hne (h.noDs fun i h1 h2 h3 => hc ⟨i, h1, h2, h3⟩)
/-- Every permutation has a reduced word. -/
theorem exists_word : ∀ (m : Nat) {f g : Nat → Nat}, Pm N f g → inv (lst N f) = m → ∃ w, Wd N f w := by
 intro m
 induction m with
 | zero =>
  intro f g h hm
  by_cases hf : f = fun k => k
  · subst hf; exact ⟨[], .nil⟩
  ·
   obtain ⟨i, h1, h2, h3⟩ := exists_ds h hf
   have := inv_tr h1 h2 h3; omega
 | succ m ih =>
  intro f g h hm
  by_cases hf : f = fun k => k
  · subst hf; rw [inv_id] at hm; omega
  ·
   obtain ⟨i, h1, h2, h3⟩ := exists_ds h hf
   have h4 := inv_tr h1 h2 h3
   obtain ⟨w, hw⟩ := ih (h.ex h1 h2) (by omega)
   exact ⟨_, .cons h1 h2 h3 hw⟩
theorem Pm.word (h : Pm N f g) : ∃ w, Wd N f w := exists_word _ h rfl
/-- A word that begins with a given starting letter. -/
theorem Pm.wordAt (h : Pm N f g) {i : Nat} (h1 : 1 ≤ i) (h2 : i < N) (h3 : ds f i) : ∃ w, Wd N (fun k => f (tr i k)) w ∧ Wd N f (i :: w) := by
 obtain ⟨w, hw⟩ := (h.ex h1 h2).word
 exact ⟨w, hw, .cons h1 h2 h3 hw⟩
/-- MATSUMOTO: the reduced words of a permutation are equal as braids. -/
theorem matsumoto : ∀ (m : Nat) {f : Nat → Nat} {w w' : List Nat}, w.length = m → Wd N f w → Wd N f w' → PE N w w' := by
 intro m
 induction m with
 | zero =>
  intro f w w' hl h h'
  have e1 := h.len; have e2 := h'.len
  rw [List.eq_nil_of_length_eq_zero hl, List.eq_nil_of_length_eq_zero (by omega : w'.length = 0)]
  exact .refl _
 | succ m ih =>
  intro f w w' hl h h'
  have e1 := h.len; have e2 := h'.len
  obtain ⟨gf, hp⟩ := h.pm
  cases h with
  | nil => simp at hl
  | @cons _ i w1 i1 i2 i3 i4 =>
  cases h' with
  | nil => simp at e2; omega
  | @cons _ j w2 j1 j2 j3 j4 =>
  simp only [List.length_cons] at hl e1 e2
  -- the case that i is less than j
  have key : ∀ {i j : Nat} {w1 w2 : List Nat}, 1 ≤ i → i < N → ds f i → Wd N (fun k => f (tr i k)) w1 → 1 ≤ j → j < N → ds f j → Wd N (fun k => f (tr j k)) w2 → w1.length = m → w2.length = m → i < j → PE N (i :: w1) (j :: w2) := by
   intro i j w1 w2 i1 i2 i3 i4 j1 j2 j3 j4 l1 l2 hij
   by_cases hf : i + 1 < j
   ·
    have d1 : ds (fun k => f (tr i k)) j := by
     unfold ds; show f (tr i j) < f (tr i (j - 1)); rw [tr_o (by omega) (by omega), tr_o (by omega) (by omega)]; exact j3
    have d2 : ds (fun k => f (tr j k)) i := by
     unfold ds; show f (tr j i) < f (tr j (i - 1)); rw [tr_o (by omega) (by omega), tr_o (by omega) (by omega)]; exact i3
    obtain ⟨v, v1, v2⟩ := (hp.ex i1 i2).wordAt j1 j2 d1
    have v3 : Wd N (fun k => f (tr j k)) (i :: v) := .cons i1 i2 d2 (by
     have : (fun k => f (tr j (tr i k))) = (fun k => f (tr i (tr j k))) := by funext k; rw [tr_far i1 j1 (.inl hf)]
     rw [this]; exact v1)
    have q1 := ih l1 i4 v2
    have q2 := ih l2 j4 v3
    exact (q1.cons i).trans ((PE.far [] v i1 i2 j1 j2 hf).trans (q2.cons j).symm)
   ·
    obtain rfl : j = i + 1 := by omega
    have hi3 : f i < f (i - 1) := i3
    have hj3 : f (i + 1) < f i := j3
    have t1 : tr (i + 1) (i - 1) = i - 1 := tr_o (by omega) (by omega)
    have t2 : tr i (i + 1) = i + 1 := tr_o (by omega) (by omega)
    have t3 : tr (i + 1) i = i + 1 := tr_l (i := i + 1) (by omega)
    have t4 : tr (i + 1) (i + 1) = i := tr_r (i := i + 1) (by omega)
    have d1 : ds (fun k => f (tr i k)) (i + 1) := by
     unfold ds; show f (tr i (i + 1)) < f (tr i (i + 1 - 1))
     rw [t2, show i + 1 - 1 = i by omega, tr_r i1]; omega
    have d2 : ds (fun k => f (tr i (tr (i + 1) k))) i := by
     unfold ds; show f (tr i (tr (i + 1) i)) < f (tr i (tr (i + 1) (i - 1)))
     rw [t3, t2, t1, tr_l i1]; omega
    have d3 : ds (fun k => f (tr (i + 1) k)) i := by
     unfold ds; show f (tr (i + 1) i) < f (tr (i + 1) (i - 1))
     rw [t3, t1]; omega
    have d4 : ds (fun k => f (tr (i + 1) (tr i k))) (i + 1) := by
     unfold ds; show f (tr (i + 1) (tr i (i + 1))) < f (tr (i + 1) (tr i (i + 1 - 1)))
     rw [t2, t4, show i + 1 - 1 = i by omega, tr_r i1, t1]; omega
    obtain ⟨v, v1, v2⟩ := ((hp.ex i1 i2).ex j1 j2).wordAt i1 i2 d2
    have v3 : Wd N (fun k => f (tr i k)) ((i + 1) :: i :: v) := .cons j1 j2 d1 v2
    have v4 : Wd N (fun k => f (tr (i + 1) (tr i k))) ((i + 1) :: v) := .cons j1 j2 d4 (by
     have : (fun k => f (tr (i + 1) (tr i (tr (i + 1) k)))) = (fun k => f (tr i (tr (i + 1) (tr i k)))) := by funext k; rw [tr_braid i1]
     rw [this]; exact v1)
    have v5 : Wd N (fun k => f (tr (i + 1) k)) (i :: (i + 1) :: v) := .cons i1 i2 d3 v4
    have q1 := ih l1 i4 v3
    have q2 := ih l2 j4 v5
    exact (q1.cons i).trans ((PE.braid [] v i1 j2).trans (q2.cons (i + 1)).symm)
  rcases Nat.lt_trichotomy i j with hij | hij | hij
  · exact key i1 i2 i3 i4 j1 j2 j3 j4 (by omega) (by omega) hij
  · subst hij; exact (ih (by omega) i4 j4).cons i
  · exact (key j1 j2 j3 j4 i1 i2 i3 i4 (by omega) (by omega) hij).symm
theorem Wd.uniq {w w' : List Nat} (h : Wd N f w) (h' : Wd N f w') : PE N w w' := matsumoto _ rfl h h'
/-- A letter at the end. -/
theorem Wd.snoc {w : List Nat} (h : Wd N f w) : ∀ {g : Nat → Nat}, Pm N f g → ∀ {i : Nat}, 1 ≤ i → i < N → g (i - 1) < g i → Wd N (fun k => tr i (f k)) (w ++ [i]) := by
 induction h with
 | nil =>
  intro g hg i h1 h2 h3
  refine .cons h1 h2 (by unfold ds; show tr i i < tr i (i - 1); rw [tr_l h1, tr_r h1]; omega) ?_
  have : (fun k => tr i (tr i k)) = fun k => k := by funext k; exact tr_tr h1 k
  rw [this]; exact .nil
 | @cons f j w j1 j2 j3 j4 ih =>
  intro g hg i h1 h2 h3
  have j3' : f j < f (j - 1) := j3
  refine .cons j1 j2 ?_ (ih (hg.ex j1 j2) h1 h2 ?_)
  ·
   refine tr_lt h1 j3' fun ⟨a, b⟩ => ?_
   have e1 : g i = j - 1 := by rw [← b, hg.gf]
   have e2 : g (i - 1) = j := by rw [show i - 1 = f j by omega, hg.gf]
   omega
  ·
   refine tr_lt j1 h3 fun ⟨a, b⟩ => ?_
   have e1 : f j = i := by rw [← b, hg.fg]
   have e2 : f (j - 1) = i - 1 := by rw [show j - 1 = g (i - 1) by omega, hg.fg]
   omega
end
end Gar
end Go.Proofs.Ytmlkiafidahnbaa
