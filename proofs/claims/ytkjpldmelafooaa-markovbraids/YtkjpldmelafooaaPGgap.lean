/- Joined: PGw, PGb, PGgap. -/
/- Permutations as functions, their words, and when two words are equal as braids. -/
set_option linter.unusedVariables false
set_option linter.unusedSimpArgs false
namespace Go.Proofs.Ytkjpldmelafooaa
namespace Gar
/-- The exchange of i - 1 and i. -/
def tr (i k : Nat) : Nat := if k + 1 = i then i else if k = i then i - 1 else k
theorem tr_tr {i : Nat} (hi : 1 ≤ i) (k : Nat) : tr i (tr i k) = k := by
  unfold tr; split <;> rename_i h1
  · rw [if_neg (by omega), if_pos rfl]; omega
  · split <;> rename_i h2
    · rw [if_pos (by omega)]; omega
    · rfl
theorem tr_l {i : Nat} (hi : 1 ≤ i) : tr i (i - 1) = i := by unfold tr; rw [if_pos (by omega)]
theorem tr_r {i : Nat} (hi : 1 ≤ i) : tr i i = i - 1 := by unfold tr; rw [if_neg (by omega), if_pos rfl]
theorem tr_o {i k : Nat} (h1 : k + 1 ≠ i) (h2 : k ≠ i) : tr i k = k := by unfold tr; rw [if_neg h1, if_neg h2]
theorem tr_lt {i a b : Nat} (hi : 1 ≤ i) (h : a < b) (hn : ¬ (a + 1 = i ∧ b = i)) : tr i a < tr i b := by
  unfold tr; split <;> split <;> (try split) <;> (try split) <;> omega
theorem tr_far {i j : Nat} (hi : 1 ≤ i) (hj : 1 ≤ j) (h : i + 1 < j ∨ j + 1 < i) (k : Nat) : tr i (tr j k) = tr j (tr i k) := by
  by_cases h1 : k = i - 1
  · subst h1; rw [tr_l hi, tr_o (i := j) (k := i - 1) (by omega) (by omega), tr_l hi, tr_o (by omega) (by omega)]
  by_cases h2 : k = i
  · subst h2; rw [tr_r hi, tr_o (i := j) (k := k) (by omega) (by omega), tr_r hi, tr_o (by omega) (by omega)]
  by_cases h3 : k = j - 1
  · subst h3; rw [tr_l hj, tr_o (i := i) (k := j - 1) (by omega) (by omega), tr_l hj, tr_o (by omega) (by omega)]
  by_cases h4 : k = j
  · subst h4; rw [tr_r hj, tr_o (i := i) (k := k) (by omega) (by omega), tr_r hj, tr_o (by omega) (by omega)]
  rw [tr_o (i := j) (k := k) (by omega) h4, tr_o (i := i) (k := k) (by omega) h2, tr_o (by omega) h4]
theorem tr_braid {i : Nat} (hi : 1 ≤ i) (k : Nat) : tr i (tr (i + 1) (tr i k)) = tr (i + 1) (tr i (tr (i + 1) k)) := by
  have e1 : tr i (i - 1) = i := tr_l hi
  have e2 : tr i i = i - 1 := tr_r hi
  have e3 : tr (i + 1) i = i + 1 := tr_l (i := i + 1) (by omega)
  have e4 : tr (i + 1) (i + 1) = i := tr_r (i := i + 1) (by omega)
  have e5 : tr (i + 1) (i - 1) = i - 1 := tr_o (by omega) (by omega)
  have e6 : tr i (i + 1) = i + 1 := tr_o (by omega) (by omega)
  by_cases h1 : k = i - 1
  · subst h1; rw [e1, e3, e6, e5, e1, e3]
  by_cases h2 : k = i
  · subst h2; rw [e2, e5, e1, e3, e6, e4]
  by_cases h3 : k = i + 1
  · subst h3; rw [e6, e4, e2, e5]
  have f1 : tr i k = k := tr_o (by omega) h2
  have f2 : tr (i + 1) k = k := tr_o (by omega) h3
  rw [f1, f2, f1, f2]
/-- A permutation of the numbers below N, with its inverse. -/
structure Pm (N : Nat) (f g : Nat → Nat) : Prop where
  fix : ∀ k, N ≤ k → f k = k
  gf : ∀ k, g (f k) = k
  fg : ∀ k, f (g k) = k
section
variable {N : Nat} {f g : Nat → Nat}
theorem Pm.symm (h : Pm N f g) : Pm N g f := ⟨fun k hk => by have := h.gf k; rwa [h.fix k hk] at this, h.fg, h.gf⟩
theorem Pm.inj (h : Pm N f g) {a b : Nat} (e : f a = f b) : a = b := by rw [← h.gf a, ← h.gf b, e]
theorem Pm.lt (h : Pm N f g) {k : Nat} (hk : k < N) : f k < N := by
  rcases Nat.lt_or_ge (f k) N with h1 | h1
  · exact h1
  · have := h.inj (h.fix _ h1); omega
theorem Pm.id (N : Nat) : Pm N (fun k => k) (fun k => k) := ⟨fun _ _ => rfl, fun _ => rfl, fun _ => rfl⟩
theorem Pm.ex (h : Pm N f g) {i : Nat} (hi : 1 ≤ i) (hn : i < N) : Pm N (fun k => f (tr i k)) (fun k => tr i (g k)) :=
  ⟨fun k hk => by rw [tr_o (by omega) (by omega)]; exact h.fix k hk, fun k => by rw [h.gf, tr_tr hi], fun k => by rw [tr_tr hi, h.fg]⟩
theorem Pm.uniq {g' : Nat → Nat} (h : Pm N f g) (h' : Pm N f g') : g = g' := by
  funext k; have := h'.gf (g k); rw [h.fg] at this; exact this.symm
/-- i is a starting letter. -/
def ds (f : Nat → Nat) (i : Nat) : Prop := f i < f (i - 1)
instance (f : Nat → Nat) (i : Nat) : Decidable (ds f i) := inferInstanceAs (Decidable (_ < _))
/-- w is a reduced word of f. -/
inductive Wd (N : Nat) : (Nat → Nat) → List Nat → Prop
  | nil : Wd N (fun k => k) []
  | cons {f : Nat → Nat} {i : Nat} {w : List Nat} : 1 ≤ i → i < N → ds f i → Wd N (fun k => f (tr i k)) w → Wd N f (i :: w)
/-- Positive words that are equal as braids. -/
inductive PE (N : Nat) : List Nat → List Nat → Prop
  | refl (w) : PE N w w
  | symm {u v} : PE N u v → PE N v u
  | trans {u v w} : PE N u v → PE N v w → PE N u w
  | far (a b) {i j : Nat} : 1 ≤ i → i < N → 1 ≤ j → j < N → i + 1 < j → PE N (a ++ i :: j :: b) (a ++ j :: i :: b)
  | braid (a b) {i : Nat} : 1 ≤ i → i + 1 < N → PE N (a ++ i :: (i + 1) :: i :: b) (a ++ (i + 1) :: i :: (i + 1) :: b)
theorem PE.app {u v : List Nat} (h : PE N u v) (a b : List Nat) : PE N (a ++ u ++ b) (a ++ v ++ b) := by
  induction h with
  | refl w => exact .refl _
  | symm _ ih => exact ih.symm
  | trans _ _ h1 h2 => exact h1.trans h2
  | far c d h1 h2 h3 h4 h5 =>
    have := PE.far (N := N) (a ++ c) (d ++ b) h1 h2 h3 h4 h5
    simpa [List.append_assoc] using this
  | braid c d h1 h2 =>
    have := PE.braid (N := N) (a ++ c) (d ++ b) h1 h2
    simpa [List.append_assoc] using this
theorem PE.cons {u v : List Nat} (h : PE N u v) (i : Nat) : PE N (i :: u) (i :: v) := by
  have := h.app [i] []; simpa using this
theorem PE.mul {u v u' v' : List Nat} (h : PE N u v) (h' : PE N u' v') : PE N (u ++ u') (v ++ v') := by
  have h1 := h.app [] u'
  have h2 := h'.app v []
  simp only [List.nil_append, List.append_nil] at h1 h2
  exact h1.trans h2
theorem PE.len {u v : List Nat} (h : PE N u v) : u.length = v.length := by
  induction h with
  | refl w => rfl
  | symm _ ih => exact ih.symm
  | trans _ _ h1 h2 => exact h1.trans h2
  | far c d h1 h2 h3 h4 h5 => simp
  | braid c d h1 h2 => simp
theorem Wd.pm {w : List Nat} (h : Wd N f w) : ∃ g, Pm N f g := by
  induction h with
  | nil => exact ⟨_, Pm.id N⟩
  | @cons f i w h1 h2 h3 h4 ih =>
    obtain ⟨g, hg⟩ := ih
    have := hg.ex h1 h2
    simp only [tr_tr h1] at this
    exact ⟨_, this⟩
theorem Wd.rng {w : List Nat} (h : Wd N f w) : ∀ i ∈ w, 1 ≤ i ∧ i < N := by
  induction h with
  | nil => simp
  | cons h1 h2 _ _ ih =>
    intro j hj
    rcases List.mem_cons.1 hj with rfl | hj
    · exact ⟨h1, h2⟩
    · exact ih j hj

/-! Inversions. -/
def inv : List Nat → Nat
  | [] => 0
  | a :: l => l.countP (fun x => decide (x < a)) + inv l
theorem inv_swap (pre post : List Nat) {a b : Nat} (h : b < a) : inv (pre ++ a :: b :: post) = inv (pre ++ b :: a :: post) + 1 := by
  induction pre with
  | nil =>
    simp only [List.nil_append, inv, List.countP_cons]
    rw [decide_eq_true h, decide_eq_false (by omega : ¬ a < b)]
    simp; omega
  | cons c pre ih =>
    simp only [List.cons_append, inv, ih]
    have : (pre ++ a :: b :: post).countP (fun x => decide (x < c)) = (pre ++ b :: a :: post).countP (fun x => decide (x < c)) := by
      simp only [List.countP_append, List.countP_cons]; omega
    omega
def lst (N : Nat) (f : Nat → Nat) : List Nat := (List.range N).map f
theorem range_split {N i : Nat} (hi : 1 ≤ i) (hn : i < N) : List.range N = List.range (i - 1) ++ (i - 1) :: i :: (List.range' (i + 1) (N - i - 1)) := by
  rw [List.range_eq_range', List.range_eq_range']
  have h1 : List.range' 0 N = List.range' 0 (i - 1) ++ List.range' (i - 1) (N - (i - 1)) := by
    rw [show N = (i - 1) + (N - (i - 1)) by omega, ← List.range'_append_1]; simp
  rw [h1]
  congr 1
  rw [show N - (i - 1) = (N - i - 1) + 1 + 1 by omega, List.range'_succ, List.range'_succ, show i - 1 + 1 = i by omega]
theorem lst_tr {i : Nat} (hi : 1 ≤ i) (hn : i < N) : ∃ pre post, lst N f = pre ++ f (i - 1) :: f i :: post ∧ lst N (fun k => f (tr i k)) = pre ++ f i :: f (i - 1) :: post := by
  refine ⟨(List.range (i - 1)).map f, (List.range' (i + 1) (N - i - 1)).map f, ?_, ?_⟩
  · unfold lst; rw [range_split hi hn]; simp
  · unfold lst; rw [range_split hi hn]
    simp only [List.map_append, List.map_cons, tr_l hi, tr_r hi]
    congr 1
    · apply List.map_congr_left
      intro k hk
      rw [List.mem_range] at hk
      rw [tr_o (by omega) (by omega)]
    · congr 2
      apply List.map_congr_left
      intro k hk
      rw [List.mem_range'_1] at hk
      rw [tr_o (by omega) (by omega)]
theorem inv_tr {i : Nat} (hi : 1 ≤ i) (hn : i < N) (hd : ds f i) : inv (lst N f) = inv (lst N (fun k => f (tr i k))) + 1 := by
  obtain ⟨pre, post, h1, h2⟩ := lst_tr (f := f) hi hn
  rw [h1, h2]; exact inv_swap pre post hd
theorem inv_id : inv (lst N (fun k => k)) = 0 := by
  have key : ∀ (m s : Nat), inv (List.range' s m) = 0 := by
    intro m
    induction m with
    | zero => intro s; rfl
    | succ m ih =>
      intro s
      rw [List.range'_succ]
      simp only [inv, ih, Nat.add_zero]
      rw [List.countP_eq_zero]
      intro x hx
      rw [List.mem_range'_1] at hx
      simp; omega
  unfold lst
  rw [List.map_id', List.range_eq_range']
  exact key N 0
theorem Wd.len {w : List Nat} (h : Wd N f w) : w.length = inv (lst N f) := by
  induction h with
  | nil => rw [inv_id]; rfl
  | cons h1 h2 h3 _ ih => rw [inv_tr h1 h2 h3, ← ih]; rfl
/-- Without starting letters it is the identity. -/
theorem Pm.noDs (h : Pm N f g) (hn : ∀ i, 1 ≤ i → i < N → ¬ ds f i) : f = fun k => k := by
  have mono : ∀ d k, k + d < N → f k + d ≤ f (k + d) := by
    intro d
    induction d with
    | zero => intro k _; exact Nat.le_refl _
    | succ d ih =>
      intro k hk
      have h1 := ih k (by omega)
      have h2 := hn (k + d + 1) (by omega) (by omega)
      unfold ds at h2
      rw [show k + d + 1 - 1 = k + d by omega] at h2
      have h3 : f (k + d) ≠ f (k + d + 1) := fun e => by have := h.inj e; omega
      rw [show k + (d + 1) = k + d + 1 by omega]
      omega
  funext k
  rcases Nat.lt_or_ge k N with hk | hk
  · have h1 := mono k 0 (by omega)
    rw [Nat.zero_add] at h1
    have h2 := mono (N - 1 - k) k (by omega)
    have h3 := h.lt (show k + (N - 1 - k) < N by omega)
    omega
  · exact h.fix k hk
theorem exists_ds (h : Pm N f g) (hne : f ≠ fun k => k) : ∃ i, 1 ≤ i ∧ i < N ∧ ds f i := by
  refine Classical.byContradiction fun hc => hne (h.noDs fun i h1 h2 h3 => hc ⟨i, h1, h2, h3⟩)
/-- Every permutation has a reduced word. -/
theorem exists_word : ∀ (m : Nat) {f g : Nat → Nat}, Pm N f g → inv (lst N f) = m → ∃ w, Wd N f w := by
  intro m
  induction m with
  | zero =>
    intro f g h hm
    by_cases hf : f = fun k => k
    · subst hf; exact ⟨[], .nil⟩
    · obtain ⟨i, h1, h2, h3⟩ := exists_ds h hf
      have := inv_tr h1 h2 h3; omega
  | succ m ih =>
    intro f g h hm
    by_cases hf : f = fun k => k
    · subst hf; rw [inv_id] at hm; omega
    · obtain ⟨i, h1, h2, h3⟩ := exists_ds h hf
      have h4 := inv_tr h1 h2 h3
      obtain ⟨w, hw⟩ := ih (h.ex h1 h2) (by omega)
      exact ⟨_, .cons h1 h2 h3 hw⟩
theorem Pm.word (h : Pm N f g) : ∃ w, Wd N f w := exists_word _ h rfl
/-- A word that begins with a given starting letter. -/
theorem Pm.wordAt (h : Pm N f g) {i : Nat} (h1 : 1 ≤ i) (h2 : i < N) (h3 : ds f i) : ∃ w, Wd N (fun k => f (tr i k)) w ∧ Wd N f (i :: w) := by
  obtain ⟨w, hw⟩ := (h.ex h1 h2).word
  exact ⟨w, hw, .cons h1 h2 h3 hw⟩
/-- MATSUMOTO: the reduced words of a permutation are equal as braids. -/
theorem matsumoto : ∀ (m : Nat) {f : Nat → Nat} {w w' : List Nat}, w.length = m → Wd N f w → Wd N f w' → PE N w w' := by
  intro m
  induction m with
  | zero =>
    intro f w w' hl h h'
    have e1 := h.len; have e2 := h'.len
    rw [List.eq_nil_of_length_eq_zero hl, List.eq_nil_of_length_eq_zero (by omega : w'.length = 0)]
    exact .refl _
  | succ m ih =>
    intro f w w' hl h h'
    have e1 := h.len; have e2 := h'.len
    obtain ⟨gf, hp⟩ := h.pm
    cases h with
    | nil => simp at hl
    | @cons _ i w1 i1 i2 i3 i4 =>
    cases h' with
    | nil => simp at e2; omega
    | @cons _ j w2 j1 j2 j3 j4 =>
    simp only [List.length_cons] at hl e1 e2
    -- the case that i is less than j
    have key : ∀ {i j : Nat} {w1 w2 : List Nat}, 1 ≤ i → i < N → ds f i → Wd N (fun k => f (tr i k)) w1 → 1 ≤ j → j < N → ds f j → Wd N (fun k => f (tr j k)) w2 → w1.length = m → w2.length = m → i < j → PE N (i :: w1) (j :: w2) := by
      intro i j w1 w2 i1 i2 i3 i4 j1 j2 j3 j4 l1 l2 hij
      by_cases hf : i + 1 < j
      · have d1 : ds (fun k => f (tr i k)) j := by
          unfold ds; show f (tr i j) < f (tr i (j - 1)); rw [tr_o (by omega) (by omega), tr_o (by omega) (by omega)]; exact j3
        have d2 : ds (fun k => f (tr j k)) i := by
          unfold ds; show f (tr j i) < f (tr j (i - 1)); rw [tr_o (by omega) (by omega), tr_o (by omega) (by omega)]; exact i3
        obtain ⟨v, v1, v2⟩ := (hp.ex i1 i2).wordAt j1 j2 d1
        have v3 : Wd N (fun k => f (tr j k)) (i :: v) := .cons i1 i2 d2 (by
          have : (fun k => f (tr j (tr i k))) = (fun k => f (tr i (tr j k))) := by funext k; rw [tr_far i1 j1 (.inl hf)]
          rw [this]; exact v1)
        have q1 := ih l1 i4 v2
        have q2 := ih l2 j4 v3
        exact (q1.cons i).trans ((PE.far [] v i1 i2 j1 j2 hf).trans (q2.cons j).symm)
      · obtain rfl : j = i + 1 := by omega
        have hi3 : f i < f (i - 1) := i3
        have hj3 : f (i + 1) < f i := j3
        have t1 : tr (i + 1) (i - 1) = i - 1 := tr_o (by omega) (by omega)
        have t2 : tr i (i + 1) = i + 1 := tr_o (by omega) (by omega)
        have t3 : tr (i + 1) i = i + 1 := tr_l (i := i + 1) (by omega)
        have t4 : tr (i + 1) (i + 1) = i := tr_r (i := i + 1) (by omega)
        have d1 : ds (fun k => f (tr i k)) (i + 1) := by
          unfold ds; show f (tr i (i + 1)) < f (tr i (i + 1 - 1))
          rw [t2, show i + 1 - 1 = i by omega, tr_r i1]; omega
        have d2 : ds (fun k => f (tr i (tr (i + 1) k))) i := by
          unfold ds; show f (tr i (tr (i + 1) i)) < f (tr i (tr (i + 1) (i - 1)))
          rw [t3, t2, t1, tr_l i1]; omega
        have d3 : ds (fun k => f (tr (i + 1) k)) i := by
          unfold ds; show f (tr (i + 1) i) < f (tr (i + 1) (i - 1))
          rw [t3, t1]; omega
        have d4 : ds (fun k => f (tr (i + 1) (tr i k))) (i + 1) := by
          unfold ds; show f (tr (i + 1) (tr i (i + 1))) < f (tr (i + 1) (tr i (i + 1 - 1)))
          rw [t2, t4, show i + 1 - 1 = i by omega, tr_r i1, t1]; omega
        obtain ⟨v, v1, v2⟩ := ((hp.ex i1 i2).ex j1 j2).wordAt i1 i2 d2
        have v3 : Wd N (fun k => f (tr i k)) ((i + 1) :: i :: v) := .cons j1 j2 d1 v2
        have v4 : Wd N (fun k => f (tr (i + 1) (tr i k))) ((i + 1) :: v) := .cons j1 j2 d4 (by
          have : (fun k => f (tr (i + 1) (tr i (tr (i + 1) k)))) = (fun k => f (tr i (tr (i + 1) (tr i k)))) := by funext k; rw [tr_braid i1]
          rw [this]; exact v1)
        have v5 : Wd N (fun k => f (tr (i + 1) k)) (i :: (i + 1) :: v) := .cons i1 i2 d3 v4
        have q1 := ih l1 i4 v3
        have q2 := ih l2 j4 v5
        exact (q1.cons i).trans ((PE.braid [] v i1 j2).trans (q2.cons (i + 1)).symm)
    rcases Nat.lt_trichotomy i j with hij | hij | hij
    · exact key i1 i2 i3 i4 j1 j2 j3 j4 (by omega) (by omega) hij
    · subst hij; exact (ih (by omega) i4 j4).cons i
    · exact (key j1 j2 j3 j4 i1 i2 i3 i4 (by omega) (by omega) hij).symm
theorem Wd.uniq {w w' : List Nat} (h : Wd N f w) (h' : Wd N f w') : PE N w w' := matsumoto _ rfl h h'
/-- A letter at the end. -/
theorem Wd.snoc {w : List Nat} (h : Wd N f w) : ∀ {g : Nat → Nat}, Pm N f g → ∀ {i : Nat}, 1 ≤ i → i < N → g (i - 1) < g i → Wd N (fun k => tr i (f k)) (w ++ [i]) := by
  induction h with
  | nil =>
    intro g hg i h1 h2 h3
    refine .cons h1 h2 (by unfold ds; show tr i i < tr i (i - 1); rw [tr_l h1, tr_r h1]; omega) ?_
    have : (fun k => tr i (tr i k)) = fun k => k := by funext k; exact tr_tr h1 k
    rw [this]; exact .nil
  | @cons f j w j1 j2 j3 j4 ih =>
    intro g hg i h1 h2 h3
    have j3' : f j < f (j - 1) := j3
    refine .cons j1 j2 ?_ (ih (hg.ex j1 j2) h1 h2 ?_)
    · refine tr_lt h1 j3' fun ⟨a, b⟩ => ?_
      have e1 : g i = j - 1 := by rw [← b, hg.gf]
      have e2 : g (i - 1) = j := by rw [show i - 1 = f j by omega, hg.gf]
      omega
    · refine tr_lt j1 h3 fun ⟨a, b⟩ => ?_
      have e1 : f j = i := by rw [← b, hg.fg]
      have e2 : f (j - 1) = i - 1 := by rw [show j - 1 = g (i - 1) by omega, hg.fg]
      omega
end
end Gar
end Go.Proofs.Ytkjpldmelafooaa

/- Words that are equal as braids; the half twist; the words of normal forms. -/
set_option linter.unusedVariables false
set_option linter.unusedSimpArgs false
namespace Go.Proofs.Ytkjpldmelafooaa
namespace Gar
/-- Words that are equal as braids on N strands. -/
inductive BE (N : Nat) : List Int → List Int → Prop
  | refl (w) : BE N w w
  | symm {u v} : BE N u v → BE N v u
  | trans {u v w} : BE N u v → BE N v w → BE N u w
  | far (a b) {i j : Nat} : 1 ≤ i → i < N → 1 ≤ j → j < N → i + 1 < j → BE N (a ++ (i : Int) :: (j : Int) :: b) (a ++ (j : Int) :: (i : Int) :: b)
  | braid (a b) {i : Nat} : 1 ≤ i → i + 1 < N → BE N (a ++ (i : Int) :: ((i + 1 : Nat) : Int) :: (i : Int) :: b) (a ++ ((i + 1 : Nat) : Int) :: (i : Int) :: ((i + 1 : Nat) : Int) :: b)
  | pn (a b) {i : Nat} : 1 ≤ i → i < N → BE N (a ++ (i : Int) :: (-(i : Int)) :: b) (a ++ b)
  | np (a b) {i : Nat} : 1 ≤ i → i < N → BE N (a ++ (-(i : Int)) :: (i : Int) :: b) (a ++ b)
def pos (w : List Nat) : List Int := w.map fun (i : Nat) => (i : Int)
theorem pos_app (u v : List Nat) : pos (u ++ v) = pos u ++ pos v := List.map_append
section
variable {N : Nat}
theorem BE.app {u v : List Int} (h : BE N u v) (a b : List Int) : BE N (a ++ u ++ b) (a ++ v ++ b) := by
  induction h with
  | refl w => exact .refl _
  | symm _ ih => exact ih.symm
  | trans _ _ h1 h2 => exact h1.trans h2
  | far c d h1 h2 h3 h4 h5 =>
    have := BE.far (N := N) (a ++ c) (d ++ b) h1 h2 h3 h4 h5
    simpa [List.append_assoc] using this
  | braid c d h1 h2 =>
    have := BE.braid (N := N) (a ++ c) (d ++ b) h1 h2
    simpa [List.append_assoc] using this
  | pn c d h1 h2 =>
    have := BE.pn (N := N) (a ++ c) (d ++ b) h1 h2
    simpa [List.append_assoc] using this
  | np c d h1 h2 =>
    have := BE.np (N := N) (a ++ c) (d ++ b) h1 h2
    simpa [List.append_assoc] using this
theorem BE.left {u v : List Int} (h : BE N u v) (a : List Int) : BE N (a ++ u) (a ++ v) := by
  have := h.app a []; simpa using this
theorem BE.right {u v : List Int} (h : BE N u v) (b : List Int) : BE N (u ++ b) (v ++ b) := by
  have := h.app [] b; simpa using this
theorem BE.mul {u v u' v' : List Int} (h : BE N u v) (h' : BE N u' v') : BE N (u ++ u') (v ++ v') := (h.right u').trans (h'.left v)
theorem BE.of {u v : List Int} (h : u = v) : BE N u v := h ▸ .refl _
theorem PE.be {u v : List Nat} (h : PE N u v) : BE N (pos u) (pos v) := by
  induction h with
  | refl w => exact .refl _
  | symm _ ih => exact ih.symm
  | trans _ _ h1 h2 => exact h1.trans h2
  | far c d h1 h2 h3 h4 h5 =>
    have := BE.far (N := N) (pos c) (pos d) h1 h2 h3 h4 h5
    simpa [pos] using this
  | braid c d h1 h2 =>
    have := BE.braid (N := N) (pos c) (pos d) h1 h2
    simpa [pos] using this
/-- The inverse word. -/
def neg (w : List Int) : List Int := (w.map fun x => -x).reverse
theorem neg_app (u v : List Int) : neg (u ++ v) = neg v ++ neg u := by simp [neg]
theorem neg_neg (u : List Int) : neg (neg u) = u := by
  simp only [neg, List.map_reverse, List.reverse_reverse, List.map_map]
  conv => rhs; rw [← List.map_id' u]
  apply List.map_congr_left
  intro x _
  show - -x = x
  omega
/-- Words with letters of N strands. -/
def Rg (N : Nat) (w : List Int) : Prop := ∀ x ∈ w, x ≠ 0 ∧ -(N : Int) < x ∧ x < N
theorem Rg.app {u v : List Int} (h : Rg N u) (k : Rg N v) : Rg N (u ++ v) := fun x hx => by
  rcases List.mem_append.1 hx with h1 | h1
  · exact h x h1
  · exact k x h1
theorem Rg.neg {u : List Int} (h : Rg N u) : Rg N (neg u) := fun x hx => by
  simp only [Gar.neg, List.mem_reverse, List.mem_map] at hx
  obtain ⟨y, hy, rfl⟩ := hx
  have := h y hy; omega
theorem Rg.pos {w : List Nat} (h : ∀ i ∈ w, 1 ≤ i ∧ i < N) : Rg N (pos w) := fun x hx => by
  simp only [Gar.pos, List.mem_map] at hx
  obtain ⟨i, hi, rfl⟩ := hx
  have := h i hi; omega
theorem BE.one {x : Int} (hx : x ≠ 0 ∧ -(N : Int) < x ∧ x < N) (a b : List Int) : BE N (a ++ x :: (-x) :: b) (a ++ b) := by
  rcases Int.lt_or_gt_of_ne hx.1 with h | h
  · have := BE.np (N := N) a b (i := (-x).toNat) (by omega) (by omega)
    rwa [show ((-x).toNat : Int) = -x by omega, Int.neg_neg] at this
  · have := BE.pn (N := N) a b (i := x.toNat) (by omega) (by omega)
    rwa [show (x.toNat : Int) = x by omega] at this
theorem BE.cancel {w : List Int} (h : Rg N w) : BE N (w ++ Gar.neg w) [] := by
  induction w with
  | nil => exact .refl _
  | cons x w ih =>
    have h1 := ih fun y hy => h y (List.mem_cons_of_mem _ hy)
    have e : (x :: w) ++ Gar.neg (x :: w) = [x] ++ (w ++ Gar.neg w) ++ [-x] := by simp [Gar.neg]
    rw [e]
    have h2 := BE.one (N := N) (h x (by simp)) [] []
    exact (h1.app [x] [-x]).trans (by simpa using h2)
theorem BE.cancel' {w : List Int} (h : Rg N w) : BE N (Gar.neg w ++ w) [] := by
  have := BE.cancel h.neg
  rwa [neg_neg] at this
theorem BE.neg {u v : List Int} (hu : Rg N u) (hv : Rg N v) (h : BE N u v) : BE N (Gar.neg u) (Gar.neg v) := by
  -- neg u = neg u v neg v = neg u u neg v = neg v
  have h1 : BE N (Gar.neg u ++ (v ++ Gar.neg v)) (Gar.neg u) := by have := (BE.cancel hv).left (Gar.neg u); simpa using this
  have h2 : BE N (Gar.neg u ++ (v ++ Gar.neg v)) (Gar.neg u ++ (u ++ Gar.neg v)) := (h.symm.right _).left _
  have h3 : BE N (Gar.neg u ++ (u ++ Gar.neg v)) (Gar.neg v) := by
    rw [← List.append_assoc]
    have := (BE.cancel' hu).right (Gar.neg v); simpa using this
  exact h1.symm.trans (h2.trans h3)
/-- One may cancel on the left. -/
theorem BE.lcan {a u v : List Int} (ha : Rg N a) (h : BE N (a ++ u) (a ++ v)) : BE N u v := by
  have h1 : ∀ w, BE N (Gar.neg a ++ (a ++ w)) w := fun w => by
    rw [← List.append_assoc]
    have := (BE.cancel' ha).right w; simpa using this
  exact (h1 u).symm.trans ((h.left _).trans (h1 v))
theorem BE.rcan {a u v : List Int} (ha : Rg N a) (h : BE N (u ++ a) (v ++ a)) : BE N u v := by
  have h1 : ∀ w, BE N ((w ++ a) ++ Gar.neg a) w := fun w => by
    rw [List.append_assoc]
    have := (BE.cancel ha).left w; simpa using this
  exact (h1 u).symm.trans ((h.right _).trans (h1 v))

/-! The half twist. -/
def dl (N k : Nat) : Nat := if k < N then N - 1 - k else k
theorem dl_dl (k : Nat) : dl N (dl N k) = k := by
  unfold dl; by_cases h : k < N
  · rw [if_pos h, if_pos (by omega)]; omega
  · rw [if_neg h, if_neg h]
theorem dl_lt {k : Nat} (h : k < N) : dl N k = N - 1 - k := if_pos h
theorem dl_pm : Pm N (dl N) (dl N) := ⟨fun k hk => if_neg (by omega), dl_dl, dl_dl⟩
theorem dl_ds {i : Nat} (h1 : 1 ≤ i) (h2 : i < N) : ds (dl N) i := by
  unfold ds; rw [dl_lt h2, dl_lt (by omega)]; omega
theorem dl_tr {i : Nat} (h1 : 1 ≤ i) (h2 : i < N) (k : Nat) : dl N (tr i k) = tr (N - i) (dl N k) := by
  by_cases e1 : k = i - 1
  · subst e1; rw [tr_l h1, dl_lt h2, dl_lt (by omega), show N - 1 - (i - 1) = N - i by omega, tr_r (by omega)]; omega
  by_cases e2 : k = i
  · subst e2; rw [tr_r h1, dl_lt h2, dl_lt (by omega), show N - 1 - k = N - k - 1 by omega, tr_l (by omega)]; omega
  rw [tr_o (by omega) e2]
  by_cases h : k < N
  · rw [dl_lt h, tr_o (by omega) (by omega)]
  · unfold dl; rw [if_neg h, tr_o (by omega) (by omega)]
/-- Seen from the other side. -/
def tn (N : Nat) (f : Nat → Nat) : Nat → Nat := fun k => dl N (f (dl N k))
theorem tn_tn (f : Nat → Nat) : tn N (tn N f) = f := by funext k; unfold tn; rw [dl_dl, dl_dl]
theorem Pm.tn {f g : Nat → Nat} (h : Pm N f g) : Pm N (tn N f) (tn N g) := ⟨fun k hk => by
  unfold Gar.tn; rw [dl_pm.fix k hk, h.fix k hk, dl_pm.fix k hk], fun k => by unfold Gar.tn; rw [dl_dl, h.gf, dl_dl], fun k => by unfold Gar.tn; rw [dl_dl, h.fg, dl_dl]⟩
def tw (N : Nat) (w : List Nat) : List Nat := w.map fun i => N - i
theorem tw_tw {w : List Nat} (h : ∀ i ∈ w, 1 ≤ i ∧ i < N) : tw N (tw N w) = w := by
  unfold tw; rw [List.map_map]
  conv => rhs; rw [← List.map_id' w]
  apply List.map_congr_left
  intro i hi
  have := h i hi
  show N - (N - i) = i
  omega
theorem tw_rng {w : List Nat} (h : ∀ i ∈ w, 1 ≤ i ∧ i < N) : ∀ i ∈ tw N w, 1 ≤ i ∧ i < N := by
  intro i hi
  simp only [tw, List.mem_map] at hi
  obtain ⟨j, hj, rfl⟩ := hi
  have := h j hj; omega
theorem Wd.tn {f : Nat → Nat} {w : List Nat} (h : Wd N f w) : Wd N (tn N f) (tw N w) := by
  induction h with
  | nil =>
    have : Gar.tn N (fun k => k) = fun k => k := by funext k; unfold Gar.tn; exact dl_dl k
    rw [this]; exact .nil
  | @cons f i w h1 h2 h3 h4 ih =>
    refine .cons (show 1 ≤ N - i by omega) (show N - i < N by omega) ?_ ?_
    · have hp := (Wd.cons h1 h2 h3 h4).pm
      obtain ⟨g, hg⟩ := hp
      have a1 := hg.lt h2; have a2 := hg.lt (show i - 1 < N by omega)
      have h3' : f i < f (i - 1) := h3
      unfold ds
      show dl N (f (dl N (N - i))) < dl N (f (dl N (N - i - 1)))
      rw [dl_lt (show N - i < N by omega), dl_lt (show N - i - 1 < N by omega), show N - 1 - (N - i) = i - 1 by omega, show N - 1 - (N - i - 1) = i by omega, dl_lt a1, dl_lt a2]
      omega
    · have : (fun k => Gar.tn N f (tr (N - i) k)) = Gar.tn N (fun k => f (tr i k)) := by
        funext k
        show dl N (f (dl N (tr (N - i) k))) = dl N (f (tr i (dl N k)))
        rw [dl_tr (by omega) (by omega), show N - (N - i) = i by omega]
      rw [this]; exact ih
variable {H : List Nat} (hH : Wd N (dl N) H)
include hH
theorem slide1 {i : Nat} (h1 : 1 ≤ i) (h2 : i < N) : PE N (i :: H) (H ++ [N - i]) := by
  obtain ⟨v, v1, v2⟩ := (dl_pm (N := N)).wordAt h1 h2 (dl_ds h1 h2)
  have hp := (dl_pm (N := N)).ex h1 h2
  have v3 := v1.snoc hp (i := N - i) (by omega) (by omega) (by
    show tr i (dl N (N - i - 1)) < tr i (dl N (N - i))
    rw [dl_lt (by omega), dl_lt (by omega), show N - 1 - (N - i - 1) = i by omega, show N - 1 - (N - i) = i - 1 by omega, tr_r h1, tr_l h1]; omega)
  have e : (fun k => tr (N - i) (dl N (tr i k))) = dl N := by
    funext k; rw [dl_tr h1 h2, tr_tr (by omega)]
  rw [e] at v3
  have q1 := (hH.uniq v3).cons i
  have q2 := (v2.uniq hH).app [] [N - i]
  simp only [List.nil_append] at q2
  exact q1.trans q2
theorem slide {w : List Nat} (h : ∀ i ∈ w, 1 ≤ i ∧ i < N) : PE N (w ++ H) (H ++ tw N w) := by
  induction w with
  | nil => simp [tw]; exact .refl _
  | cons i w ih =>
    have h1 := (ih fun j hj => h j (List.mem_cons_of_mem _ hj)).cons i
    have h2 := (slide1 hH (h i (by simp)).1 (h i (by simp)).2).app [] (tw N w)
    simp only [List.nil_append, List.cons_append, List.append_assoc] at h1 h2 ⊢
    exact h1.trans h2
theorem Hrg : Rg N (pos H) := Rg.pos hH.rng
/-- The positive braid that is left of the half twist without a letter at its end. -/
theorem negX {i : Nat} (h1 : 1 ≤ i) (h2 : i < N) {X : List Nat} (hX : Wd N (fun k => dl N (tr (N - i) k)) X) : BE N [-(i : Int)] (neg (pos H) ++ pos X) := by
  have hp := (dl_pm (N := N)).ex (i := N - i) (by omega) (by omega)
  have v := hX.snoc hp (i := i) h1 h2 (by
    show tr (N - i) (dl N (i - 1)) < tr (N - i) (dl N i)
    rw [dl_lt (by omega), dl_lt h2, show N - 1 - (i - 1) = N - i by omega, show N - 1 - i = N - i - 1 by omega, tr_r (by omega), tr_l (by omega)]; omega)
  have e : (fun k => tr i (dl N (tr (N - i) k))) = dl N := by
    funext k; rw [dl_tr (by omega) (by omega), show N - (N - i) = i by omega, tr_tr h1]
  rw [e] at v
  have q := (v.uniq hH).be
  rw [pos_app] at q
  -- X i = H
  have q1 : BE N (pos X) (pos H ++ [-(i : Int)]) := by
    have a := q.right [-(i : Int)]
    have b := BE.pn (N := N) (pos X) [] h1 h2
    rw [List.append_nil] at b
    refine b.symm.trans ?_
    simpa [pos] using a
  have q2 := q1.left (neg (pos H))
  have q3 := (BE.cancel' (Hrg hH)).right [-(i : Int)]
  rw [List.append_assoc, List.nil_append] at q3
  exact (q2.trans q3).symm
omit hH
/-- Powers of the half twist. -/
def pwn (u : List Int) : Nat → List Int
  | 0 => []
  | n + 1 => pwn u n ++ u
def pw (H : List Nat) (p : Int) : List Int := if 0 ≤ p then pwn (pos H) p.toNat else pwn (neg (pos H)) (-p).toNat
theorem pwn_rg {u : List Int} (h : Rg N u) : ∀ n, Rg N (pwn u n)
  | 0 => fun x hx => by simp [pwn] at hx
  | n + 1 => (pwn_rg h n).app h
include hH
theorem pw_rg (p : Int) : Rg N (pw H p) := by
  unfold pw; split
  · exact pwn_rg (Hrg hH) _
  · exact pwn_rg (Hrg hH).neg _
theorem pw_up (p : Int) : BE N (pw H (p + 1)) (pw H p ++ pos H) := by
  unfold pw
  by_cases h : 0 ≤ p
  · rw [if_pos (by omega), if_pos h, show (p + 1).toNat = p.toNat + 1 by omega]; exact .refl _
  · rw [if_neg h, show (-p).toNat = (-(p + 1)).toNat + 1 by omega]
    have e : ∀ m, BE N (pwn (neg (pos H)) m) (pwn (neg (pos H)) (m + 1) ++ pos H) := fun m => by
      show BE N _ (pwn (neg (pos H)) m ++ neg (pos H) ++ pos H)
      rw [List.append_assoc]
      have := (BE.cancel' (Hrg hH)).left (pwn (neg (pos H)) m)
      rw [List.append_nil] at this
      exact this.symm
    by_cases h1 : 0 ≤ p + 1
    · obtain rfl : p = -1 := by omega
      exact e 0
    · rw [if_neg h1]; exact e _
theorem pw_down (p : Int) : BE N (pw H (p - 1)) (pw H p ++ neg (pos H)) := by
  have h1 := (pw_up hH (p - 1)).right (neg (pos H))
  rw [show p - 1 + 1 = p by omega, List.append_assoc] at h1
  have h2 := (BE.cancel (Hrg hH)).left (pw H (p - 1))
  rw [List.append_nil] at h2
  exact (h1.trans h2).symm
omit hH
/-! The words of lists of permutations. -/
inductive Wl (N : Nat) : List (Nat → Nat) → List Nat → Prop
  | nil : Wl N [] []
  | cons {f fs w v} : Wd N f w → Wl N fs v → Wl N (f :: fs) (w ++ v)
theorem Wl.app {fs gs : List (Nat → Nat)} {u v : List Nat} (h : Wl N fs u) (k : Wl N gs v) : Wl N (fs ++ gs) (u ++ v) := by
  induction h with
  | nil => exact k
  | cons h1 _ ih => rw [List.cons_append, List.append_assoc]; exact .cons h1 ih
theorem Wl.split {fs gs : List (Nat → Nat)} {w : List Nat} (h : Wl N (fs ++ gs) w) : ∃ u v, w = u ++ v ∧ Wl N fs u ∧ Wl N gs v := by
  induction fs generalizing w with
  | nil => exact ⟨[], w, rfl, .nil, h⟩
  | cons f fs ih =>
    cases h with
    | @cons _ _ w1 v1 h1 h2 =>
    obtain ⟨u, v, rfl, h3, h4⟩ := ih h2
    exact ⟨w1 ++ u, v, by rw [List.append_assoc], .cons h1 h3, h4⟩
theorem Wl.uniq {fs : List (Nat → Nat)} {u v : List Nat} (h : Wl N fs u) : ∀ {v}, Wl N fs v → PE N u v := by
  induction h with
  | nil => intro v k; cases k; exact .refl _
  | cons h1 _ ih => intro v k; cases k with | cons k1 k2 => exact (h1.uniq k1).mul (ih k2)
theorem Wl.rng {fs : List (Nat → Nat)} {u : List Nat} (h : Wl N fs u) : ∀ i ∈ u, 1 ≤ i ∧ i < N := by
  induction h with
  | nil => simp
  | cons h1 _ ih =>
    intro i hi
    rcases List.mem_append.1 hi with h2 | h2
    · exact h1.rng i h2
    · exact ih i h2
theorem Wl.pm {fs : List (Nat → Nat)} {u : List Nat} (h : Wl N fs u) : ∀ f ∈ fs, ∃ g, Pm N f g := by
  induction h with
  | nil => simp
  | cons h1 _ ih =>
    intro f hf
    rcases List.mem_cons.1 hf with rfl | hf
    · exact h1.pm
    · exact ih f hf
theorem Wl.tn {fs : List (Nat → Nat)} {u : List Nat} (h : Wl N fs u) : Wl N (fs.map (tn N)) (tw N u) := by
  induction h with
  | nil => exact .nil
  | cons h1 _ ih =>
    unfold tw at ih ⊢
    rw [List.map_append]; exact .cons h1.tn ih
theorem exists_Wl {fs : List (Nat → Nat)} (h : ∀ f ∈ fs, ∃ g, Pm N f g) : ∃ u, Wl N fs u := by
  induction fs with
  | nil => exact ⟨[], .nil⟩
  | cons f fs ih =>
    obtain ⟨g, hg⟩ := h f (by simp)
    obtain ⟨w, hw⟩ := hg.word
    obtain ⟨v, hv⟩ := ih fun k hk => h k (by simp [hk])
    exact ⟨_, .cons hw hv⟩
/-- b is the braid with a power of the half twist and simple factors. -/
def NS (N : Nat) (H : List Nat) (p : Int) (fs : List (Nat → Nat)) (b : List Int) : Prop := ∃ v, Wl N fs v ∧ BE N b (pw H p ++ pos v)
theorem NS.nil : NS N H 0 [] [] := ⟨[], .nil, .refl _⟩
theorem wd_tr {i : Nat} (h1 : 1 ≤ i) (h2 : i < N) : Wd N (fun k => tr i k) [i] := by
  refine .cons h1 h2 (by unfold ds; show tr i i < tr i (i - 1); rw [tr_l h1, tr_r h1]; omega) ?_
  have : (fun k => tr i (tr i k)) = fun k => k := by funext k; exact tr_tr h1 k
  rw [this]; exact .nil
theorem NS.up {p : Int} {fs : List (Nat → Nat)} {b : List Int} (h : NS N H p fs b) {i : Nat} (h1 : 1 ≤ i) (h2 : i < N) : NS N H p (fs ++ [fun k => tr i k]) (b ++ [(i : Int)]) := by
  obtain ⟨v, h3, h4⟩ := h
  refine ⟨v ++ ([i] ++ []), h3.app (.cons (wd_tr h1 h2) .nil), ?_⟩
  rw [pos_app, ← List.append_assoc]
  exact h4.right _
theorem NS.down (hH : Wd N (dl N) H) {p : Int} {fs : List (Nat → Nat)} {b : List Int} (h : NS N H p fs b) {i : Nat} (h1 : 1 ≤ i) (h2 : i < N) : NS N H (p - 1) (fs.map (tn N) ++ [fun k => dl N (tr (N - i) k)]) (b ++ [-(i : Int)]) := by
  obtain ⟨v, h3, h4⟩ := h
  obtain ⟨X, hX, -⟩ := (dl_pm (N := N)).wordAt (i := N - i) (by omega) (by omega) (dl_ds (by omega) (by omega))
  refine ⟨tw N v ++ (X ++ []), h3.tn.app (.cons hX .nil), ?_⟩
  have q1 := (h4.right [-(i : Int)]).trans ((negX hH h1 h2 hX).left _)
  -- v neg H = neg H tw v
  have q2 := (slide hH (tw_rng h3.rng)).be
  rw [tw_tw h3.rng, pos_app, pos_app] at q2
  have q3 : BE N (pos v ++ neg (pos H)) (neg (pos H) ++ pos (tw N v)) := by
    refine BE.rcan (Hrg hH) (BE.lcan (Hrg hH) ?_)
    have a1 : BE N (pos H ++ (pos v ++ neg (pos H) ++ pos H)) (pos H ++ pos v) := by
      have := (BE.cancel' (Hrg hH)).left (pos H ++ pos v)
      simpa [List.append_assoc] using this
    have a2 : BE N (pos H ++ (neg (pos H) ++ pos (tw N v) ++ pos H)) (pos (tw N v) ++ pos H) := by
      have := (BE.cancel (Hrg hH)).right (pos (tw N v) ++ pos H)
      simpa [List.append_assoc] using this
    exact a1.trans (q2.symm.trans a2.symm)
  refine q1.trans ?_
  rw [List.append_nil, pos_app]
  have a3 := (q3.left (pw H p)).right (pos X)
  have a4 := (pw_down hH p).symm.right (pos (tw N v) ++ pos X)
  simp only [List.append_assoc] at a3 a4 ⊢
  exact a3.trans a4
theorem NS.turn {p : Int} {fs fs' : List (Nat → Nat)} {b : List Int} (h : NS N H p fs b) (k : ∀ v, Wl N fs v → ∃ v', Wl N fs' v' ∧ PE N v v') : NS N H p fs' b := by
  obtain ⟨v, h1, h2⟩ := h
  obtain ⟨v', h3, h4⟩ := k v h1
  exact ⟨v', h3, h2.trans (h4.be.left _)⟩
/-- A letter goes over to the factor before. -/
theorem move1 {f1 g1 f2 : Nat → Nat} {i : Nat} (h1 : 1 ≤ i) (h2 : i < N) (hp : Pm N f1 g1) (hd : ds f2 i) (ha : g1 (i - 1) < g1 i) (pre post : List (Nat → Nat)) {v : List Nat} (h : Wl N (pre ++ f1 :: f2 :: post) v) :
    ∃ v', Wl N (pre ++ (fun k => tr i (f1 k)) :: (fun k => f2 (tr i k)) :: post) v' ∧ PE N v v' := by
  obtain ⟨u, v, rfl, k1, k2⟩ := h.split
  cases k2 with
  | @cons _ _ w1 v1 k3 k4 =>
  cases k4 with
  | @cons _ _ w2 v2 k5 k6 =>
  obtain ⟨g2, hg2⟩ := k5.pm
  obtain ⟨w, hw1, hw2⟩ := hg2.wordAt h1 h2 hd
  refine ⟨u ++ ((w1 ++ [i]) ++ (w ++ v2)), k1.app (.cons (k3.snoc hp h1 h2 ha) (.cons hw1 k6)), ?_⟩
  have := (k5.uniq hw2).app (u ++ w1) v2
  simpa [List.append_assoc] using this
theorem NS.dropId {p : Int} {fs : List (Nat → Nat)} {b : List Int} (h : NS N H p (fs ++ [fun k => k]) b) : NS N H p fs b := by
  obtain ⟨v, h1, h2⟩ := h
  obtain ⟨u, v, rfl, k1, k2⟩ := h1.split
  cases k2 with
  | @cons _ _ w1 v1 k3 k4 =>
  cases k4
  have e : w1 = [] := by
    have := k3.len; rw [inv_id] at this; exact List.eq_nil_of_length_eq_zero this
  subst e
  exact ⟨u, k1, by simpa using h2⟩
theorem NS.twist (hH : Wd N (dl N) H) {p : Int} {fs : List (Nat → Nat)} {b : List Int} (h : NS N H p (dl N :: fs) b) : NS N H (p + 1) fs b := by
  obtain ⟨v, h1, h2⟩ := h
  cases h1 with
  | @cons _ _ w1 v1 k3 k4 =>
  refine ⟨v1, k4, h2.trans ?_⟩
  rw [pos_app, ← List.append_assoc]
  exact (((k3.uniq hH).be.left (pw H p)).trans (pw_up hH p).symm).right (pos v1)
end
end Gar
end Go.Proofs.Ytkjpldmelafooaa

/- Paths through the gaps between the punctures: how a generator turns them. -/
set_option linter.unusedVariables false
set_option linter.unusedSimpArgs false
namespace Go.Proofs.Ytkjpldmelafooaa
namespace Gar
/-! Words of gaps, up to neighbours that cancel. -/
def pushG (a : Nat) : List Nat → List Nat
  | [] => [a]
  | b :: t => if a = b then t else a :: b :: t
theorem pushG_cons (a b : Nat) (t : List Nat) : pushG a (b :: t) = if a = b then t else a :: b :: t := rfl
theorem pushG_eq (a : Nat) (t : List Nat) : pushG a (a :: t) = t := if_pos rfl
theorem pushG_ne {a b : Nat} (h : a ≠ b) (t : List Nat) : pushG a (b :: t) = a :: b :: t := if_neg h
def rd : List Nat → List Nat
  | [] => []
  | a :: l => pushG a (rd l)
/-- No two neighbours are equal. -/
def Rdc : List Nat → Prop
  | [] => True
  | [_] => True
  | a :: b :: t => a ≠ b ∧ Rdc (b :: t)
theorem Rdc.tail {a : Nat} {l : List Nat} (h : Rdc (a :: l)) : Rdc l := by
  cases l with
  | nil => trivial
  | cons b t => exact h.2
theorem Rdc.push {l : List Nat} (h : Rdc l) (a : Nat) : Rdc (pushG a l) := by
  cases l with
  | nil => trivial
  | cons b t =>
    by_cases e : a = b
    · subst e; rw [pushG_eq]; exact h.tail
    · rw [pushG_ne e]; exact ⟨e, h⟩
theorem rd_rdc (l : List Nat) : Rdc (rd l) := by
  induction l with
  | nil => trivial
  | cons a l ih => exact ih.push a
theorem rd_of {l : List Nat} (h : Rdc l) : rd l = l := by
  induction l with
  | nil => rfl
  | cons a l ih =>
    rw [rd, ih h.tail]
    cases l with
    | nil => rfl
    | cons b t => rw [pushG_ne h.1]
theorem push_push {l : List Nat} (h : Rdc l) (a : Nat) : pushG a (pushG a l) = l := by
  cases l with
  | nil => simp [pushG]
  | cons b t =>
    by_cases e : a = b
    · subst e
      rw [pushG_eq]
      cases t with
      | nil => rfl
      | cons c t => rw [pushG_ne h.1]
    · rw [pushG_ne e, pushG_eq]
theorem rd_app (u v : List Nat) : rd (u ++ v) = rd (u ++ rd v) := by
  induction u with
  | nil => simp [rd_of (rd_rdc v)]
  | cons a u ih => simp only [List.cons_append, rd, ih]
theorem rd_cancel (u v : List Nat) (a : Nat) : rd (u ++ a :: a :: v) = rd (u ++ v) := by
  rw [rd_app u (a :: a :: v), rd_app u v]
  congr 2
  exact push_push (rd_rdc v) a
/-- Equal as paths. -/
def GE (u v : List Nat) : Prop := rd u = rd v
theorem GE.refl (u) : GE u u := rfl
theorem GE.symm {u v} (h : GE u v) : GE v u := Eq.symm h
theorem GE.trans {u v w} (h : GE u v) (k : GE v w) : GE u w := Eq.trans h k
theorem GE.left {u v} (h : GE u v) (a : List Nat) : GE (a ++ u) (a ++ v) := by unfold GE at *; rw [rd_app a u, rd_app a v, h]
theorem rd_rdapp (u v : List Nat) : rd (rd u ++ v) = rd (u ++ v) := by
  induction u with
  | nil => rfl
  | cons a u ih =>
    simp only [rd, List.cons_append]
    rw [← ih]
    have hu := rd_rdc u
    generalize rd u = w at hu
    cases w with
    | nil => rfl
    | cons b t =>
      by_cases e : a = b
      · subst e
        rw [pushG_eq]
        simp only [List.cons_append, rd]
        exact (push_push (rd_rdc _) a).symm
      · rw [pushG_ne e]; rfl
theorem GE.right {u v} (h : GE u v) (a : List Nat) : GE (u ++ a) (v ++ a) := by unfold GE at *; rw [← rd_rdapp u a, ← rd_rdapp v a, h]
theorem GE.rd (u) : GE (rd u) u := rd_of (rd_rdc u)
theorem GE.cancel (u v : List Nat) (a : Nat) : GE (u ++ a :: a :: v) (u ++ v) := rd_cancel u v a
theorem GE.app {u v u' v'} (h : GE u v) (k : GE u' v') : GE (u ++ u') (v ++ v') := (h.right u').trans (k.left v)

/-! How letters turn gaps; e tells whether the gap is crossed downwards. -/
def img (x : Int) (e : Bool) (h : Nat) : List Nat :=
  if h = x.natAbs then (if (decide (0 < x) == e) = true then [h - 1, h, h + 1] else [h + 1, h, h - 1]) else [h]
def sub (x : Int) : Bool → List Nat → List Nat
  | _, [] => []
  | e, h :: t => img x e h ++ sub x (!e) t
def par (e : Bool) (n : Nat) : Bool := if n % 2 = 0 then e else !e
theorem par_succ (e : Bool) (n : Nat) : par e (n + 1) = par (!e) n := by
  unfold par
  by_cases h : n % 2 = 0
  · rw [if_pos h, if_neg (by omega)]
  · rw [if_neg h, if_pos (by omega), Bool.not_not]
theorem sub_app (x : Int) (e : Bool) (u v : List Nat) : sub x e (u ++ v) = sub x e u ++ sub x (par e u.length) v := by
  induction u generalizing e with
  | nil => simp [sub, par]
  | cons h t ih => simp only [List.cons_append, sub, ih, List.length_cons, par_succ, List.append_assoc]
theorem img_len (x : Int) (e : Bool) (h : Nat) : (img x e h).length % 2 = 1 := by
  unfold img; split
  · split <;> simp
  · simp
theorem sub_len (x : Int) (e : Bool) (u : List Nat) : (sub x e u).length % 2 = u.length % 2 := by
  induction u generalizing e with
  | nil => rfl
  | cons h t ih => simp only [sub, List.length_append, List.length_cons]; have := ih (!e); have := img_len x e h; omega
theorem par_eq {e : Bool} {m n : Nat} (h : m % 2 = n % 2) : par e m = par e n := by unfold par; rw [h]
theorem img_cancel (x : Int) (e : Bool) (h : Nat) (v : List Nat) : GE (img x e h ++ (img x (!e) h ++ v)) v := by
  unfold img
  by_cases hx : h = x.natAbs
  · simp only [hx, if_true]
    generalize decide (0 < x) = d
    generalize x.natAbs = i
    have key : ∀ a b c : Nat, GE ([a, b, c] ++ ([c, b, a] ++ v)) v := fun a b c => by
      have h1 := GE.cancel [a, b] ([b, a] ++ v) c
      have h2 := GE.cancel [a] ([a] ++ v) b
      have h3 := GE.cancel [] v a
      exact h1.trans (h2.trans h3)
    cases d <;> cases e <;> exact key _ _ _
  · simp only [hx, if_false]
    exact GE.cancel [] v h
theorem sub_cancel (x : Int) (e : Bool) (u v : List Nat) (a : Nat) : GE (sub x e (u ++ a :: a :: v)) (sub x e (u ++ v)) := by
  rw [sub_app, sub_app]
  refine GE.left ?_ _
  simp only [sub, Bool.not_not]
  exact img_cancel x _ a _
theorem sub_push (x : Int) (e : Bool) (a : Nat) (l : List Nat) : GE (sub x e (pushG a l)) (sub x e (a :: l)) := by
  cases l with
  | nil => exact .refl _
  | cons b t =>
    by_cases h : a = b
    · subst h; rw [pushG_eq]; exact (sub_cancel x e [] t a).symm
    · rw [pushG_ne h]; exact .refl _
theorem sub_rd (x : Int) (e : Bool) (u : List Nat) : GE (sub x e (rd u)) (sub x e u) := by
  induction u generalizing e with
  | nil => exact .refl _
  | cons a u ih =>
    rw [rd]
    refine (sub_push x e a (rd u)).trans ?_
    simp only [sub]
    exact (ih (!e)).left _
theorem rd_len (u : List Nat) : (rd u).length % 2 = u.length % 2 := by
  induction u with
  | nil => rfl
  | cons a u ih =>
    rw [rd, List.length_cons]
    generalize rd u = w at ih
    cases w with
    | nil => simp [pushG] at ih ⊢; omega
    | cons b t => rw [pushG_cons]; split <;> simp at ih ⊢ <;> omega
theorem GE.len {u v : List Nat} (h : GE u v) : u.length % 2 = v.length % 2 := by
  have h1 := rd_len u; have h2 := rd_len v
  unfold GE at h; rw [h] at h1; omega
theorem sub_ge (x : Int) (e : Bool) {u v : List Nat} (h : GE u v) : GE (sub x e u) (sub x e v) := by
  have h1 := sub_rd x e u; have h2 := sub_rd x e v
  unfold GE at h; rw [h] at h1
  exact h1.symm.trans h2
/-- The inverse letter. -/
theorem sub_inv {x : Int} (hx : x ≠ 0) (e : Bool) (u : List Nat) : GE (sub (-x) e (sub x e u)) u := by
  induction u generalizing e with
  | nil => exact .refl _
  | cons h t ih =>
    simp only [sub]
    rw [sub_app]
    have hl := img_len x e h
    have hp : par e (img x e h).length = !e := by unfold par; rw [if_neg (by omega)]
    rw [hp]
    show GE _ ([h] ++ t)
    refine GE.app ?_ (ih (!e))
    by_cases hh : h = x.natAbs
    · have h1 : 1 ≤ x.natAbs := by omega
      subst hh
      have n1 : ∀ k, k ≠ x.natAbs → ∀ e', img (-x) e' k = [k] := fun k hk e' => by unfold img; rw [if_neg (by rw [Int.natAbs_neg]; exact hk)]
      have m1 := n1 (x.natAbs - 1) (by omega)
      have m2 := n1 (x.natAbs + 1) (by omega)
      have key : ∀ a b c : Nat, GE (a :: a :: b :: c :: c :: []) [b] := fun a b c => (GE.cancel [] [b, c, c] a).trans (GE.cancel [b] [] c)
      have two : ∀ d : Bool, decide (0 < x) = d → decide (0 < -x) = !d → GE (sub (-x) e (img x e x.natAbs)) [x.natAbs] := fun d d1 d2 => by
        have p1 : ∀ e', img x e' x.natAbs = if (d == e') = true then [x.natAbs - 1, x.natAbs, x.natAbs + 1] else [x.natAbs + 1, x.natAbs, x.natAbs - 1] := fun e' => by
          unfold img; rw [if_pos rfl, d1]
        have p2 : ∀ e', img (-x) e' x.natAbs = if ((!d) == e') = true then [x.natAbs - 1, x.natAbs, x.natAbs + 1] else [x.natAbs + 1, x.natAbs, x.natAbs - 1] := fun e' => by
          unfold img; rw [Int.natAbs_neg, if_pos rfl, d2]
        cases d <;> cases e
        · have a1 : img x false x.natAbs = [x.natAbs - 1, x.natAbs, x.natAbs + 1] := p1 false
          have a2 : img (-x) true x.natAbs = [x.natAbs - 1, x.natAbs, x.natAbs + 1] := p2 true
          rw [a1]; simp only [sub, m1, m2, a2, Bool.not_false, Bool.not_true, List.cons_append, List.nil_append]; exact key _ _ _
        · have a1 : img x true x.natAbs = [x.natAbs + 1, x.natAbs, x.natAbs - 1] := p1 true
          have a2 : img (-x) false x.natAbs = [x.natAbs + 1, x.natAbs, x.natAbs - 1] := p2 false
          rw [a1]; simp only [sub, m1, m2, a2, Bool.not_false, Bool.not_true, List.cons_append, List.nil_append]; exact key _ _ _
        · have a1 : img x false x.natAbs = [x.natAbs + 1, x.natAbs, x.natAbs - 1] := p1 false
          have a2 : img (-x) true x.natAbs = [x.natAbs + 1, x.natAbs, x.natAbs - 1] := p2 true
          rw [a1]; simp only [sub, m1, m2, a2, Bool.not_false, Bool.not_true, List.cons_append, List.nil_append]; exact key _ _ _
        · have a1 : img x true x.natAbs = [x.natAbs - 1, x.natAbs, x.natAbs + 1] := p1 true
          have a2 : img (-x) false x.natAbs = [x.natAbs - 1, x.natAbs, x.natAbs + 1] := p2 false
          rw [a1]; simp only [sub, m1, m2, a2, Bool.not_false, Bool.not_true, List.cons_append, List.nil_append]; exact key _ _ _
      rcases Int.lt_or_gt_of_ne hx with hneg | hpos
      · exact two false (decide_eq_false (by omega)) (decide_eq_true (by omega))
      · exact two true (decide_eq_true (by omega)) (decide_eq_false (by omega))
    · have e1 : img x e h = [h] := if_neg hh
      have e2 : img (-x) e h = [h] := by unfold img; rw [if_neg (by rw [Int.natAbs_neg]; exact hh)]
      rw [e1]; simp only [sub, e2]; exact .refl _
/-- The paths that the gaps become: the first letter is substituted last. -/
def act : List Int → Nat → List Nat
  | [], j => [j]
  | x :: w, j => rd (sub x true (act w j))
/-- The letters of a word, substituted into a path. -/
def subs : List Int → List Nat → List Nat
  | [], u => u
  | x :: w, u => sub x true (subs w u)
theorem subs_ge (w : List Int) {u v : List Nat} (h : GE u v) : GE (subs w u) (subs w v) := by
  induction w with
  | nil => exact h
  | cons x w ih => exact sub_ge x true ih
theorem act_ge (w : List Int) (j : Nat) : GE (act w j) (subs w [j]) := by
  induction w with
  | nil => exact .refl _
  | cons x w ih => exact (GE.rd _).trans (sub_ge x true ih)
theorem act_rdc (w : List Int) (j : Nat) : Rdc (act w j) := by
  cases w with
  | nil => trivial
  | cons x w => exact rd_rdc _
theorem act_eq {w w' : List Int} {j : Nat} (h : GE (subs w [j]) (subs w' [j])) : act w j = act w' j := by
  have := (act_ge w j).trans (h.trans (act_ge w' j).symm)
  unfold GE at this
  rwa [rd_of (act_rdc w j), rd_of (act_rdc w' j)] at this
theorem subs_app (u v : List Int) (g : List Nat) : subs (u ++ v) g = subs u (subs v g) := by
  induction u with
  | nil => rfl
  | cons x u ih => simp only [List.cons_append, subs, ih]
theorem subs_len (w : List Int) (u : List Nat) : (subs w u).length % 2 = u.length % 2 := by
  induction w with
  | nil => rfl
  | cons x w ih => rw [subs, sub_len, ih]
/-- Two words of letters that do the same to single gaps do the same to all paths. -/
def sube : List Int → Bool → List Nat → List Nat
  | [], _, u => u
  | x :: w, e, u => sub x e (sube w e u)
theorem sube_true (w : List Int) (u : List Nat) : sube w true u = subs w u := by
  induction w with
  | nil => rfl
  | cons x w ih => simp only [sube, subs, ih]
theorem sube_len (w : List Int) (e : Bool) (u : List Nat) : (sube w e u).length % 2 = u.length % 2 := by
  induction w with
  | nil => rfl
  | cons x w ih => rw [sube, sub_len, ih]
theorem sube_app (w : List Int) (e : Bool) (u v : List Nat) : sube w e (u ++ v) = sube w e u ++ sube w (par e u.length) v := by
  induction w with
  | nil => rfl
  | cons x w ih => simp only [sube, ih, sub_app]; rw [par_eq (sube_len w e u)]
theorem sube_ext {w w' : List Int} (h : ∀ e j, GE (sube w e [j]) (sube w' e [j])) (e : Bool) (u : List Nat) : GE (sube w e u) (sube w' e u) := by
  induction u generalizing e with
  | nil =>
    have : ∀ w : List Int, sube w e [] = [] := fun w => by
      induction w with
      | nil => rfl
      | cons x w ih => rw [sube, ih]; rfl
    rw [this, this]; exact .refl _
  | cons a u ih =>
    have e1 := sube_app w e [a] u
    have e2 := sube_app w' e [a] u
    simp only [List.singleton_append, List.length_singleton] at e1 e2
    rw [e1, e2]
    exact GE.app (h e a) (ih _)
theorem img_o {x : Int} {e : Bool} {h : Nat} (hh : h ≠ x.natAbs) : img x e h = [h] := if_neg hh
theorem img_p {i : Nat} (hi : 1 ≤ i) (e : Bool) : img (i : Int) e i = if e = true then [i - 1, i, i + 1] else [i + 1, i, i - 1] := by
  unfold img
  rw [if_pos (by omega), decide_eq_true (by omega : (0 : Int) < i)]
  cases e <;> rfl
theorem img_po {i h : Nat} (hh : h ≠ i) (e : Bool) : img (i : Int) e h = [h] := img_o (by omega)
theorem far_ge {i j : Nat} (h1 : 1 ≤ i) (h2 : 1 ≤ j) (h : i + 1 < j) (e : Bool) (k : Nat) : GE (sube [(i : Int), (j : Int)] e [k]) (sube [(j : Int), (i : Int)] e [k]) := by
  simp only [sube, sub, List.append_nil]
  by_cases e1 : k = i
  · subst e1
    rw [img_po (show k ≠ j by omega), img_p h1]
    cases e
    · simp only [Bool.false_eq_true, if_false, sub, List.append_nil, img_p h1, img_po (show k + 1 ≠ j by omega), img_po (show k ≠ j by omega), img_po (show k - 1 ≠ j by omega)]; exact .refl _
    · simp only [if_true, sub, List.append_nil, img_p h1, img_po (show k + 1 ≠ j by omega), img_po (show k ≠ j by omega), img_po (show k - 1 ≠ j by omega)]; exact .refl _
  by_cases e2 : k = j
  · subst e2
    rw [img_po (show k ≠ i by omega), img_p h2]
    cases e
    · simp only [Bool.false_eq_true, if_false, sub, List.append_nil, img_p h2, img_po (show k + 1 ≠ i by omega), img_po (show k ≠ i by omega), img_po (show k - 1 ≠ i by omega)]; exact .refl _
    · simp only [if_true, sub, List.append_nil, img_p h2, img_po (show k + 1 ≠ i by omega), img_po (show k ≠ i by omega), img_po (show k - 1 ≠ i by omega)]; exact .refl _
  rw [img_po e1, img_po e2]
  simp only [sub, List.append_nil, img_po e1, img_po e2]; exact .refl _
theorem braid_ge {i : Nat} (h1 : 1 ≤ i) (e : Bool) (k : Nat) : GE (sube [(i : Int), ((i + 1 : Nat) : Int), (i : Int)] e [k]) (sube [((i + 1 : Nat) : Int), (i : Int), ((i + 1 : Nat) : Int)] e [k]) := by
  simp only [sube, sub, List.append_nil]
  have a1 : ∀ e, img (i : Int) e (i - 1) = [i - 1] := fun e => img_po (by omega) e
  have a2 : ∀ e, img (i : Int) e (i + 1) = [i + 1] := fun e => img_po (by omega) e
  have a3 : ∀ e, img (i : Int) e (i + 2) = [i + 2] := fun e => img_po (by omega) e
  have b1 : ∀ e, img ((i + 1 : Nat) : Int) e (i - 1) = [i - 1] := fun e => img_po (by omega) e
  have b2 : ∀ e, img ((i + 1 : Nat) : Int) e i = [i] := fun e => img_po (by omega) e
  have b3 : ∀ e, img ((i + 1 : Nat) : Int) e (i + 2) = [i + 2] := fun e => img_po (by omega) e
  have c1 := img_p h1
  have c2 : ∀ e, img ((i + 1 : Nat) : Int) e (i + 1) = if e = true then [i, i + 1, i + 2] else [i + 2, i + 1, i] := fun e => by
    have := img_p (i := i + 1) (by omega) e
    rw [this]; rfl
  by_cases e1 : k = i
  · subst e1
    cases e
    · simp only [Bool.false_eq_true, if_false, if_true, sub, List.append_nil, a1, a2, a3, b1, b2, b3, c1, c2, Bool.not_false, Bool.not_true, List.cons_append, List.nil_append]
      exact ((GE.cancel [k + 2] [k, k - 1, k - 1, k, k + 1, k - 1] (k + 1)).trans ((GE.cancel [k + 2, k] [k, k + 1, k - 1] (k - 1)).trans (GE.cancel [k + 2] [k + 1, k - 1] k))).trans (GE.cancel [k + 2, k + 1] [k - 1] k).symm
    · simp only [Bool.false_eq_true, if_false, if_true, sub, List.append_nil, a1, a2, a3, b1, b2, b3, c1, c2, Bool.not_false, Bool.not_true, List.cons_append, List.nil_append]
      exact ((GE.cancel [k - 1, k + 1, k] [k, k + 1, k + 1, k + 2] (k - 1)).trans ((GE.cancel [k - 1, k + 1] [k + 1, k + 1, k + 2] k).trans (GE.cancel [k - 1] [k + 1, k + 2] (k + 1)))).trans (GE.cancel [k - 1] [k + 1, k + 2] k).symm
  by_cases e2 : k = i + 1
  · subst e2
    cases e
    · simp only [Bool.false_eq_true, if_false, if_true, sub, List.append_nil, a1, a2, a3, b1, b2, b3, c1, c2, Bool.not_false, Bool.not_true, List.cons_append, List.nil_append]
      exact (GE.cancel [i + 2] [i, i - 1] (i + 1)).trans ((GE.cancel [i + 2, i, i + 1] [i + 1, i, i, i - 1] (i + 2)).trans ((GE.cancel [i + 2, i] [i, i, i - 1] (i + 1)).trans (GE.cancel [i + 2] [i, i - 1] i))).symm
    · simp only [Bool.false_eq_true, if_false, if_true, sub, List.append_nil, a1, a2, a3, b1, b2, b3, c1, c2, Bool.not_false, Bool.not_true, List.cons_append, List.nil_append]
      exact (GE.cancel [i - 1, i] [i + 2] (i + 1)).trans ((GE.cancel [i - 1] [i + 1, i + 2, i + 2, i + 1, i, i + 2] i).trans ((GE.cancel [i - 1, i + 1] [i + 1, i, i + 2] (i + 2)).trans (GE.cancel [i - 1] [i, i + 2] (i + 1)))).symm
  have n1 : ∀ e, img (i : Int) e k = [k] := fun e => img_po e1 e
  have n2 : ∀ e, img ((i + 1 : Nat) : Int) e k = [k] := fun e => img_po e2 e
  simp only [n1, n2, sub, List.append_nil]; exact .refl _
theorem subs_mid {w w' : List Int} (h : ∀ e j, GE (sube w e [j]) (sube w' e [j])) (a b : List Int) (u : List Nat) : GE (subs (a ++ (w ++ b)) u) (subs (a ++ (w' ++ b)) u) := by
  rw [subs_app, subs_app, subs_app, subs_app]
  refine subs_ge a ?_
  rw [← sube_true w, ← sube_true w']
  exact sube_ext h true _
/-- Words that are equal as braids act alike. -/
theorem BE.act {N : Nat} {u v : List Int} (h : BE N u v) (j : Nat) : act u j = act v j := by
  refine act_eq ?_
  induction h with
  | refl w => exact .refl _
  | symm _ ih => exact ih.symm
  | trans _ _ h1 h2 => exact h1.trans h2
  | @far a b i k h1 h2 h3 h4 h5 => exact subs_mid (w := [(i : Int), (k : Int)]) (w' := [(k : Int), (i : Int)]) (fun e j => far_ge h1 h3 h5 e j) a b [j]
  | @braid a b i h1 h2 => exact subs_mid (w := [(i : Int), ((i + 1 : Nat) : Int), (i : Int)]) (w' := [((i + 1 : Nat) : Int), (i : Int), ((i + 1 : Nat) : Int)]) (fun e j => braid_ge h1 e j) a b [j]
  | @pn a b i h1 h2 =>
    refine subs_mid (w := [(i : Int), -(i : Int)]) (w' := []) (fun e j => ?_) a b [j]
    have := sub_inv (x := -(i : Int)) (by omega) e [j]
    rw [Int.neg_neg] at this
    exact this
  | @np a b i h1 h2 => exact subs_mid (w := [-(i : Int), (i : Int)]) (w' := []) (fun e j => sub_inv (x := (i : Int)) (by omega) e [j]) a b [j]
/-- A first letter may be taken away. -/
theorem act_lcan {x : Int} (hx : x ≠ 0) {u v : List Int} {j : Nat} (h : act (x :: u) j = act (x :: v) j) : act u j = act v j := by
  have h1 : GE (sub x true (act u j)) (sub x true (act v j)) := h
  have h2 := sub_ge (-x) true h1
  have h3 := (sub_inv hx true (act u j)).symm.trans (h2.trans (sub_inv hx true (act v j)))
  unfold GE at h3
  rwa [rd_of (act_rdc u j), rd_of (act_rdc v j)] at h3
theorem act_pre (a : List Int) {u v : List Int} {j : Nat} (h : act u j = act v j) : act (a ++ u) j = act (a ++ v) j := by
  induction a with
  | nil => exact h
  | cons x a ih => show rd (sub x true (act (a ++ u) j)) = _; rw [ih]; rfl
end Gar
end Go.Proofs.Ytkjpldmelafooaa
