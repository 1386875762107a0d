/- Joined: PGw, PGb, PGli. -/
import Derived.Test.YtkeaonceaaafcaaPBraid
/- Permutations as functions, their words, and when two words are equal as braids. -/
set_option linter.unusedVariables false
set_option linter.unusedSimpArgs false
namespace Go.Proofs.Ytkeaonceaaafcaa
namespace Gar
/-- The exchange of i - 1 and i. -/
def tr (i k : Nat) : Nat := if k + 1 = i then i else if k = i then i - 1 else k
theorem tr_tr {i : Nat} (hi : 1 ≤ i) (k : Nat) : tr i (tr i k) = k := by
  unfold tr; split <;> rename_i h1
  · rw [if_neg (by omega), if_pos rfl]; omega
  · split <;> rename_i h2
    · rw [if_pos (by omega)]; omega
    · rfl
theorem tr_l {i : Nat} (hi : 1 ≤ i) : tr i (i - 1) = i := by unfold tr; rw [if_pos (by omega)]
theorem tr_r {i : Nat} (hi : 1 ≤ i) : tr i i = i - 1 := by unfold tr; rw [if_neg (by omega), if_pos rfl]
theorem tr_o {i k : Nat} (h1 : k + 1 ≠ i) (h2 : k ≠ i) : tr i k = k := by unfold tr; rw [if_neg h1, if_neg h2]
theorem tr_lt {i a b : Nat} (hi : 1 ≤ i) (h : a < b) (hn : ¬ (a + 1 = i ∧ b = i)) : tr i a < tr i b := by
  unfold tr; split <;> split <;> (try split) <;> (try split) <;> omega
theorem tr_far {i j : Nat} (hi : 1 ≤ i) (hj : 1 ≤ j) (h : i + 1 < j ∨ j + 1 < i) (k : Nat) : tr i (tr j k) = tr j (tr i k) := by
  by_cases h1 : k = i - 1
  · subst h1; rw [tr_l hi, tr_o (i := j) (k := i - 1) (by omega) (by omega), tr_l hi, tr_o (by omega) (by omega)]
  by_cases h2 : k = i
  · subst h2; rw [tr_r hi, tr_o (i := j) (k := k) (by omega) (by omega), tr_r hi, tr_o (by omega) (by omega)]
  by_cases h3 : k = j - 1
  · subst h3; rw [tr_l hj, tr_o (i := i) (k := j - 1) (by omega) (by omega), tr_l hj, tr_o (by omega) (by omega)]
  by_cases h4 : k = j
  · subst h4; rw [tr_r hj, tr_o (i := i) (k := k) (by omega) (by omega), tr_r hj, tr_o (by omega) (by omega)]
  rw [tr_o (i := j) (k := k) (by omega) h4, tr_o (i := i) (k := k) (by omega) h2, tr_o (by omega) h4]
theorem tr_braid {i : Nat} (hi : 1 ≤ i) (k : Nat) : tr i (tr (i + 1) (tr i k)) = tr (i + 1) (tr i (tr (i + 1) k)) := by
  have e1 : tr i (i - 1) = i := tr_l hi
  have e2 : tr i i = i - 1 := tr_r hi
  have e3 : tr (i + 1) i = i + 1 := tr_l (i := i + 1) (by omega)
  have e4 : tr (i + 1) (i + 1) = i := tr_r (i := i + 1) (by omega)
  have e5 : tr (i + 1) (i - 1) = i - 1 := tr_o (by omega) (by omega)
  have e6 : tr i (i + 1) = i + 1 := tr_o (by omega) (by omega)
  by_cases h1 : k = i - 1
  · subst h1; rw [e1, e3, e6, e5, e1, e3]
  by_cases h2 : k = i
  · subst h2; rw [e2, e5, e1, e3, e6, e4]
  by_cases h3 : k = i + 1
  · subst h3; rw [e6, e4, e2, e5]
  have f1 : tr i k = k := tr_o (by omega) h2
  have f2 : tr (i + 1) k = k := tr_o (by omega) h3
  rw [f1, f2, f1, f2]
/-- A permutation of the numbers below N, with its inverse. -/
structure Pm (N : Nat) (f g : Nat → Nat) : Prop where
  fix : ∀ k, N ≤ k → f k = k
  gf : ∀ k, g (f k) = k
  fg : ∀ k, f (g k) = k
section
variable {N : Nat} {f g : Nat → Nat}
theorem Pm.symm (h : Pm N f g) : Pm N g f := ⟨fun k hk => by have := h.gf k; rwa [h.fix k hk] at this, h.fg, h.gf⟩
theorem Pm.inj (h : Pm N f g) {a b : Nat} (e : f a = f b) : a = b := by rw [← h.gf a, ← h.gf b, e]
theorem Pm.lt (h : Pm N f g) {k : Nat} (hk : k < N) : f k < N := by
  rcases Nat.lt_or_ge (f k) N with h1 | h1
  · exact h1
  · have := h.inj (h.fix _ h1); omega
theorem Pm.id (N : Nat) : Pm N (fun k => k) (fun k => k) := ⟨fun _ _ => rfl, fun _ => rfl, fun _ => rfl⟩
theorem Pm.ex (h : Pm N f g) {i : Nat} (hi : 1 ≤ i) (hn : i < N) : Pm N (fun k => f (tr i k)) (fun k => tr i (g k)) :=
  ⟨fun k hk => by rw [tr_o (by omega) (by omega)]; exact h.fix k hk, fun k => by rw [h.gf, tr_tr hi], fun k => by rw [tr_tr hi, h.fg]⟩
theorem Pm.uniq {g' : Nat → Nat} (h : Pm N f g) (h' : Pm N f g') : g = g' := by
  funext k; have := h'.gf (g k); rw [h.fg] at this; exact this.symm
/-- i is a starting letter. -/
def ds (f : Nat → Nat) (i : Nat) : Prop := f i < f (i - 1)
instance (f : Nat → Nat) (i : Nat) : Decidable (ds f i) := inferInstanceAs (Decidable (_ < _))
/-- w is a reduced word of f. -/
inductive Wd (N : Nat) : (Nat → Nat) → List Nat → Prop
  | nil : Wd N (fun k => k) []
  | cons {f : Nat → Nat} {i : Nat} {w : List Nat} : 1 ≤ i → i < N → ds f i → Wd N (fun k => f (tr i k)) w → Wd N f (i :: w)
/-- Positive words that are equal as braids. -/
inductive PE (N : Nat) : List Nat → List Nat → Prop
  | refl (w) : PE N w w
  | symm {u v} : PE N u v → PE N v u
  | trans {u v w} : PE N u v → PE N v w → PE N u w
  | far (a b) {i j : Nat} : 1 ≤ i → i < N → 1 ≤ j → j < N → i + 1 < j → PE N (a ++ i :: j :: b) (a ++ j :: i :: b)
  | braid (a b) {i : Nat} : 1 ≤ i → i + 1 < N → PE N (a ++ i :: (i + 1) :: i :: b) (a ++ (i + 1) :: i :: (i + 1) :: b)
theorem PE.app {u v : List Nat} (h : PE N u v) (a b : List Nat) : PE N (a ++ u ++ b) (a ++ v ++ b) := by
  induction h with
  | refl w => exact .refl _
  | symm _ ih => exact ih.symm
  | trans _ _ h1 h2 => exact h1.trans h2
  | far c d h1 h2 h3 h4 h5 =>
    have := PE.far (N := N) (a ++ c) (d ++ b) h1 h2 h3 h4 h5
    simpa [List.append_assoc] using this
  | braid c d h1 h2 =>
    have := PE.braid (N := N) (a ++ c) (d ++ b) h1 h2
    simpa [List.append_assoc] using this
theorem PE.cons {u v : List Nat} (h : PE N u v) (i : Nat) : PE N (i :: u) (i :: v) := by
  have := h.app [i] []; simpa using this
theorem PE.mul {u v u' v' : List Nat} (h : PE N u v) (h' : PE N u' v') : PE N (u ++ u') (v ++ v') := by
  have h1 := h.app [] u'
  have h2 := h'.app v []
  simp only [List.nil_append, List.append_nil] at h1 h2
  exact h1.trans h2
theorem PE.len {u v : List Nat} (h : PE N u v) : u.length = v.length := by
  induction h with
  | refl w => rfl
  | symm _ ih => exact ih.symm
  | trans _ _ h1 h2 => exact h1.trans h2
  | far c d h1 h2 h3 h4 h5 => simp
  | braid c d h1 h2 => simp
theorem Wd.pm {w : List Nat} (h : Wd N f w) : ∃ g, Pm N f g := by
  induction h with
  | nil => exact ⟨_, Pm.id N⟩
  | @cons f i w h1 h2 h3 h4 ih =>
    obtain ⟨g, hg⟩ := ih
    have := hg.ex h1 h2
    simp only [tr_tr h1] at this
    exact ⟨_, this⟩
theorem Wd.rng {w : List Nat} (h : Wd N f w) : ∀ i ∈ w, 1 ≤ i ∧ i < N := by
  induction h with
  | nil => simp
  | cons h1 h2 _ _ ih =>
    intro j hj
    rcases List.mem_cons.1 hj with rfl | hj
    · exact ⟨h1, h2⟩
    · exact ih j hj

/-! Inversions. -/
def inv : List Nat → Nat
  | [] => 0
  | a :: l => l.countP (fun x => decide (x < a)) + inv l
theorem inv_swap (pre post : List Nat) {a b : Nat} (h : b < a) : inv (pre ++ a :: b :: post) = inv (pre ++ b :: a :: post) + 1 := by
  induction pre with
  | nil =>
    simp only [List.nil_append, inv, List.countP_cons]
    rw [decide_eq_true h, decide_eq_false (by omega : ¬ a < b)]
    simp; omega
  | cons c pre ih =>
    simp only [List.cons_append, inv, ih]
    have : (pre ++ a :: b :: post).countP (fun x => decide (x < c)) = (pre ++ b :: a :: post).countP (fun x => decide (x < c)) := by
      simp only [List.countP_append, List.countP_cons]; omega
    omega
def lst (N : Nat) (f : Nat → Nat) : List Nat := (List.range N).map f
theorem range_split {N i : Nat} (hi : 1 ≤ i) (hn : i < N) : List.range N = List.range (i - 1) ++ (i - 1) :: i :: (List.range' (i + 1) (N - i - 1)) := by
  rw [List.range_eq_range', List.range_eq_range']
  have h1 : List.range' 0 N = List.range' 0 (i - 1) ++ List.range' (i - 1) (N - (i - 1)) := by
    rw [show N = (i - 1) + (N - (i - 1)) by omega, ← List.range'_append_1]; simp
  rw [h1]
  congr 1
  rw [show N - (i - 1) = (N - i - 1) + 1 + 1 by omega, List.range'_succ, List.range'_succ, show i - 1 + 1 = i by omega]
theorem lst_tr {i : Nat} (hi : 1 ≤ i) (hn : i < N) : ∃ pre post, lst N f = pre ++ f (i - 1) :: f i :: post ∧ lst N (fun k => f (tr i k)) = pre ++ f i :: f (i - 1) :: post := by
  refine ⟨(List.range (i - 1)).map f, (List.range' (i + 1) (N - i - 1)).map f, ?_, ?_⟩
  · unfold lst; rw [range_split hi hn]; simp
  · unfold lst; rw [range_split hi hn]
    simp only [List.map_append, List.map_cons, tr_l hi, tr_r hi]
    congr 1
    · apply List.map_congr_left
      intro k hk
      rw [List.mem_range] at hk
      rw [tr_o (by omega) (by omega)]
    · congr 2
      apply List.map_congr_left
      intro k hk
      rw [List.mem_range'_1] at hk
      rw [tr_o (by omega) (by omega)]
theorem inv_tr {i : Nat} (hi : 1 ≤ i) (hn : i < N) (hd : ds f i) : inv (lst N f) = inv (lst N (fun k => f (tr i k))) + 1 := by
  obtain ⟨pre, post, h1, h2⟩ := lst_tr (f := f) hi hn
  rw [h1, h2]; exact inv_swap pre post hd
theorem inv_id : inv (lst N (fun k => k)) = 0 := by
  have key : ∀ (m s : Nat), inv (List.range' s m) = 0 := by
    intro m
    induction m with
    | zero => intro s; rfl
    | succ m ih =>
      intro s
      rw [List.range'_succ]
      simp only [inv, ih, Nat.add_zero]
      rw [List.countP_eq_zero]
      intro x hx
      rw [List.mem_range'_1] at hx
      simp; omega
  unfold lst
  rw [List.map_id', List.range_eq_range']
  exact key N 0
theorem Wd.len {w : List Nat} (h : Wd N f w) : w.length = inv (lst N f) := by
  induction h with
  | nil => rw [inv_id]; rfl
  | cons h1 h2 h3 _ ih => rw [inv_tr h1 h2 h3, ← ih]; rfl
/-- Without starting letters it is the identity. -/
theorem Pm.noDs (h : Pm N f g) (hn : ∀ i, 1 ≤ i → i < N → ¬ ds f i) : f = fun k => k := by
  have mono : ∀ d k, k + d < N → f k + d ≤ f (k + d) := by
    intro d
    induction d with
    | zero => intro k _; exact Nat.le_refl _
    | succ d ih =>
      intro k hk
      have h1 := ih k (by omega)
      have h2 := hn (k + d + 1) (by omega) (by omega)
      unfold ds at h2
      rw [show k + d + 1 - 1 = k + d by omega] at h2
      have h3 : f (k + d) ≠ f (k + d + 1) := fun e => by have := h.inj e; omega
      rw [show k + (d + 1) = k + d + 1 by omega]
      omega
  funext k
  rcases Nat.lt_or_ge k N with hk | hk
  · have h1 := mono k 0 (by omega)
    rw [Nat.zero_add] at h1
    have h2 := mono (N - 1 - k) k (by omega)
    have h3 := h.lt (show k + (N - 1 - k) < N by omega)
    omega
  · exact h.fix k hk
theorem exists_ds (h : Pm N f g) (hne : f ≠ fun k => k) : ∃ i, 1 ≤ i ∧ i < N ∧ ds f i := by
  refine Classical.byContradiction fun hc => hne (h.noDs fun i h1 h2 h3 => hc ⟨i, h1, h2, h3⟩)
/-- Every permutation has a reduced word. -/
theorem exists_word : ∀ (m : Nat) {f g : Nat → Nat}, Pm N f g → inv (lst N f) = m → ∃ w, Wd N f w := by
  intro m
  induction m with
  | zero =>
    intro f g h hm
    by_cases hf : f = fun k => k
    · subst hf; exact ⟨[], .nil⟩
    · obtain ⟨i, h1, h2, h3⟩ := exists_ds h hf
      have := inv_tr h1 h2 h3; omega
  | succ m ih =>
    intro f g h hm
    by_cases hf : f = fun k => k
    · subst hf; rw [inv_id] at hm; omega
    · obtain ⟨i, h1, h2, h3⟩ := exists_ds h hf
      have h4 := inv_tr h1 h2 h3
      obtain ⟨w, hw⟩ := ih (h.ex h1 h2) (by omega)
      exact ⟨_, .cons h1 h2 h3 hw⟩
theorem Pm.word (h : Pm N f g) : ∃ w, Wd N f w := exists_word _ h rfl
/-- A word that begins with a given starting letter. -/
theorem Pm.wordAt (h : Pm N f g) {i : Nat} (h1 : 1 ≤ i) (h2 : i < N) (h3 : ds f i) : ∃ w, Wd N (fun k => f (tr i k)) w ∧ Wd N f (i :: w) := by
  obtain ⟨w, hw⟩ := (h.ex h1 h2).word
  exact ⟨w, hw, .cons h1 h2 h3 hw⟩
/-- MATSUMOTO: the reduced words of a permutation are equal as braids. -/
theorem matsumoto : ∀ (m : Nat) {f : Nat → Nat} {w w' : List Nat}, w.length = m → Wd N f w → Wd N f w' → PE N w w' := by
  intro m
  induction m with
  | zero =>
    intro f w w' hl h h'
    have e1 := h.len; have e2 := h'.len
    rw [List.eq_nil_of_length_eq_zero hl, List.eq_nil_of_length_eq_zero (by omega : w'.length = 0)]
    exact .refl _
  | succ m ih =>
    intro f w w' hl h h'
    have e1 := h.len; have e2 := h'.len
    obtain ⟨gf, hp⟩ := h.pm
    cases h with
    | nil => simp at hl
    | @cons _ i w1 i1 i2 i3 i4 =>
    cases h' with
    | nil => simp at e2; omega
    | @cons _ j w2 j1 j2 j3 j4 =>
    simp only [List.length_cons] at hl e1 e2
    -- the case that i is less than j
    have key : ∀ {i j : Nat} {w1 w2 : List Nat}, 1 ≤ i → i < N → ds f i → Wd N (fun k => f (tr i k)) w1 → 1 ≤ j → j < N → ds f j → Wd N (fun k => f (tr j k)) w2 → w1.length = m → w2.length = m → i < j → PE N (i :: w1) (j :: w2) := by
      intro i j w1 w2 i1 i2 i3 i4 j1 j2 j3 j4 l1 l2 hij
      by_cases hf : i + 1 < j
      · have d1 : ds (fun k => f (tr i k)) j := by
          unfold ds; show f (tr i j) < f (tr i (j - 1)); rw [tr_o (by omega) (by omega), tr_o (by omega) (by omega)]; exact j3
        have d2 : ds (fun k => f (tr j k)) i := by
          unfold ds; show f (tr j i) < f (tr j (i - 1)); rw [tr_o (by omega) (by omega), tr_o (by omega) (by omega)]; exact i3
        obtain ⟨v, v1, v2⟩ := (hp.ex i1 i2).wordAt j1 j2 d1
        have v3 : Wd N (fun k => f (tr j k)) (i :: v) := .cons i1 i2 d2 (by
          have : (fun k => f (tr j (tr i k))) = (fun k => f (tr i (tr j k))) := by funext k; rw [tr_far i1 j1 (.inl hf)]
          rw [this]; exact v1)
        have q1 := ih l1 i4 v2
        have q2 := ih l2 j4 v3
        exact (q1.cons i).trans ((PE.far [] v i1 i2 j1 j2 hf).trans (q2.cons j).symm)
      · obtain rfl : j = i + 1 := by omega
        have hi3 : f i < f (i - 1) := i3
        have hj3 : f (i + 1) < f i := j3
        have t1 : tr (i + 1) (i - 1) = i - 1 := tr_o (by omega) (by omega)
        have t2 : tr i (i + 1) = i + 1 := tr_o (by omega) (by omega)
        have t3 : tr (i + 1) i = i + 1 := tr_l (i := i + 1) (by omega)
        have t4 : tr (i + 1) (i + 1) = i := tr_r (i := i + 1) (by omega)
        have d1 : ds (fun k => f (tr i k)) (i + 1) := by
          unfold ds; show f (tr i (i + 1)) < f (tr i (i + 1 - 1))
          rw [t2, show i + 1 - 1 = i by omega, tr_r i1]; omega
        have d2 : ds (fun k => f (tr i (tr (i + 1) k))) i := by
          unfold ds; show f (tr i (tr (i + 1) i)) < f (tr i (tr (i + 1) (i - 1)))
          rw [t3, t2, t1, tr_l i1]; omega
        have d3 : ds (fun k => f (tr (i + 1) k)) i := by
          unfold ds; show f (tr (i + 1) i) < f (tr (i + 1) (i - 1))
          rw [t3, t1]; omega
        have d4 : ds (fun k => f (tr (i + 1) (tr i k))) (i + 1) := by
          unfold ds; show f (tr (i + 1) (tr i (i + 1))) < f (tr (i + 1) (tr i (i + 1 - 1)))
          rw [t2, t4, show i + 1 - 1 = i by omega, tr_r i1, t1]; omega
        obtain ⟨v, v1, v2⟩ := ((hp.ex i1 i2).ex j1 j2).wordAt i1 i2 d2
        have v3 : Wd N (fun k => f (tr i k)) ((i + 1) :: i :: v) := .cons j1 j2 d1 v2
        have v4 : Wd N (fun k => f (tr (i + 1) (tr i k))) ((i + 1) :: v) := .cons j1 j2 d4 (by
          have : (fun k => f (tr (i + 1) (tr i (tr (i + 1) k)))) = (fun k => f (tr i (tr (i + 1) (tr i k)))) := by funext k; rw [tr_braid i1]
          rw [this]; exact v1)
        have v5 : Wd N (fun k => f (tr (i + 1) k)) (i :: (i + 1) :: v) := .cons i1 i2 d3 v4
        have q1 := ih l1 i4 v3
        have q2 := ih l2 j4 v5
        exact (q1.cons i).trans ((PE.braid [] v i1 j2).trans (q2.cons (i + 1)).symm)
    rcases Nat.lt_trichotomy i j with hij | hij | hij
    · exact key i1 i2 i3 i4 j1 j2 j3 j4 (by omega) (by omega) hij
    · subst hij; exact (ih (by omega) i4 j4).cons i
    · exact (key j1 j2 j3 j4 i1 i2 i3 i4 (by omega) (by omega) hij).symm
theorem Wd.uniq {w w' : List Nat} (h : Wd N f w) (h' : Wd N f w') : PE N w w' := matsumoto _ rfl h h'
/-- A letter at the end. -/
theorem Wd.snoc {w : List Nat} (h : Wd N f w) : ∀ {g : Nat → Nat}, Pm N f g → ∀ {i : Nat}, 1 ≤ i → i < N → g (i - 1) < g i → Wd N (fun k => tr i (f k)) (w ++ [i]) := by
  induction h with
  | nil =>
    intro g hg i h1 h2 h3
    refine .cons h1 h2 (by unfold ds; show tr i i < tr i (i - 1); rw [tr_l h1, tr_r h1]; omega) ?_
    have : (fun k => tr i (tr i k)) = fun k => k := by funext k; exact tr_tr h1 k
    rw [this]; exact .nil
  | @cons f j w j1 j2 j3 j4 ih =>
    intro g hg i h1 h2 h3
    have j3' : f j < f (j - 1) := j3
    refine .cons j1 j2 ?_ (ih (hg.ex j1 j2) h1 h2 ?_)
    · refine tr_lt h1 j3' fun ⟨a, b⟩ => ?_
      have e1 : g i = j - 1 := by rw [← b, hg.gf]
      have e2 : g (i - 1) = j := by rw [show i - 1 = f j by omega, hg.gf]
      omega
    · refine tr_lt j1 h3 fun ⟨a, b⟩ => ?_
      have e1 : f j = i := by rw [← b, hg.fg]
      have e2 : f (j - 1) = i - 1 := by rw [show j - 1 = g (i - 1) by omega, hg.fg]
      omega
end
end Gar
end Go.Proofs.Ytkeaonceaaafcaa

/- Words that are equal as braids; the half twist; the words of normal forms. -/
set_option linter.unusedVariables false
set_option linter.unusedSimpArgs false
namespace Go.Proofs.Ytkeaonceaaafcaa
namespace Gar
/-- Words that are equal as braids on N strands. -/
inductive BE (N : Nat) : List Int → List Int → Prop
  | refl (w) : BE N w w
  | symm {u v} : BE N u v → BE N v u
  | trans {u v w} : BE N u v → BE N v w → BE N u w
  | far (a b) {i j : Nat} : 1 ≤ i → i < N → 1 ≤ j → j < N → i + 1 < j → BE N (a ++ (i : Int) :: (j : Int) :: b) (a ++ (j : Int) :: (i : Int) :: b)
  | braid (a b) {i : Nat} : 1 ≤ i → i + 1 < N → BE N (a ++ (i : Int) :: ((i + 1 : Nat) : Int) :: (i : Int) :: b) (a ++ ((i + 1 : Nat) : Int) :: (i : Int) :: ((i + 1 : Nat) : Int) :: b)
  | pn (a b) {i : Nat} : 1 ≤ i → i < N → BE N (a ++ (i : Int) :: (-(i : Int)) :: b) (a ++ b)
  | np (a b) {i : Nat} : 1 ≤ i → i < N → BE N (a ++ (-(i : Int)) :: (i : Int) :: b) (a ++ b)
def pos (w : List Nat) : List Int := w.map fun (i : Nat) => (i : Int)
theorem pos_app (u v : List Nat) : pos (u ++ v) = pos u ++ pos v := List.map_append
section
variable {N : Nat}
theorem BE.app {u v : List Int} (h : BE N u v) (a b : List Int) : BE N (a ++ u ++ b) (a ++ v ++ b) := by
  induction h with
  | refl w => exact .refl _
  | symm _ ih => exact ih.symm
  | trans _ _ h1 h2 => exact h1.trans h2
  | far c d h1 h2 h3 h4 h5 =>
    have := BE.far (N := N) (a ++ c) (d ++ b) h1 h2 h3 h4 h5
    simpa [List.append_assoc] using this
  | braid c d h1 h2 =>
    have := BE.braid (N := N) (a ++ c) (d ++ b) h1 h2
    simpa [List.append_assoc] using this
  | pn c d h1 h2 =>
    have := BE.pn (N := N) (a ++ c) (d ++ b) h1 h2
    simpa [List.append_assoc] using this
  | np c d h1 h2 =>
    have := BE.np (N := N) (a ++ c) (d ++ b) h1 h2
    simpa [List.append_assoc] using this
theorem BE.left {u v : List Int} (h : BE N u v) (a : List Int) : BE N (a ++ u) (a ++ v) := by
  have := h.app a []; simpa using this
theorem BE.right {u v : List Int} (h : BE N u v) (b : List Int) : BE N (u ++ b) (v ++ b) := by
  have := h.app [] b; simpa using this
theorem BE.mul {u v u' v' : List Int} (h : BE N u v) (h' : BE N u' v') : BE N (u ++ u') (v ++ v') := (h.right u').trans (h'.left v)
theorem BE.of {u v : List Int} (h : u = v) : BE N u v := h ▸ .refl _
theorem PE.be {u v : List Nat} (h : PE N u v) : BE N (pos u) (pos v) := by
  induction h with
  | refl w => exact .refl _
  | symm _ ih => exact ih.symm
  | trans _ _ h1 h2 => exact h1.trans h2
  | far c d h1 h2 h3 h4 h5 =>
    have := BE.far (N := N) (pos c) (pos d) h1 h2 h3 h4 h5
    simpa [pos] using this
  | braid c d h1 h2 =>
    have := BE.braid (N := N) (pos c) (pos d) h1 h2
    simpa [pos] using this
/-- The inverse word. -/
def neg (w : List Int) : List Int := (w.map fun x => -x).reverse
theorem neg_app (u v : List Int) : neg (u ++ v) = neg v ++ neg u := by simp [neg]
theorem neg_neg (u : List Int) : neg (neg u) = u := by
  simp only [neg, List.map_reverse, List.reverse_reverse, List.map_map]
  conv => rhs; rw [← List.map_id' u]
  apply List.map_congr_left
  intro x _
  show - -x = x
  omega
/-- Words with letters of N strands. -/
def Rg (N : Nat) (w : List Int) : Prop := ∀ x ∈ w, x ≠ 0 ∧ -(N : Int) < x ∧ x < N
theorem Rg.app {u v : List Int} (h : Rg N u) (k : Rg N v) : Rg N (u ++ v) := fun x hx => by
  rcases List.mem_append.1 hx with h1 | h1
  · exact h x h1
  · exact k x h1
theorem Rg.neg {u : List Int} (h : Rg N u) : Rg N (neg u) := fun x hx => by
  simp only [Gar.neg, List.mem_reverse, List.mem_map] at hx
  obtain ⟨y, hy, rfl⟩ := hx
  have := h y hy; omega
theorem Rg.pos {w : List Nat} (h : ∀ i ∈ w, 1 ≤ i ∧ i < N) : Rg N (pos w) := fun x hx => by
  simp only [Gar.pos, List.mem_map] at hx
  obtain ⟨i, hi, rfl⟩ := hx
  have := h i hi; omega
theorem BE.one {x : Int} (hx : x ≠ 0 ∧ -(N : Int) < x ∧ x < N) (a b : List Int) : BE N (a ++ x :: (-x) :: b) (a ++ b) := by
  rcases Int.lt_or_gt_of_ne hx.1 with h | h
  · have := BE.np (N := N) a b (i := (-x).toNat) (by omega) (by omega)
    rwa [show ((-x).toNat : Int) = -x by omega, Int.neg_neg] at this
  · have := BE.pn (N := N) a b (i := x.toNat) (by omega) (by omega)
    rwa [show (x.toNat : Int) = x by omega] at this
theorem BE.cancel {w : List Int} (h : Rg N w) : BE N (w ++ Gar.neg w) [] := by
  induction w with
  | nil => exact .refl _
  | cons x w ih =>
    have h1 := ih fun y hy => h y (List.mem_cons_of_mem _ hy)
    have e : (x :: w) ++ Gar.neg (x :: w) = [x] ++ (w ++ Gar.neg w) ++ [-x] := by simp [Gar.neg]
    rw [e]
    have h2 := BE.one (N := N) (h x (by simp)) [] []
    exact (h1.app [x] [-x]).trans (by simpa using h2)
theorem BE.cancel' {w : List Int} (h : Rg N w) : BE N (Gar.neg w ++ w) [] := by
  have := BE.cancel h.neg
  rwa [neg_neg] at this
theorem BE.neg {u v : List Int} (hu : Rg N u) (hv : Rg N v) (h : BE N u v) : BE N (Gar.neg u) (Gar.neg v) := by
  -- neg u = neg u v neg v = neg u u neg v = neg v
  have h1 : BE N (Gar.neg u ++ (v ++ Gar.neg v)) (Gar.neg u) := by have := (BE.cancel hv).left (Gar.neg u); simpa using this
  have h2 : BE N (Gar.neg u ++ (v ++ Gar.neg v)) (Gar.neg u ++ (u ++ Gar.neg v)) := (h.symm.right _).left _
  have h3 : BE N (Gar.neg u ++ (u ++ Gar.neg v)) (Gar.neg v) := by
    rw [← List.append_assoc]
    have := (BE.cancel' hu).right (Gar.neg v); simpa using this
  exact h1.symm.trans (h2.trans h3)
/-- One may cancel on the left. -/
theorem BE.lcan {a u v : List Int} (ha : Rg N a) (h : BE N (a ++ u) (a ++ v)) : BE N u v := by
  have h1 : ∀ w, BE N (Gar.neg a ++ (a ++ w)) w := fun w => by
    rw [← List.append_assoc]
    have := (BE.cancel' ha).right w; simpa using this
  exact (h1 u).symm.trans ((h.left _).trans (h1 v))
theorem BE.rcan {a u v : List Int} (ha : Rg N a) (h : BE N (u ++ a) (v ++ a)) : BE N u v := by
  have h1 : ∀ w, BE N ((w ++ a) ++ Gar.neg a) w := fun w => by
    rw [List.append_assoc]
    have := (BE.cancel ha).left w; simpa using this
  exact (h1 u).symm.trans ((h.right _).trans (h1 v))

/-! The half twist. -/
def dl (N k : Nat) : Nat := if k < N then N - 1 - k else k
theorem dl_dl (k : Nat) : dl N (dl N k) = k := by
  unfold dl; by_cases h : k < N
  · rw [if_pos h, if_pos (by omega)]; omega
  · rw [if_neg h, if_neg h]
theorem dl_lt {k : Nat} (h : k < N) : dl N k = N - 1 - k := if_pos h
theorem dl_pm : Pm N (dl N) (dl N) := ⟨fun k hk => if_neg (by omega), dl_dl, dl_dl⟩
theorem dl_ds {i : Nat} (h1 : 1 ≤ i) (h2 : i < N) : ds (dl N) i := by
  unfold ds; rw [dl_lt h2, dl_lt (by omega)]; omega
theorem dl_tr {i : Nat} (h1 : 1 ≤ i) (h2 : i < N) (k : Nat) : dl N (tr i k) = tr (N - i) (dl N k) := by
  by_cases e1 : k = i - 1
  · subst e1; rw [tr_l h1, dl_lt h2, dl_lt (by omega), show N - 1 - (i - 1) = N - i by omega, tr_r (by omega)]; omega
  by_cases e2 : k = i
  · subst e2; rw [tr_r h1, dl_lt h2, dl_lt (by omega), show N - 1 - k = N - k - 1 by omega, tr_l (by omega)]; omega
  rw [tr_o (by omega) e2]
  by_cases h : k < N
  · rw [dl_lt h, tr_o (by omega) (by omega)]
  · unfold dl; rw [if_neg h, tr_o (by omega) (by omega)]
/-- Seen from the other side. -/
def tn (N : Nat) (f : Nat → Nat) : Nat → Nat := fun k => dl N (f (dl N k))
theorem tn_tn (f : Nat → Nat) : tn N (tn N f) = f := by funext k; unfold tn; rw [dl_dl, dl_dl]
theorem Pm.tn {f g : Nat → Nat} (h : Pm N f g) : Pm N (tn N f) (tn N g) := ⟨fun k hk => by
  unfold Gar.tn; rw [dl_pm.fix k hk, h.fix k hk, dl_pm.fix k hk], fun k => by unfold Gar.tn; rw [dl_dl, h.gf, dl_dl], fun k => by unfold Gar.tn; rw [dl_dl, h.fg, dl_dl]⟩
def tw (N : Nat) (w : List Nat) : List Nat := w.map fun i => N - i
theorem tw_tw {w : List Nat} (h : ∀ i ∈ w, 1 ≤ i ∧ i < N) : tw N (tw N w) = w := by
  unfold tw; rw [List.map_map]
  conv => rhs; rw [← List.map_id' w]
  apply List.map_congr_left
  intro i hi
  have := h i hi
  show N - (N - i) = i
  omega
theorem tw_rng {w : List Nat} (h : ∀ i ∈ w, 1 ≤ i ∧ i < N) : ∀ i ∈ tw N w, 1 ≤ i ∧ i < N := by
  intro i hi
  simp only [tw, List.mem_map] at hi
  obtain ⟨j, hj, rfl⟩ := hi
  have := h j hj; omega
theorem Wd.tn {f : Nat → Nat} {w : List Nat} (h : Wd N f w) : Wd N (tn N f) (tw N w) := by
  induction h with
  | nil =>
    have : Gar.tn N (fun k => k) = fun k => k := by funext k; unfold Gar.tn; exact dl_dl k
    rw [this]; exact .nil
  | @cons f i w h1 h2 h3 h4 ih =>
    refine .cons (show 1 ≤ N - i by omega) (show N - i < N by omega) ?_ ?_
    · have hp := (Wd.cons h1 h2 h3 h4).pm
      obtain ⟨g, hg⟩ := hp
      have a1 := hg.lt h2; have a2 := hg.lt (show i - 1 < N by omega)
      have h3' : f i < f (i - 1) := h3
      unfold ds
      show dl N (f (dl N (N - i))) < dl N (f (dl N (N - i - 1)))
      rw [dl_lt (show N - i < N by omega), dl_lt (show N - i - 1 < N by omega), show N - 1 - (N - i) = i - 1 by omega, show N - 1 - (N - i - 1) = i by omega, dl_lt a1, dl_lt a2]
      omega
    · have : (fun k => Gar.tn N f (tr (N - i) k)) = Gar.tn N (fun k => f (tr i k)) := by
        funext k
        show dl N (f (dl N (tr (N - i) k))) = dl N (f (tr i (dl N k)))
        rw [dl_tr (by omega) (by omega), show N - (N - i) = i by omega]
      rw [this]; exact ih
variable {H : List Nat} (hH : Wd N (dl N) H)
include hH
theorem slide1 {i : Nat} (h1 : 1 ≤ i) (h2 : i < N) : PE N (i :: H) (H ++ [N - i]) := by
  obtain ⟨v, v1, v2⟩ := (dl_pm (N := N)).wordAt h1 h2 (dl_ds h1 h2)
  have hp := (dl_pm (N := N)).ex h1 h2
  have v3 := v1.snoc hp (i := N - i) (by omega) (by omega) (by
    show tr i (dl N (N - i - 1)) < tr i (dl N (N - i))
    rw [dl_lt (by omega), dl_lt (by omega), show N - 1 - (N - i - 1) = i by omega, show N - 1 - (N - i) = i - 1 by omega, tr_r h1, tr_l h1]; omega)
  have e : (fun k => tr (N - i) (dl N (tr i k))) = dl N := by
    funext k; rw [dl_tr h1 h2, tr_tr (by omega)]
  rw [e] at v3
  have q1 := (hH.uniq v3).cons i
  have q2 := (v2.uniq hH).app [] [N - i]
  simp only [List.nil_append] at q2
  exact q1.trans q2
theorem slide {w : List Nat} (h : ∀ i ∈ w, 1 ≤ i ∧ i < N) : PE N (w ++ H) (H ++ tw N w) := by
  induction w with
  | nil => simp [tw]; exact .refl _
  | cons i w ih =>
    have h1 := (ih fun j hj => h j (List.mem_cons_of_mem _ hj)).cons i
    have h2 := (slide1 hH (h i (by simp)).1 (h i (by simp)).2).app [] (tw N w)
    simp only [List.nil_append, List.cons_append, List.append_assoc] at h1 h2 ⊢
    exact h1.trans h2
theorem Hrg : Rg N (pos H) := Rg.pos hH.rng
/-- The positive braid that is left of the half twist without a letter at its end. -/
theorem negX {i : Nat} (h1 : 1 ≤ i) (h2 : i < N) {X : List Nat} (hX : Wd N (fun k => dl N (tr (N - i) k)) X) : BE N [-(i : Int)] (neg (pos H) ++ pos X) := by
  have hp := (dl_pm (N := N)).ex (i := N - i) (by omega) (by omega)
  have v := hX.snoc hp (i := i) h1 h2 (by
    show tr (N - i) (dl N (i - 1)) < tr (N - i) (dl N i)
    rw [dl_lt (by omega), dl_lt h2, show N - 1 - (i - 1) = N - i by omega, show N - 1 - i = N - i - 1 by omega, tr_r (by omega), tr_l (by omega)]; omega)
  have e : (fun k => tr i (dl N (tr (N - i) k))) = dl N := by
    funext k; rw [dl_tr (by omega) (by omega), show N - (N - i) = i by omega, tr_tr h1]
  rw [e] at v
  have q := (v.uniq hH).be
  rw [pos_app] at q
  -- X i = H
  have q1 : BE N (pos X) (pos H ++ [-(i : Int)]) := by
    have a := q.right [-(i : Int)]
    have b := BE.pn (N := N) (pos X) [] h1 h2
    rw [List.append_nil] at b
    refine b.symm.trans ?_
    simpa [pos] using a
  have q2 := q1.left (neg (pos H))
  have q3 := (BE.cancel' (Hrg hH)).right [-(i : Int)]
  rw [List.append_assoc, List.nil_append] at q3
  exact (q2.trans q3).symm
omit hH
/-- Powers of the half twist. -/
def pwn (u : List Int) : Nat → List Int
  | 0 => []
  | n + 1 => pwn u n ++ u
def pw (H : List Nat) (p : Int) : List Int := if 0 ≤ p then pwn (pos H) p.toNat else pwn (neg (pos H)) (-p).toNat
theorem pwn_rg {u : List Int} (h : Rg N u) : ∀ n, Rg N (pwn u n)
  | 0 => fun x hx => by simp [pwn] at hx
  | n + 1 => (pwn_rg h n).app h
include hH
theorem pw_rg (p : Int) : Rg N (pw H p) := by
  unfold pw; split
  · exact pwn_rg (Hrg hH) _
  · exact pwn_rg (Hrg hH).neg _
theorem pw_up (p : Int) : BE N (pw H (p + 1)) (pw H p ++ pos H) := by
  unfold pw
  by_cases h : 0 ≤ p
  · rw [if_pos (by omega), if_pos h, show (p + 1).toNat = p.toNat + 1 by omega]; exact .refl _
  · rw [if_neg h, show (-p).toNat = (-(p + 1)).toNat + 1 by omega]
    have e : ∀ m, BE N (pwn (neg (pos H)) m) (pwn (neg (pos H)) (m + 1) ++ pos H) := fun m => by
      show BE N _ (pwn (neg (pos H)) m ++ neg (pos H) ++ pos H)
      rw [List.append_assoc]
      have := (BE.cancel' (Hrg hH)).left (pwn (neg (pos H)) m)
      rw [List.append_nil] at this
      exact this.symm
    by_cases h1 : 0 ≤ p + 1
    · obtain rfl : p = -1 := by omega
      exact e 0
    · rw [if_neg h1]; exact e _
theorem pw_down (p : Int) : BE N (pw H (p - 1)) (pw H p ++ neg (pos H)) := by
  have h1 := (pw_up hH (p - 1)).right (neg (pos H))
  rw [show p - 1 + 1 = p by omega, List.append_assoc] at h1
  have h2 := (BE.cancel (Hrg hH)).left (pw H (p - 1))
  rw [List.append_nil] at h2
  exact (h1.trans h2).symm
omit hH
/-! The words of lists of permutations. -/
inductive Wl (N : Nat) : List (Nat → Nat) → List Nat → Prop
  | nil : Wl N [] []
  | cons {f fs w v} : Wd N f w → Wl N fs v → Wl N (f :: fs) (w ++ v)
theorem Wl.app {fs gs : List (Nat → Nat)} {u v : List Nat} (h : Wl N fs u) (k : Wl N gs v) : Wl N (fs ++ gs) (u ++ v) := by
  induction h with
  | nil => exact k
  | cons h1 _ ih => rw [List.cons_append, List.append_assoc]; exact .cons h1 ih
theorem Wl.split {fs gs : List (Nat → Nat)} {w : List Nat} (h : Wl N (fs ++ gs) w) : ∃ u v, w = u ++ v ∧ Wl N fs u ∧ Wl N gs v := by
  induction fs generalizing w with
  | nil => exact ⟨[], w, rfl, .nil, h⟩
  | cons f fs ih =>
    cases h with
    | @cons _ _ w1 v1 h1 h2 =>
    obtain ⟨u, v, rfl, h3, h4⟩ := ih h2
    exact ⟨w1 ++ u, v, by rw [List.append_assoc], .cons h1 h3, h4⟩
theorem Wl.uniq {fs : List (Nat → Nat)} {u v : List Nat} (h : Wl N fs u) : ∀ {v}, Wl N fs v → PE N u v := by
  induction h with
  | nil => intro v k; cases k; exact .refl _
  | cons h1 _ ih => intro v k; cases k with | cons k1 k2 => exact (h1.uniq k1).mul (ih k2)
theorem Wl.rng {fs : List (Nat → Nat)} {u : List Nat} (h : Wl N fs u) : ∀ i ∈ u, 1 ≤ i ∧ i < N := by
  induction h with
  | nil => simp
  | cons h1 _ ih =>
    intro i hi
    rcases List.mem_append.1 hi with h2 | h2
    · exact h1.rng i h2
    · exact ih i h2
theorem Wl.pm {fs : List (Nat → Nat)} {u : List Nat} (h : Wl N fs u) : ∀ f ∈ fs, ∃ g, Pm N f g := by
  induction h with
  | nil => simp
  | cons h1 _ ih =>
    intro f hf
    rcases List.mem_cons.1 hf with rfl | hf
    · exact h1.pm
    · exact ih f hf
theorem Wl.tn {fs : List (Nat → Nat)} {u : List Nat} (h : Wl N fs u) : Wl N (fs.map (tn N)) (tw N u) := by
  induction h with
  | nil => exact .nil
  | cons h1 _ ih =>
    unfold tw at ih ⊢
    rw [List.map_append]; exact .cons h1.tn ih
theorem exists_Wl {fs : List (Nat → Nat)} (h : ∀ f ∈ fs, ∃ g, Pm N f g) : ∃ u, Wl N fs u := by
  induction fs with
  | nil => exact ⟨[], .nil⟩
  | cons f fs ih =>
    obtain ⟨g, hg⟩ := h f (by simp)
    obtain ⟨w, hw⟩ := hg.word
    obtain ⟨v, hv⟩ := ih fun k hk => h k (by simp [hk])
    exact ⟨_, .cons hw hv⟩
/-- b is the braid with a power of the half twist and simple factors. -/
def NS (N : Nat) (H : List Nat) (p : Int) (fs : List (Nat → Nat)) (b : List Int) : Prop := ∃ v, Wl N fs v ∧ BE N b (pw H p ++ pos v)
theorem NS.nil : NS N H 0 [] [] := ⟨[], .nil, .refl _⟩
theorem wd_tr {i : Nat} (h1 : 1 ≤ i) (h2 : i < N) : Wd N (fun k => tr i k) [i] := by
  refine .cons h1 h2 (by unfold ds; show tr i i < tr i (i - 1); rw [tr_l h1, tr_r h1]; omega) ?_
  have : (fun k => tr i (tr i k)) = fun k => k := by funext k; exact tr_tr h1 k
  rw [this]; exact .nil
theorem NS.up {p : Int} {fs : List (Nat → Nat)} {b : List Int} (h : NS N H p fs b) {i : Nat} (h1 : 1 ≤ i) (h2 : i < N) : NS N H p (fs ++ [fun k => tr i k]) (b ++ [(i : Int)]) := by
  obtain ⟨v, h3, h4⟩ := h
  refine ⟨v ++ ([i] ++ []), h3.app (.cons (wd_tr h1 h2) .nil), ?_⟩
  rw [pos_app, ← List.append_assoc]
  exact h4.right _
theorem NS.down (hH : Wd N (dl N) H) {p : Int} {fs : List (Nat → Nat)} {b : List Int} (h : NS N H p fs b) {i : Nat} (h1 : 1 ≤ i) (h2 : i < N) : NS N H (p - 1) (fs.map (tn N) ++ [fun k => dl N (tr (N - i) k)]) (b ++ [-(i : Int)]) := by
  obtain ⟨v, h3, h4⟩ := h
  obtain ⟨X, hX, -⟩ := (dl_pm (N := N)).wordAt (i := N - i) (by omega) (by omega) (dl_ds (by omega) (by omega))
  refine ⟨tw N v ++ (X ++ []), h3.tn.app (.cons hX .nil), ?_⟩
  have q1 := (h4.right [-(i : Int)]).trans ((negX hH h1 h2 hX).left _)
  -- v neg H = neg H tw v
  have q2 := (slide hH (tw_rng h3.rng)).be
  rw [tw_tw h3.rng, pos_app, pos_app] at q2
  have q3 : BE N (pos v ++ neg (pos H)) (neg (pos H) ++ pos (tw N v)) := by
    refine BE.rcan (Hrg hH) (BE.lcan (Hrg hH) ?_)
    have a1 : BE N (pos H ++ (pos v ++ neg (pos H) ++ pos H)) (pos H ++ pos v) := by
      have := (BE.cancel' (Hrg hH)).left (pos H ++ pos v)
      simpa [List.append_assoc] using this
    have a2 : BE N (pos H ++ (neg (pos H) ++ pos (tw N v) ++ pos H)) (pos (tw N v) ++ pos H) := by
      have := (BE.cancel (Hrg hH)).right (pos (tw N v) ++ pos H)
      simpa [List.append_assoc] using this
    exact a1.trans (q2.symm.trans a2.symm)
  refine q1.trans ?_
  rw [List.append_nil, pos_app]
  have a3 := (q3.left (pw H p)).right (pos X)
  have a4 := (pw_down hH p).symm.right (pos (tw N v) ++ pos X)
  simp only [List.append_assoc] at a3 a4 ⊢
  exact a3.trans a4
theorem NS.turn {p : Int} {fs fs' : List (Nat → Nat)} {b : List Int} (h : NS N H p fs b) (k : ∀ v, Wl N fs v → ∃ v', Wl N fs' v' ∧ PE N v v') : NS N H p fs' b := by
  obtain ⟨v, h1, h2⟩ := h
  obtain ⟨v', h3, h4⟩ := k v h1
  exact ⟨v', h3, h2.trans (h4.be.left _)⟩
/-- A letter goes over to the factor before. -/
theorem move1 {f1 g1 f2 : Nat → Nat} {i : Nat} (h1 : 1 ≤ i) (h2 : i < N) (hp : Pm N f1 g1) (hd : ds f2 i) (ha : g1 (i - 1) < g1 i) (pre post : List (Nat → Nat)) {v : List Nat} (h : Wl N (pre ++ f1 :: f2 :: post) v) :
    ∃ v', Wl N (pre ++ (fun k => tr i (f1 k)) :: (fun k => f2 (tr i k)) :: post) v' ∧ PE N v v' := by
  obtain ⟨u, v, rfl, k1, k2⟩ := h.split
  cases k2 with
  | @cons _ _ w1 v1 k3 k4 =>
  cases k4 with
  | @cons _ _ w2 v2 k5 k6 =>
  obtain ⟨g2, hg2⟩ := k5.pm
  obtain ⟨w, hw1, hw2⟩ := hg2.wordAt h1 h2 hd
  refine ⟨u ++ ((w1 ++ [i]) ++ (w ++ v2)), k1.app (.cons (k3.snoc hp h1 h2 ha) (.cons hw1 k6)), ?_⟩
  have := (k5.uniq hw2).app (u ++ w1) v2
  simpa [List.append_assoc] using this
theorem NS.dropId {p : Int} {fs : List (Nat → Nat)} {b : List Int} (h : NS N H p (fs ++ [fun k => k]) b) : NS N H p fs b := by
  obtain ⟨v, h1, h2⟩ := h
  obtain ⟨u, v, rfl, k1, k2⟩ := h1.split
  cases k2 with
  | @cons _ _ w1 v1 k3 k4 =>
  cases k4
  have e : w1 = [] := by
    have := k3.len; rw [inv_id] at this; exact List.eq_nil_of_length_eq_zero this
  subst e
  exact ⟨u, k1, by simpa using h2⟩
theorem NS.twist (hH : Wd N (dl N) H) {p : Int} {fs : List (Nat → Nat)} {b : List Int} (h : NS N H p (dl N :: fs) b) : NS N H (p + 1) fs b := by
  obtain ⟨v, h1, h2⟩ := h
  cases h1 with
  | @cons _ _ w1 v1 k3 k4 =>
  refine ⟨v1, k4, h2.trans ?_⟩
  rw [pos_app, ← List.append_assoc]
  exact (((k3.uniq hH).be.left (pw H p)).trans (pw_up hH p).symm).right (pos v1)
end
end Gar
end Go.Proofs.Ytkeaonceaaafcaa

/- Lists of integers that list a permutation: how the program reads, turns and checks them. -/
set_option linter.unusedVariables false
set_option linter.unusedSimpArgs false
namespace Go.Proofs.Ytkeaonceaaafcaa
open Ev
namespace Gar
def li (N : Nat) (f : Nat → Nat) : List Int := (List.range N).map fun k => (f k : Int)
section
variable {N : Nat} {f g : Nat → Nat}
@[simp] theorem li_len : (li N f).length = N := by simp [li]
theorem li_at {k : Nat} (h : k < N) : (li N f)[k]? = some (f k : Int) := by simp [li, h]
theorem li_none {k : Nat} (h : N ≤ k) : (li N f)[k]? = none := by simp [li]; omega
theorem get_li {z : Int} (h0 : 0 ≤ z) (h1 : z < N) : Ev.get (li N f) z = some (f z.toNat : Int) := by
  unfold Ev.get; rw [if_pos h0, li_at (by omega)]
theorem li_ext (h : ∀ k, k < N → f k = g k) : li N f = li N g := by
  unfold li; apply List.map_congr_left; intro k hk; rw [List.mem_range] at hk; rw [h k hk]
theorem li_eq (hf : ∀ k, N ≤ k → f k = k) (hg : ∀ k, N ≤ k → g k = k) (h : li N f = li N g) : f = g := by
  funext k
  rcases Nat.lt_or_ge k N with hk | hk
  · have := congrArg (·[k]?) h
    simp only [li_at hk] at this
    injection this with this; omega
  · rw [hf k hk, hg k hk]
theorem li_set (k v : Nat) : (li N f).set k (v : Int) = li N (fun j => if j = k then v else f j) := by
  apply List.ext_getElem?
  intro j
  rw [List.getElem?_set]
  by_cases h : k = j
  · subst h
    rw [if_pos rfl, li_len]
    by_cases h1 : k < N
    · rw [if_pos h1, li_at h1, if_pos rfl]
    · rw [if_neg h1, li_none (by omega)]
  · rw [if_neg h]
    by_cases h1 : j < N
    · rw [li_at h1, li_at h1, if_neg (Ne.symm h)]
    · rw [li_none (by omega), li_none (by omega)]
/-- Two neighbours change places. -/
theorem li_sw {i : Nat} (h1 : 1 ≤ i) (h2 : i < N) : ((li N f).set (i - 1) (f i : Int)).set i (f (i - 1) : Int) = li N (fun k => f (tr i k)) := by
  rw [li_set, li_set]
  apply li_ext
  intro k hk
  by_cases e1 : k = i
  · subst e1; rw [if_pos rfl, tr_r h1]
  · rw [if_neg e1]
    by_cases e2 : k = i - 1
    · subst e2; rw [if_pos rfl, tr_l h1]
    · rw [if_neg e2, tr_o (by omega) e1]
theorem li_rep : List.replicate N (0 : Int) = li N (fun _ => 0) := by
  apply List.ext_getElem?
  intro j
  by_cases h : j < N
  · rw [li_at h]; simp [h]
  · rw [li_none (by omega)]; simp; omega
/-- Filled up to k. -/
def fill (f : Nat → Nat) (k j : Nat) : Nat := if j < k then f j else 0
theorem li_fill {k : Nat} : (li N (fill f k)).set k (f k : Int) = li N (fill f (k + 1)) := by
  rw [li_set]
  apply li_ext
  intro j hj
  unfold fill
  by_cases h : j = k
  · subst h; rw [if_pos rfl, if_pos (by omega)]
  · rw [if_neg h]
    by_cases h1 : j < k
    · rw [if_pos h1, if_pos (by omega)]
    · rw [if_neg h1, if_neg (by omega)]
theorem li_full : li N (fill f N) = li N f := li_ext fun k hk => if_pos hk
theorem li_empty : List.replicate N (0 : Int) = li N (fill f 0) := by
  rw [li_rep]; exact li_ext fun k _ => (if_neg (by omega)).symm
theorem pigeon : ∀ (N : Nat) (f : Nat → Nat), (∀ k, k < N → f k < N) → (∀ j k, j < N → k < N → f j = f k → j = k) → ∀ y, y < N → ∃ k, k < N ∧ f k = y
  | 0, _, _, _, y, hy => absurd hy (Nat.not_lt_zero _)
  | N + 1, f, h, inj, y, hy => by
    have hm : f N < N + 1 := h N (by omega)
    have ih := pigeon N (fun k => if f k = N then f N else f k) (fun k hk => by
      by_cases e : f k = N
      · simp only [e, if_true]
        have : f N ≠ N := fun e2 => by have := inj k N (by omega) (by omega) (by omega); omega
        omega
      · simp only [e, if_false]
        have := h k (by omega); omega) (fun j k hj hk e => by
      by_cases e1 : f j = N <;> by_cases e2 : f k = N <;> simp only [e1, e2, if_true, if_false] at e
      · exact inj j k (by omega) (by omega) (by omega)
      · have := inj N k (by omega) (by omega) e; omega
      · have := inj j N (by omega) (by omega) e; omega
      · exact inj j k (by omega) (by omega) e)
    by_cases hy1 : y = f N
    · exact ⟨N, by omega, hy1.symm⟩
    by_cases hy2 : y = N
    · obtain ⟨k, hk, e⟩ := ih (f N) (by omega)
      by_cases e1 : f k = N
      · exact ⟨k, by omega, by omega⟩
      · simp only [e1, if_false] at e
        have := inj k N (by omega) (by omega) e; omega
    · obtain ⟨k, hk, e⟩ := ih y (by omega)
      by_cases e1 : f k = N
      · simp only [e1, if_true] at e; omega
      · simp only [e1, if_false] at e
        exact ⟨k, by omega, e⟩
/-- A list that lists a permutation. -/
def IsP (p : List Int) : Prop := ∃ f g, Pm p.length f g ∧ p = li p.length f
theorem isP_of {p : List Int} (hr : ∀ x ∈ p, 0 ≤ x ∧ x < p.length) (hn : p.Nodup) : IsP p := by
  have hf : ∀ k, k < p.length → p[k]? = some (((p.getD k 0).toNat : Nat) : Int) := fun k hk => by
    have h1 : p[k]? = some p[k] := List.getElem?_eq_getElem hk
    have h2 := hr p[k] (List.getElem_mem hk)
    rw [h1, List.getD_eq_getElem?_getD, h1, Option.getD_some, show ((p[k].toNat : Nat) : Int) = p[k] by omega]
  have hlt : ∀ k, k < p.length → (p.getD k 0).toNat < p.length := fun k hk => by
    have h1 := hf k hk
    have h2 := hr _ (List.mem_of_getElem? h1)
    omega
  have hinj : ∀ j k, j < p.length → k < p.length → (p.getD j 0).toNat = (p.getD k 0).toNat → j = k := fun j k hj hk e => by
    have h1 := hf j hj; have h2 := hf k hk
    rw [e, ← h2] at h1
    exact (List.getElem?_inj hj hn).1 h1
  have hs := pigeon p.length _ hlt hinj
  have hg : ∀ y, ∃ k, (y < p.length → k < p.length ∧ (p.getD k 0).toNat = y) ∧ (¬ y < p.length → k = y) := fun y => by
    by_cases h : y < p.length
    · obtain ⟨k, h1, h2⟩ := hs y h
      exact ⟨k, fun _ => ⟨h1, h2⟩, fun h' => absurd h h'⟩
    · exact ⟨y, fun h' => absurd h' h, fun _ => rfl⟩
  obtain ⟨g, hg⟩ := Classical.skolem.1 hg
  refine ⟨fun k => if k < p.length then (p.getD k 0).toNat else k, g, ⟨fun k hk => if_neg (by omega), fun k => ?_, fun y => ?_⟩, ?_⟩
  · by_cases h : k < p.length
    · simp only [h, if_true]
      have h2 := (hg (p.getD k 0).toNat).1 (hlt k h)
      exact hinj _ _ h2.1 h h2.2
    · simp only [h, if_false]
      exact (hg k).2 h
  · by_cases h : y < p.length
    · have h2 := (hg y).1 h
      simp only [h2.1, if_true, h2.2]
    · have h2 := (hg y).2 h
      simp only [h2, h, if_false]
  · apply List.ext_getElem?
    intro k
    by_cases h : k < p.length
    · rw [hf k h, li_at h, if_pos h]
    · rw [List.getElem?_eq_none (by omega), li_none (by omega)]
theorem IsP.nodup {p : List Int} (h : IsP p) : p.Nodup := by
  obtain ⟨f, g, hp, e⟩ := h
  rw [e]
  unfold li
  rw [List.Nodup, List.pairwise_map]
  refine List.Pairwise.imp ?_ List.nodup_range
  intro a b hab e
  exact hab (hp.inj (by omega))
theorem IsP.rng {p : List Int} (h : IsP p) : ∀ x ∈ p, 0 ≤ x ∧ x < p.length := by
  obtain ⟨f, g, hp, e⟩ := h
  intro x hx
  rw [e] at hx
  simp only [li, List.mem_map, List.mem_range] at hx
  obtain ⟨k, hk, rfl⟩ := hx
  have := hp.lt hk; omega
theorem isP_li (h : Pm N f g) : IsP (li N f) := ⟨f, g, by rw [li_len]; exact h, by rw [li_len]⟩
/-! The program's functions on permutations. -/
theorem permValid {p : List Int} (n : Nat) (hn : p.length < n) (hl : p.length ≤ 100000000) : ∃ r, F.perm_Valid n p = some r ∧ (r = true ↔ IsP p) := by
  unfold F.perm_Valid
  rw [pos_ok (by omega) (by omega), Option.bind_some]
  obtain ⟨r, hr1, hr2⟩ := loop_spec (body := F.perm_Valid_b0 n p) (fun s => ∃ k : Nat, s.1 = (k : Int) ∧ k ≤ p.length ∧ s.2.length = p.length ∧ (∀ x ∈ p.take k, 0 ≤ x ∧ x < p.length) ∧ (p.take k).Nodup ∧ ∀ x : Nat, x < p.length → (s.2[x]? = some true ↔ (x : Int) ∈ p.take k))
    (fun s => p.length - s.1.toNat) (fun r => match r with | .inl _ => IsP p | .inr b => b = false ∧ ¬ IsP p) (fun s ⟨k, h1, h2, h3, h4, h5, h6⟩ => by
      obtain ⟨i, seen⟩ := s
      dsimp only at h1 h3 h6
      subst h1
      unfold F.perm_Valid_b0
      dsimp only
      by_cases hlt : (k : Int) < (p.length : Int)
      · rw [decide_eq_true hlt, cond_true, get_nat, List.getElem?_eq_getElem (by omega : k < p.length), Option.bind_some]
        have hmem : p[k]'(by omega) ∈ p := List.getElem_mem _
        by_cases c1 : p[k]'(by omega) < 0
        · rw [decide_eq_true c1, cond_true]; right; exact ⟨_, rfl, rfl, fun hp => by have := (hp.rng _ hmem).1; omega⟩
        rw [decide_eq_false c1, cond_false]
        by_cases c2 : (p.length : Int) ≤ p[k]'(by omega)
        · rw [decide_eq_true c2, cond_true]; right; exact ⟨_, rfl, rfl, fun hp => by have := (hp.rng _ hmem).2; omega⟩
        rw [decide_eq_false c2, cond_false]
        have hk3 : (p[k]'(by omega)).toNat < seen.length := by omega
        rw [get_ok (by omega) hk3, Option.bind_some]
        have h7 := h6 (p[k]'(by omega)).toNat (by omega)
        rw [List.getElem?_eq_getElem hk3, show (((p[k]'(by omega)).toNat : Nat) : Int) = p[k]'(by omega) by omega] at h7
        have ht : p.take (k + 1) = p.take k ++ [p[k]'(by omega)] := by rw [List.take_add_one, List.getElem?_eq_getElem (by omega : k < p.length)]; rfl
        by_cases c3 : seen[(p[k]'(by omega)).toNat] = true
        · rw [c3, cond_true]; right
          refine ⟨_, rfl, rfl, fun hp => ?_⟩
          have h8 := h7.1 (by rw [c3])
          have h9 := hp.nodup
          have h10 : (p.take (k + 1)).Nodup := (List.take_sublist _ _).nodup h9
          rw [ht, List.nodup_append] at h10
          exact h10.2.2 _ h8 _ (by simp) rfl
        · rw [Bool.not_eq_true] at c3
          rw [c3, cond_false, Option.bind_some, chk_ok (by omega) (by omega), Option.bind_some]
          left
          have h8 : p[k]'(by omega) ∉ p.take k := fun hm => by have := h7.2 hm; rw [c3] at this; cases this
          refine ⟨_, rfl, ⟨k + 1, by simp, by omega, by simpa using h3, ?_, ?_, ?_⟩, by dsimp only; omega⟩
          · intro x hx
            rw [ht] at hx
            rcases List.mem_append.1 hx with h9 | h9
            · exact h4 x h9
            · simp only [List.mem_singleton] at h9; subst h9; omega
          · rw [ht, List.nodup_append]
            exact ⟨h5, by simp, fun a ha b hb e => by simp only [List.mem_singleton] at hb; subst hb; subst e; exact h8 ha⟩
          · intro x hx
            dsimp only
            rw [ht, List.mem_append, List.mem_singleton, List.getElem?_set]
            by_cases e : (p[k]'(by omega)).toNat = x
            · rw [if_pos e, if_pos hk3]
              exact ⟨fun _ => .inr (by omega), fun _ => rfl⟩
            · rw [if_neg e, h6 x hx]
              exact ⟨fun h => .inl h, fun h => h.resolve_right (by omega)⟩
      · rw [decide_eq_false hlt, cond_false]; right
        obtain rfl : k = p.length := by omega
        rw [List.take_length] at h4 h5
        exact ⟨_, rfl, isP_of h4 h5⟩) n (0, List.replicate (p.length : Int).toNat false) ⟨0, rfl, by omega, by simp, by simp, by simp, fun x hx => by simp [List.getElem?_replicate, hx]⟩ (by dsimp only; omega)
  rw [hr1, Option.bind_some]
  rcases r with s | b
  · exact ⟨true, rfl, ⟨fun _ => hr2, fun _ => rfl⟩⟩
  · obtain ⟨rfl, h⟩ := hr2
    exact ⟨false, rfl, ⟨fun h' => absurd h' (by decide), fun h' => absurd h' h⟩⟩
theorem permValid_li (h : Pm N f g) (n : Nat) (hn : N < n) (hl : N ≤ 1000) : F.perm_Valid n (li N f) = some true := by
  obtain ⟨r, h1, h2⟩ := permValid (p := li N f) n (by rw [li_len]; exact hn) (by rw [li_len]; omega)
  rw [h1, h2.2 (isP_li h)]
theorem permInverse (h : Pm N f g) (n : Nat) (hn : N < n) (hl : N ≤ 1000) : F.perm_Inverse n (li N f) = some (li N g) := by
  unfold F.perm_Inverse
  rw [permValid_li h n hn hl, Option.bind_some, Bool.not_true, cond_false, pos_ok (by rw [li_len]; omega) (by rw [li_len]; omega), Option.bind_some, li_len, show ((N : Int)).toNat = N by omega]
  have := count_loop (body := F.perm_Inverse_b0 n (li N f)) (fun k => ((k : Int), li N (fun y => if g y < k then g y else 0))) N (r := ((N : Int), li N g)) (fun k hk => by
    unfold F.perm_Inverse_b0
    dsimp only
    have hfk := h.lt hk
    rw [li_len, decide_eq_true (by omega), cond_true, get_li (by omega) (by omega), Option.bind_some, show (k : Int).toNat = k by omega, get_li (by omega) (by omega), Option.bind_some, chk_ok (by omega) (by omega), Option.bind_some, show ((f k : Nat) : Int).toNat = f k by omega, li_set]
    congr 3
    apply li_ext
    intro y hy
    by_cases e : y = f k
    · subst e; rw [if_pos rfl, h.gf, if_pos (by omega)]
    · rw [if_neg e]
      have : g y ≠ k := fun e2 => e (by rw [← e2, h.fg])
      by_cases e3 : g y < k
      · rw [if_pos e3, if_pos (by omega)]
      · rw [if_neg e3, if_neg (by omega)]) (by
    unfold F.perm_Inverse_b0
    dsimp only
    rw [li_len, decide_eq_false (by omega), cond_false]
    congr 3
    apply li_ext
    intro y hy
    rw [if_pos (h.symm.lt hy)]) n hn
  have e0 : List.replicate N (0 : Int) = li N (fun y => if g y < 0 then g y else 0) := by
    rw [li_rep]; exact li_ext fun y _ => (if_neg (by omega)).symm
  rw [e0]
  rw [show ((0 : Int), li N (fun y => if g y < 0 then g y else 0)) = ((((0 : Nat)) : Int), li N (fun y => if g y < 0 then g y else 0)) from rfl, this, Option.bind_some]
theorem identity_eq (n : Nat) (hn : N < n) (hl : N ≤ 1000) : F.garside_identity n (N : Int) = some (li N fun k => k) := by
  unfold F.garside_identity
  rw [pos_ok (by omega) (by omega), Option.bind_some, show ((N : Int)).toNat = N by omega]
  have := count_loop (body := F.garside_identity_b0 n (N : Int)) (fun k => ((k : Int), li N (fill (fun k => k) k))) N (r := ((N : Int), li N fun k => k)) (fun k hk => by
    unfold F.garside_identity_b0
    dsimp only
    rw [List.length_replicate, show ((N : Int)).toNat = N by omega, decide_eq_true (by omega), cond_true, get_li (by omega) (by omega), Option.bind_some, chk_ok (by omega) (by omega), Option.bind_some, show (k : Int).toNat = k by omega, li_fill (f := fun k => k)]
    rfl) (by
    unfold F.garside_identity_b0
    dsimp only
    rw [List.length_replicate, show ((N : Int)).toNat = N by omega, decide_eq_false (by omega), cond_false, li_full]) n hn
  rw [li_empty (f := fun k => k), show ((0 : Int), li N (fill (fun k => k) 0)) = ((((0 : Nat)) : Int), li N (fill (fun k => k) 0)) from rfl, this, Option.bind_some]
theorem halfTwist_eq (n : Nat) (hn : N < n) (hl : N ≤ 1000) : F.garside_halfTwist n (N : Int) = some (li N (dl N)) := by
  unfold F.garside_halfTwist
  rw [pos_ok (by omega) (by omega), Option.bind_some, show ((N : Int)).toNat = N by omega]
  have := count_loop (body := F.garside_halfTwist_b0 n (N : Int)) (fun k => ((k : Int), li N (fill (dl N) k))) N (r := ((N : Int), li N (dl N))) (fun k hk => by
    unfold F.garside_halfTwist_b0
    dsimp only
    rw [List.length_replicate, show ((N : Int)).toNat = N by omega, decide_eq_true (by omega), cond_true, chk_ok (by omega) (by omega), Option.bind_some, chk_ok (by omega) (by omega), Option.bind_some, get_li (by omega) (by omega), Option.bind_some, chk_ok (by omega) (by omega), Option.bind_some, show (k : Int).toNat = k by omega]
    have : (N : Int) - 1 - (k : Int) = ((dl N k : Nat) : Int) := by rw [dl_lt hk]; omega
    rw [this, li_fill (f := dl N)]
    rfl) (by
    unfold F.garside_halfTwist_b0
    dsimp only
    rw [List.length_replicate, show ((N : Int)).toNat = N by omega, decide_eq_false (by omega), cond_false, li_full]) n hn
  rw [li_empty (f := dl N), show ((0 : Int), li N (fill (dl N) 0)) = ((((0 : Nat)) : Int), li N (fill (dl N) 0)) from rfl, this, Option.bind_some]
theorem reverse_eq (n : Nat) (hn : N < n) (hl : N ≤ 1000) : F.slices_Reverse_Perm_int n (li N f) = some (li N fun x => f (N - 1 - x)) := by
  unfold F.slices_Reverse_Perm_int
  rw [li_len, chk_ok (by omega) (by omega), Option.bind_some]
  have := count_loop (body := F.slices_Reverse_Perm_int_b0 n) (fun k => ((k : Int), (N : Int) - 1 - (k : Int), li N (fun x => if x < k ∨ N < x + k + 1 then f (N - 1 - x) else f x))) (N / 2) (r := (((N / 2 : Nat) : Int), (N : Int) - 1 - ((N / 2 : Nat) : Int), li N fun x => f (N - 1 - x))) (fun k hk => by
    unfold F.slices_Reverse_Perm_int_b0
    dsimp only
    rw [decide_eq_true (by omega), cond_true, get_li (by omega) (by omega), Option.bind_some, get_li (by omega) (by omega), Option.bind_some, Option.bind_some]
    rw [show (k : Int).toNat = k by omega, show ((N : Int) - 1 - (k : Int)).toNat = N - 1 - k by omega, if_neg (by omega), if_neg (by omega), li_set, get_li (by omega) (by omega), Option.bind_some, chk_ok (by omega) (by omega), Option.bind_some, chk_ok (by omega) (by omega), Option.bind_some, li_set]
    rw [show (N : Int) - 1 - (k : Int) - 1 = (N : Int) - 1 - ((k + 1 : Nat) : Int) by omega]
    congr 4
    apply li_ext
    intro x hx
    by_cases e1 : x = N - 1 - k
    · subst e1; rw [if_pos rfl, if_pos (by omega)]; congr 1; omega
    · rw [if_neg e1]
      by_cases e2 : x = k
      · subst e2; rw [if_pos rfl, if_pos (by omega)]
      · rw [if_neg e2]
        by_cases e3 : x < k ∨ N < x + k + 1
        · rw [if_pos e3, if_pos (by omega)]
        · rw [if_neg e3, if_neg (by omega)]) (by
    unfold F.slices_Reverse_Perm_int_b0
    dsimp only
    rw [decide_eq_false (by omega), cond_false]
    congr 4
    apply li_ext
    intro x hx
    by_cases e3 : x < N / 2 ∨ N < x + N / 2 + 1
    · rw [if_pos e3]
    · rw [if_neg e3]; congr 1; omega) n (by omega)
  have e0 : li N f = li N (fun x => if x < 0 ∨ N < x + 0 + 1 then f (N - 1 - x) else f x) := li_ext fun x hx => (if_neg (by omega)).symm
  rw [e0, show ((0 : Int), (N : Int) - 1, li N (fun x => if x < 0 ∨ N < x + 0 + 1 then f (N - 1 - x) else f x)) = ((((0 : Nat)) : Int), (N : Int) - 1 - (((0 : Nat)) : Int), li N (fun x => if x < 0 ∨ N < x + 0 + 1 then f (N - 1 - x) else f x)) by simp, this, Option.bind_some]
theorem turn_eq (h : Pm N f g) (n : Nat) (hn : N < n) (hl : N ≤ 1000) : F.garside_turnAround n (li N f) = some (li N (tn N f)) := by
  unfold F.garside_turnAround
  rw [reverse_eq n hn hl, Option.bind_some]
  have := count_loop (body := F.garside_turnAround_b0 n (li N f)) (fun k => ((k : Int), li N (fun x => if x < k then tn N f x else f (N - 1 - x)))) N (r := ((N : Int), li N (tn N f))) (fun k hk => by
    unfold F.garside_turnAround_b0
    dsimp only
    have hb := h.lt (show N - 1 - k < N by omega)
    rw [li_len, decide_eq_true (by omega), cond_true, chk_ok (by omega) (by omega), Option.bind_some, get_li (by omega) (by omega), Option.bind_some, show (k : Int).toNat = k by omega, if_neg (by omega), chk_ok (by omega) (by omega), Option.bind_some, Option.bind_some, chk_ok (by omega) (by omega), Option.bind_some]
    have e : (N : Int) - 1 - ((f (N - 1 - k) : Nat) : Int) = ((tn N f k : Nat) : Int) := by unfold tn; rw [dl_lt hk, dl_lt hb]; omega
    rw [e, li_set]
    congr 3
    apply li_ext
    intro x hx
    by_cases e1 : x = k
    · subst e1; rw [if_pos rfl, if_pos (by omega)]
    · rw [if_neg e1]
      by_cases e2 : x < k
      · rw [if_pos e2, if_pos (by omega)]
      · rw [if_neg e2, if_neg (by omega)]) (by
    unfold F.garside_turnAround_b0
    dsimp only
    rw [li_len, decide_eq_false (by omega), cond_false]
    congr 3
    exact li_ext fun x hx => if_pos hx) n hn
  have e0 : li N (fun x => f (N - 1 - x)) = li N (fun x => if x < 0 then tn N f x else f (N - 1 - x)) := li_ext fun x _ => (if_neg (by omega)).symm
  rw [e0, show ((0 : Int), li N (fun x => if x < 0 then tn N f x else f (N - 1 - x))) = ((((0 : Nat)) : Int), li N (fun x => if x < 0 then tn N f x else f (N - 1 - x))) from rfl, this, Option.bind_some]
theorem clone_li (n : Nat) (hl : N ≤ 1000) : F.slices_Clone_Perm_int n (li N f) = some (li N f) := by
  unfold F.slices_Clone_Perm_int
  rw [lim_ok (by simp; omega)]; simp
theorem less_eq (n : Nat) (x y : Int) : F.cmp_Less_int n x y = some (decide (x < y)) := by
  unfold F.cmp_Less_int F.cmp_isNaN_int
  rw [decide_eq_true rfl]; rfl
end
end Gar
end Go.Proofs.Ytkeaonceaaafcaa
