/- Divisibility of positive braids is seen in their action. -/
import Derived.Test.YtkeaonceaaafcaaPGlab
set_option linter.unusedVariables false
set_option linter.unusedSimpArgs false
namespace Go.Proofs.Ytkeaonceaaafcaa
namespace Gar
/-- The labelled path of gap j under a positive word. -/
def Tl : List Nat → Nat → List Cr
  | [], j => [(j, 0)]
  | i :: w, j => run i (Tl w j)
def gaps (u : List Cr) : List Nat := u.reverse.map fun x => x.1
theorem gaps_cons (x : Cr) (u : List Cr) : gaps (x :: u) = gaps u ++ [x.1] := by simp [gaps]
theorem gaps_len (u : List Cr) : (gaps u).length = u.length := by simp [gaps]
theorem gaps_push (x : Cr) (st : List Cr) : GE (gaps (pushL x st)) (gaps st ++ [x.1]) := by
  cases st with
  | nil => exact .refl _
  | cons y st =>
    by_cases e : x.1 = y.1
    · rw [pushL_eq e, gaps_cons, List.append_assoc, e]
      have := GE.cancel (gaps st) [] y.1
      rw [List.append_nil] at this
      exact this.symm
    · rw [pushL_ne e, gaps_cons]; exact .refl _
theorem gaps_rdc {u : List Cr} (h : Ch u) : Rdc (gaps u) := by
  have key : ∀ {l : List Nat} {a b : Nat}, Rdc (l ++ [a]) → a ≠ b → Rdc (l ++ [a] ++ [b]) := by
    intro l
    induction l with
    | nil => intro a b _ hab; exact ⟨hab, trivial⟩
    | cons c l ih =>
      intro a b h hab
      cases l with
      | nil => exact ⟨h.1, hab, trivial⟩
      | cons d l => exact ⟨h.1, ih h.2 hab⟩
  induction u with
  | nil => trivial
  | cons x u ih =>
    cases u with
    | nil => trivial
    | cons y t =>
      have h1 := ih h.tail
      rw [gaps_cons] at h1
      rw [gaps_cons, gaps_cons]
      refine key h1 ?_
      have := h.1; unfold Stp at this; omega
/-- What has come out is the path with the letter substituted. -/
theorem run_gaps {i : Nat} (hi : 1 ≤ i) {u : List Cr} (h : Ch u) : GE (gaps (run i u)) (sub (i : Int) true (gaps u)) := by
  induction u with
  | nil => exact .refl _
  | cons x u ih =>
    have h1 := ih h.tail
    rw [gaps_cons, sub_app]
    have hp := h.par
    simp only [sub, List.append_nil]
    show GE (gaps (run1 i x (run i u))) _
    unfold run1
    by_cases e : x.1 = i
    · rw [if_pos e, e, img_p hi]
      have h2 := gaps_push (ri_ i x.2, x.2) (pushL (i, x.2 + 1) (pushL (li_ i x.2, x.2) (run i u)))
      have h3 := (gaps_push (i, x.2 + 1) (pushL (li_ i x.2, x.2) (run i u))).right [ri_ i x.2]
      have h4 := ((gaps_push (li_ i x.2, x.2) (run i u)).right [i]).right [ri_ i x.2]
      have h5 := ((h1.right [li_ i x.2]).right [i]).right [ri_ i x.2]
      have h6 := h2.trans (h3.trans (h4.trans h5))
      refine h6.trans ?_
      have : par true (gaps u).length = decide (x.2 % 2 = 0) := by
        unfold par; rw [gaps_len]
        by_cases e2 : x.2 % 2 = 0
        · rw [if_pos (by omega), decide_eq_true e2]
        · rw [if_neg (by omega), decide_eq_false e2]; rfl
      rw [this]
      unfold li_ ri_
      by_cases e2 : x.2 % 2 = 0
      · rw [if_pos e2, if_pos e2, decide_eq_true e2, if_pos rfl]; simp only [List.append_assoc]; exact .refl _
      · rw [if_neg e2, if_neg e2, decide_eq_false e2, if_neg (by decide)]; simp only [List.append_assoc]; exact .refl _
    · rw [if_neg e, img_po e]
      exact (gaps_push x (run i u)).trans (h1.right [x.1])
section
variable {N : Nat}
/-- Words with letters of N strands. -/
def Pw (N : Nat) (w : List Nat) : Prop := ∀ i ∈ w, 1 ≤ i ∧ i < N
theorem Pw.tail {i : Nat} {w : List Nat} (h : Pw N (i :: w)) : Pw N w := fun j hj => h j (by simp [hj])
theorem Pw.app {u v : List Nat} (h : Pw N u) (k : Pw N v) : Pw N (u ++ v) := fun i hi => by
  rcases List.mem_append.1 hi with h1 | h1
  · exact h i h1
  · exact k i h1
theorem Pw.left {u v : List Nat} (h : Pw N (u ++ v)) : Pw N u := fun i hi => h i (by simp [hi])
theorem Pw.right {u v : List Nat} (h : Pw N (u ++ v)) : Pw N v := fun i hi => h i (by simp [hi])
theorem PE.pw {u v : List Nat} (h : PE N u v) : Pw N u ↔ Pw N v := by
  induction h with
  | refl w => exact Iff.rfl
  | symm _ ih => exact ih.symm
  | trans _ _ h1 h2 => exact h1.trans h2
  | far c d h1 h2 h3 h4 h5 =>
    constructor <;> intro h k hk <;> refine h k ?_ <;> simp only [List.mem_append, List.mem_cons] at hk ⊢ <;> rcases hk with h | h | h | h <;> simp [h]
  | braid c d h1 h2 =>
    constructor <;> intro h k hk <;> refine h k ?_ <;> simp only [List.mem_append, List.mem_cons] at hk ⊢ <;> rcases hk with h | h | h | h | h <;> simp [h]
theorem Tl_ch {w : List Nat} (h : Pw N w) (j : Nat) : Ch (Tl w j) := by
  induction w with
  | nil => rfl
  | cons i w ih => exact run_ch (h i (by simp)).1 (ih h.tail)
theorem Tl_act {w : List Nat} (h : Pw N w) (j : Nat) : gaps (Tl w j) = act (pos w) j := by
  have key : ∀ {w : List Nat}, Pw N w → GE (gaps (Tl w j)) (subs (pos w) [j]) := by
    intro w
    induction w with
    | nil => intro _; exact .refl _
    | cons i w ih =>
      intro h
      exact (run_gaps (h i (by simp)).1 (Tl_ch h.tail j)).trans (sub_ge _ _ (ih h.tail))
  have h1 := (key h).trans (act_ge (pos w) j).symm
  unfold GE at h1
  rwa [rd_of (gaps_rdc (Tl_ch h j)), rd_of (act_rdc _ _)] at h1
/-- The labels are told by the gaps. -/
theorem lab_uniq : ∀ {u v : List Cr}, Ch u → Ch v → u.map (fun x => x.1) = v.map (fun x => x.1) → u = v
  | [], [], _, _, _ => rfl
  | [], _ :: _, _, _, h => by cases h
  | _ :: _, [], _, _, h => by cases h
  | [(a, l)], [(b, m)], h1, h2, h => by
    have e1 : l = 0 := h1; have e2 : m = 0 := h2
    injection h with h _
    subst e1 e2
    have : a = b := h
    rw [this]
  | [_], _ :: _ :: _, _, _, h => by injection h with _ h; cases h
  | _ :: _ :: _, [_], _, _, h => by injection h with _ h; cases h
  | (a, l) :: y :: u, (b, m) :: z :: v, h1, h2, h => by
    injection h with ha ht
    have ih := lab_uniq h1.tail h2.tail ht
    have hab : a = b := ha
    subst hab
    rw [ih] at h1 ⊢
    have s1 := h1.1; have s2 := h2.1
    unfold Stp at s1 s2
    dsimp only at s1 s2
    have : l = m := by omega
    rw [this]
/-- Two positive words act alike. -/
def AE (u v : List Nat) : Prop := ∀ j, act (pos u) j = act (pos v) j
theorem AE.symm {u v : List Nat} (h : AE u v) : AE v u := fun j => (h j).symm
theorem AE.trans {u v w : List Nat} (h : AE u v) (k : AE v w) : AE u w := fun j => (h j).trans (k j)
theorem PE.ae {u v : List Nat} (h : PE N u v) : AE u v := fun j => h.be.act j
theorem AE.tl {u v : List Nat} (h : AE u v) (hu : Pw N u) (hv : Pw N v) (j : Nat) : Tl u j = Tl v j := by
  refine lab_uniq (Tl_ch hu j) (Tl_ch hv j) ?_
  have := h j
  rw [← Tl_act hu, ← Tl_act hv] at this
  unfold gaps at this
  rw [List.map_reverse, List.map_reverse] at this
  have h2 := congrArg List.reverse this
  rwa [List.reverse_reverse, List.reverse_reverse] at h2
theorem AE.can {i : Nat} (hi : 1 ≤ i) {u v : List Nat} (h : AE (i :: u) (i :: v)) : AE u v := fun j => act_lcan (x := (i : Int)) (by omega) (h j)
/-- The action shows no crossing of gap i at level 0. -/
def Nt (i : Nat) (u : List Nat) : Prop := ∀ j, No i (Tl u j)
theorem nt_cons {i : Nat} (hi : 1 ≤ i) (u : List Nat) : Nt i (i :: u) := fun j => no_run hi _
theorem nt_nil (i : Nat) : ¬ Nt i [] := fun h => h i (by simp [Tl])
theorem AE.nt {u v : List Nat} (h : AE u v) (hu : Pw N u) (hv : Pw N v) {i : Nat} (k : Nt i u) : Nt i v := fun j => by rw [← h.tl hu hv j]; exact k j
/-- WHERE THE ACTION SHOWS NONE, THE LETTER DIVIDES. -/
theorem divides : ∀ (m : Nat) {u : List Nat}, u.length ≤ m → Pw N u → ∀ {i : Nat}, 1 ≤ i → i < N → Nt i u → ∃ v, PE N u (i :: v) := by
  intro m
  induction m with
  | zero =>
    intro u hl _ i _ _ h
    rw [List.eq_nil_of_length_eq_zero (by omega : u.length = 0)] at h
    exact absurd h (nt_nil i)
  | succ m ih =>
    intro u hl hP i hi hn h
    cases u with
    | nil => exact absurd h (nt_nil i)
    | cons j u =>
    simp only [List.length_cons] at hl
    have hj := hP j (by simp)
    by_cases e : j = i
    · subst e; exact ⟨u, .refl _⟩
    -- the tail has none either
    have h1 : Nt i u := fun k => no_of_run hj.1 (Ne.symm e) (Tl_ch hP.tail k) (h k)
    obtain ⟨v, hv⟩ := ih (by omega) hP.tail hi hn h1
    have hPv : Pw N (i :: v) := (PE.pw hv).1 hP.tail
    have hlv := hv.len
    simp only [List.length_cons] at hlv
    rcases Nat.lt_trichotomy (i + 1) j with hf | hf | hf
    · exact ⟨j :: v, (hv.cons j).trans (PE.far [] v hi hn hj.1 hj.2 hf).symm⟩
    · subst hf
      -- j = i + 1
      have h2 : Nt (i + 1) v := fun k => by
        refine no_of_prev hi (Tl_ch hPv.tail k) ?_
        have e1 : Tl u k = run i (Tl v k) := hv.ae.tl hP.tail hPv k
        rw [← e1]
        have := prev_of hj.1 (Tl_ch hP.tail k) (h k)
        rwa [show i + 1 - 1 = i by omega] at this
      obtain ⟨w, hw⟩ := ih (by omega) hPv.tail hj.1 hj.2 h2
      exact ⟨(i + 1) :: i :: w, (hv.cons (i + 1)).trans (((hw.cons i).cons (i + 1)).trans (PE.braid [] w hi hj.2).symm)⟩
    · rcases Nat.lt_trichotomy (j + 1) i with hf2 | hf2 | hf2
      · exact ⟨j :: v, (hv.cons j).trans (PE.far [] v hj.1 hj.2 hi hn hf2)⟩
      · subst hf2
        have h2 : Nt j v := fun k => by
          have e1 : Tl u k = run (j + 1) (Tl v k) := hv.ae.tl hP.tail hPv k
          have := next_of hj.1 (Tl_ch hP.tail k) (h k)
          rw [e1] at this
          have := no_of_next (i := j + 1) hi (Tl_ch hPv.tail k) (by rw [show j + 1 - 1 = j by omega]; exact this)
          rwa [show j + 1 - 1 = j by omega] at this
        obtain ⟨w, hw⟩ := ih (by omega) hPv.tail hj.1 hj.2 h2
        exact ⟨j :: (j + 1) :: w, (hv.cons j).trans (((hw.cons (j + 1)).cons j).trans (PE.braid [] w hj.1 hn))⟩
      · omega
/-- POSITIVE WORDS THAT ACT ALIKE ARE EQUAL AS BRAIDS. -/
theorem faithful : ∀ (m : Nat) {u v : List Nat}, u.length = m → Pw N u → Pw N v → AE u v → PE N u v := by
  intro m
  induction m with
  | zero =>
    intro u v hl hu hv h
    obtain rfl := List.eq_nil_of_length_eq_zero hl
    cases v with
    | nil => exact .refl _
    | cons i v =>
      have := h.symm.nt hv hu (nt_cons (hv i (by simp)).1 v)
      exact absurd this (nt_nil i)
  | succ m ih =>
    intro u v hl hu hv h
    cases u with
    | nil => simp at hl
    | cons i u =>
    have hi := hu i (by simp)
    obtain ⟨w, hw⟩ := divides v.length (Nat.le_refl _) hv hi.1 hi.2 (h.nt hu hv (nt_cons hi.1 u))
    have hw' : Pw N (i :: w) := (PE.pw hw).1 hv
    have := AE.can hi.1 (h.trans hw.ae)
    exact ((ih (by simpa using hl) hu.tail hw'.tail this).cons i).trans hw.symm
theorem PE.can {i : Nat} {u v : List Nat} (h : PE N (i :: u) (i :: v)) (hu : Pw N (i :: u)) : PE N u v :=
  faithful _ rfl hu.tail ((PE.pw h).1 hu).tail (AE.can (hu i (by simp)).1 h.ae)
theorem PE.canl {a u v : List Nat} (h : PE N (a ++ u) (a ++ v)) (hu : Pw N (a ++ u)) : PE N u v := by
  induction a with
  | nil => exact h
  | cons i a ih => exact ih (PE.can h hu) hu.tail
/-- a divides x on the left. -/
def Dv (N : Nat) (a x : List Nat) : Prop := ∃ c, PE N x (a ++ c)
theorem Dv.cons {i : Nat} {a x : List Nat} (h : Dv N a x) : Dv N (i :: a) (i :: x) := by
  obtain ⟨c, hc⟩ := h; exact ⟨c, hc.cons i⟩
theorem Dv.trans {a b c : List Nat} (h : Dv N a b) (k : Dv N b c) : Dv N a c := by
  obtain ⟨d, hd⟩ := h; obtain ⟨e, he⟩ := k
  refine ⟨d ++ e, he.trans ?_⟩
  have := hd.app [] e
  simpa [List.append_assoc] using this
theorem Dv.pe {a b x y : List Nat} (h : Dv N a x) (h1 : PE N a b) (h2 : PE N x y) : Dv N b y := by
  obtain ⟨c, hc⟩ := h
  have := h1.app [] c
  exact ⟨c, h2.symm.trans (hc.trans (by simpa using this))⟩
theorem Dv.uncons {i : Nat} {a x : List Nat} (h : Dv N (i :: a) (i :: x)) (hx : Pw N (i :: x)) : Dv N a x := by
  obtain ⟨c, hc⟩ := h; exact ⟨c, PE.can hc hx⟩
theorem Dv.nt {i : Nat} {x : List Nat} (h : Dv N [i] x) (hx : Pw N x) (hi : 1 ≤ i) : Nt i x := by
  obtain ⟨c, hc⟩ := h
  exact hc.symm.ae.nt ((PE.pw hc).1 hx) hx (nt_cons hi c)
/-- Two letters that divide: so does their least common multiple. -/
theorem two_div {i j : Nat} (hij : i ≠ j) (hi : 1 ≤ i ∧ i < N) (hj : 1 ≤ j ∧ j < N) {x : List Nat} (hx : Pw N (j :: x)) (h : Dv N [i] (j :: x)) :
    if i + 1 < j ∨ j + 1 < i then Dv N [i] x else Dv N [i, j] x := by
  have h0 := h.nt hx hi.1
  have h1 : Nt i x := fun k => no_of_run hj.1 hij (Tl_ch hx.tail k) (h0 k)
  obtain ⟨v, hv⟩ := divides x.length (Nat.le_refl _) hx.tail hi.1 hi.2 h1
  have hPv : Pw N (i :: v) := (PE.pw hv).1 hx.tail
  split
  · exact ⟨v, hv⟩
  · rename_i hn
    have h2 : Nt j v := fun k => by
      have e1 : Tl x k = run i (Tl v k) := hv.ae.tl hx.tail hPv k
      by_cases e : j = i + 1
      · subst e
        refine no_of_prev hi.1 (Tl_ch hPv.tail k) ?_
        rw [← e1]
        have := prev_of hj.1 (Tl_ch hx.tail k) (h0 k)
        rwa [show i + 1 - 1 = i by omega] at this
      · obtain rfl : i = j + 1 := by omega
        have := next_of hj.1 (Tl_ch hx.tail k) (h0 k)
        rw [e1] at this
        have := no_of_next (i := j + 1) hi.1 (Tl_ch hPv.tail k) (by rw [show j + 1 - 1 = j by omega]; exact this)
        rwa [show j + 1 - 1 = j by omega] at this
    obtain ⟨w, hw⟩ := divides v.length (Nat.le_refl _) hPv.tail hj.1 hj.2 h2
    exact ⟨w, hv.trans (hw.cons i)⟩
/-- The other way round: i and j divide their multiple. -/
theorem near_pe {i j : Nat} (hi : 1 ≤ i ∧ i < N) (hj : 1 ≤ j ∧ j < N) (hij : i = j + 1 ∨ j = i + 1) (c : List Nat) : PE N (j :: i :: j :: c) (i :: j :: i :: c) := by
  rcases hij with rfl | rfl
  · exact PE.braid [] c hj.1 hi.2
  · exact (PE.braid [] c hi.1 hj.2).symm
theorem far_pe {i j : Nat} (hi : 1 ≤ i ∧ i < N) (hj : 1 ≤ j ∧ j < N) (hij : i + 1 < j ∨ j + 1 < i) (c : List Nat) : PE N (j :: i :: c) (i :: j :: c) := by
  rcases hij with h | h
  · exact (PE.far [] c hi.1 hi.2 hj.1 hj.2 h).symm
  · exact PE.far [] c hj.1 hj.2 hi.1 hi.2 h
/-- LEAST COMMON MULTIPLES. -/
theorem lcm_ex : ∀ (m : Nat) {x : List Nat}, x.length = m → Pw N x → ∀ {a b : List Nat}, Dv N a x → Dv N b x → ∃ l, Dv N a l ∧ Dv N b l ∧ ∀ y, Pw N y → Dv N a y → Dv N b y → Dv N l y := by
  intro m
  induction m using Nat.strongRecOn with
  | _ m ih =>
    intro x hl hx a b ha hb
    have hself : ∀ w : List Nat, Dv N w w := fun w => ⟨[], by rw [List.append_nil]; exact .refl _⟩
    cases a with
    | nil => exact ⟨b, ⟨b, .refl _⟩, hself b, fun y _ _ h => h⟩
    | cons i a =>
    cases b with
    | nil => exact ⟨i :: a, hself _, ⟨i :: a, .refl _⟩, fun y _ h _ => h⟩
    | cons j b =>
    -- x as a word that begins with i, with j
    obtain ⟨ca, hca⟩ := ha
    obtain ⟨cb, hcb⟩ := hb
    have pa : Pw N (i :: (a ++ ca)) := (PE.pw hca).1 hx
    have pb : Pw N (j :: (b ++ cb)) := (PE.pw hcb).1 hx
    have hi := pa i (by simp); have hj := pb j (by simp)
    have la := hca.len; have lb := hcb.len
    simp only [List.cons_append, List.length_cons] at la lb
    by_cases hij : i = j
    · subst hij
      have hab : PE N (a ++ ca) (b ++ cb) := PE.can (hca.symm.trans hcb) pa
      obtain ⟨l, l1, l2, l3⟩ := ih (a ++ ca).length (by omega) rfl pa.tail ⟨ca, .refl _⟩ ⟨cb, hab⟩
      refine ⟨i :: l, l1.cons, l2.cons, fun y hy h1 h2 => ?_⟩
      obtain ⟨d, hd⟩ := h1
      have py : Pw N (i :: (a ++ d)) := (PE.pw hd).1 hy
      have h3 : Dv N b (a ++ d) := Dv.uncons (h2.pe (.refl _) hd) py
      exact (Dv.cons (l3 (a ++ d) py.tail ⟨d, .refl _⟩ h3)).pe (.refl _) hd.symm
    · -- the two words of the least common multiple of i and j
      obtain ⟨ui, uj, e1, e2, e3⟩ : ∃ ui uj : List Nat, PE N (j :: uj) (i :: ui) ∧ (∀ {y : List Nat}, Pw N (j :: y) → Dv N [i] (j :: y) → Dv N uj y) ∧ (∀ {y : List Nat}, Pw N (i :: y) → Dv N [j] (i :: y) → Dv N ui y) := by
        by_cases hf : i + 1 < j ∨ j + 1 < i
        · refine ⟨[j], [i], far_pe hi hj hf [], fun hy h => ?_, fun hy h => ?_⟩
          · have := two_div hij hi hj hy h; rwa [if_pos hf] at this
          · have := two_div (Ne.symm hij) hj hi hy h; rwa [if_pos (by omega)] at this
        · refine ⟨[j, i], [i, j], near_pe hi hj (by omega) [], fun hy h => ?_, fun hy h => ?_⟩
          · have := two_div hij hi hj hy h; rwa [if_neg hf] at this
          · have := two_div (Ne.symm hij) hj hi hy h; rwa [if_neg (by omega)] at this
      -- the least common multiple of i and b
      have hjx : Dv N [i] (j :: (b ++ cb)) := ⟨a ++ ca, hcb.symm.trans hca⟩
      obtain ⟨m1, k1, k2, k3⟩ := ih (b ++ cb).length (by omega) rfl pb.tail (e2 pb hjx) ⟨cb, .refl _⟩
      -- j m1 begins with i
      obtain ⟨c1, hc1⟩ := k1
      have q1 : PE N (j :: m1) (i :: (ui ++ c1)) := by
        have := e1.app [] c1
        exact (hc1.cons j).trans (by simpa using this)
      have hm1x : Dv N m1 (b ++ cb) := k3 _ pb.tail (e2 pb hjx) ⟨cb, .refl _⟩
      have q2 : Dv N (ui ++ c1) (a ++ ca) := by
        have h1 : Dv N (i :: (ui ++ c1)) (i :: (a ++ ca)) := (Dv.cons hm1x).pe q1 (hcb.symm.trans hca)
        exact h1.uncons pa
      obtain ⟨m2, r1, r2, r3⟩ := ih (a ++ ca).length (by omega) rfl pa.tail ⟨ca, .refl _⟩ q2
      refine ⟨i :: m2, r1.cons, ?_, fun y hy h1 h2 => ?_⟩
      · have h3 : Dv N (j :: b) (j :: m1) := k2.cons
        exact (h3.pe (.refl _) q1).trans r2.cons
      · obtain ⟨da, hda⟩ := h1
        obtain ⟨db, hdb⟩ := h2
        have pya : Pw N (i :: (a ++ da)) := (PE.pw hda).1 hy
        have pyb : Pw N (j :: (b ++ db)) := (PE.pw hdb).1 hy
        have h3 : Dv N [i] (j :: (b ++ db)) := ⟨a ++ da, hdb.symm.trans hda⟩
        have h4 : Dv N m1 (b ++ db) := k3 _ pyb.tail (e2 pyb h3) ⟨db, .refl _⟩
        have h5 : Dv N (i :: (ui ++ c1)) (i :: (a ++ da)) := (Dv.cons h4).pe q1 (hdb.symm.trans hda)
        exact (Dv.cons (r3 _ pya.tail ⟨da, .refl _⟩ (h5.uncons pya))).pe (.refl _) hda.symm
end
end Gar
end Go.Proofs.Ytkeaonceaaafcaa
