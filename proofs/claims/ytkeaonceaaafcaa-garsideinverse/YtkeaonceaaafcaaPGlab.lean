/- Labelled paths: what a positive letter does to them, and what can be seen of it. Paths are kept with their last crossing in front. -/
import Derived.Test.YtkeaonceaaafcaaPGgap
set_option linter.unusedVariables false
set_option linter.unusedSimpArgs false
namespace Go.Proofs.Ytkeaonceaaafcaa
namespace Gar
abbrev Cr := Nat × Nat
/-- b may follow a. -/
def Stp (a b : Cr) : Prop := (a.2 % 2 = 0 ∧ a.1 < b.1 ∧ b.2 = a.2 + 1) ∨ (a.2 % 2 = 0 ∧ b.1 < a.1 ∧ b.2 + 1 = a.2) ∨ (a.2 % 2 = 1 ∧ b.1 < a.1 ∧ b.2 = a.2 + 1) ∨ (a.2 % 2 = 1 ∧ a.1 < b.1 ∧ b.2 + 1 = a.2)
def Ch : List Cr → Prop
  | [] => True
  | [x] => x.2 = 0
  | b :: a :: t => Stp a b ∧ Ch (a :: t)
theorem Ch.tail {x : Cr} {t : List Cr} (h : Ch (x :: t)) : Ch t := by
  cases t with
  | nil => trivial
  | cons a t => exact h.2
theorem Ch.par {x : Cr} {t : List Cr} (h : Ch (x :: t)) : x.2 % 2 = t.length % 2 := by
  induction t generalizing x with
  | nil => have : x.2 = 0 := h; rw [this]; rfl
  | cons a t ih =>
    have h1 := ih h.2
    have h2 := h.1
    unfold Stp at h2
    simp only [List.length_cons]; omega
/-- The gaps put in before and behind. -/
def li_ (i l : Nat) : Nat := if l % 2 = 0 then i - 1 else i + 1
def ri_ (i l : Nat) : Nat := if l % 2 = 0 then i + 1 else i - 1
def pushL (x : Cr) : List Cr → List Cr
  | [] => [x]
  | y :: t => if x.1 = y.1 then t else x :: y :: t
theorem pushL_eq {x y : Cr} {t : List Cr} (h : x.1 = y.1) : pushL x (y :: t) = t := if_pos h
theorem pushL_ne {x y : Cr} {t : List Cr} (h : x.1 ≠ y.1) : pushL x (y :: t) = x :: y :: t := if_neg h
def run1 (i : Nat) (x : Cr) (st : List Cr) : List Cr := if x.1 = i then pushL (ri_ i x.2, x.2) (pushL (i, x.2 + 1) (pushL (li_ i x.2, x.2) st)) else pushL x st
def run (i : Nat) : List Cr → List Cr
  | [] => []
  | x :: t => run1 i x (run i t)
/-- After a crossing that stays. -/
def MA (i : Nat) (u : List Cr) : Prop := ∃ p u' st, u = p :: u' ∧ p.1 ≠ i ∧ run i u = p :: st ∧ Ch (p :: st) ∧ (∀ m t, st = (i, m) :: t → p.1 ≠ li_ i m)
/-- After a crossing of gap i. -/
def MB (i : Nat) (u : List Cr) : Prop := ∃ l u' st, u = (i, l) :: u' ∧ run i u = (ri_ i l, l) :: (i, l + 1) :: st ∧ Ch ((ri_ i l, l) :: (i, l + 1) :: st)
/-- After a crossing that has cancelled. -/
def MC (i : Nat) (u : List Cr) : Prop := ∃ l u' st, u = (ri_ i l, l + 1) :: (i, l) :: u' ∧ run i u = (i, l + 1) :: st ∧ Ch ((i, l + 1) :: st)
section
variable {i : Nat} (hi : 1 ≤ i)
include hi
theorem ri_ne (l : Nat) : ri_ i l ≠ i := by unfold ri_; split <;> omega
theorem li_ne (l : Nat) : li_ i l ≠ i := by unfold li_; split <;> omega
theorem stp_l (l : Nat) : Stp (li_ i l, l) (i, l + 1) := by
  unfold Stp li_; dsimp only; split <;> omega
theorem stp_r (l : Nat) : Stp (i, l + 1) (ri_ i l, l) := by
  unfold Stp ri_; dsimp only; split <;> omega
/-- One more crossing behind one that stays. -/
theorem stepA {u : List Cr} (h : MA i u) {x : Cr} (hx : Ch (x :: u)) : (x.1 ≠ i ∧ run i (x :: u) = x :: run i u ∧ MA i (x :: u)) ∨ (x.1 = i ∧ MB i (x :: u) ∧ ((∃ p st, run i u = p :: st ∧ p.1 = li_ i x.2 ∧ p.2 = x.2 + 1 ∧ run i (x :: u) = (ri_ i x.2, x.2) :: (i, x.2 + 1) :: st) ∨ ((∀ p st, run i u = p :: st → p.1 ≠ li_ i x.2) ∧ run i (x :: u) = (ri_ i x.2, x.2) :: (i, x.2 + 1) :: (li_ i x.2, x.2) :: run i u))) := by
  obtain ⟨p, u', st, rfl, hp, hr, hch, hc⟩ := h
  have hs : Stp p x := hx.1
  by_cases hxi : x.1 = i
  · right
    refine ⟨hxi, ?_⟩
    have hrx : run i (x :: p :: u') = pushL (ri_ i x.2, x.2) (pushL (i, x.2 + 1) (pushL (li_ i x.2, x.2) (p :: st))) := by
      show run1 i x (run i (p :: u')) = _
      rw [hr]; unfold run1; rw [if_pos hxi]
    obtain ⟨xg, xl⟩ := x
    obtain ⟨pg, pl⟩ := p
    dsimp only at hxi hrx hp hc hr ⊢
    subst hxi
    by_cases hcan : li_ xg xl = pg
    · have hl : pl = xl + 1 := by
        unfold Stp at hs; unfold li_ at hcan; dsimp only at hs; split at hcan <;> omega
      rw [pushL_eq hcan] at hrx
      have hrun : run xg ((xg, xl) :: (pg, pl) :: u') = (ri_ xg xl, xl) :: (xg, xl + 1) :: st ∧ Ch ((ri_ xg xl, xl) :: (xg, xl + 1) :: st) := by
        cases st with
        | nil =>
          have h0 : pl = 0 := hch
          omega
        | cons q st =>
          obtain ⟨qg, ql⟩ := q
          have hq : Stp (qg, ql) (pg, pl) := hch.1
          have hqi : xg ≠ qg := fun e => by
            subst e
            have := hc ql st rfl
            unfold Stp at hq; dsimp only at hq
            unfold li_ at this hcan
            split at this <;> split at hcan <;> omega
          have hq2 : Stp (qg, ql) (xg, xl + 1) := by
            unfold Stp at hq ⊢; dsimp only at hq ⊢
            unfold li_ at hcan
            split at hcan <;> omega
          rw [pushL_ne hqi, pushL_ne (ri_ne hi xl)] at hrx
          exact ⟨hrx, stp_r hi xl, hq2, hch.2⟩
      exact ⟨⟨xl, _, st, rfl, hrun.1, hrun.2⟩, .inl ⟨(pg, pl), st, hr, hcan.symm, hl, hrun.1⟩⟩
    · rw [pushL_ne hcan, pushL_ne (Ne.symm (li_ne hi xl)), pushL_ne (ri_ne hi xl)] at hrx
      have hst : Stp (pg, pl) (li_ xg xl, xl) := by
        unfold Stp at hs ⊢; dsimp only at hs ⊢
        unfold li_ at hcan ⊢
        split at hcan <;> (try rw [if_pos (by assumption)]) <;> (try rw [if_neg (by assumption)]) <;> omega
      exact ⟨⟨xl, _, _, rfl, hrx, stp_r hi xl, stp_l hi xl, hst, hch⟩, .inr ⟨fun p st' e => by rw [hr] at e; injection e with e1 e2; subst e1; exact Ne.symm hcan, by rw [hr]; exact hrx⟩⟩
  · left
    have hne : x.1 ≠ p.1 := by unfold Stp at hs; omega
    have hrx : run i (x :: p :: u') = x :: p :: st := by
      show run1 i x (run i (p :: u')) = _
      rw [hr]; unfold run1; rw [if_neg hxi, pushL_ne hne]
    refine ⟨hxi, by rw [hrx, hr], x, p :: u', p :: st, rfl, hxi, hrx, ⟨hs, hch⟩, fun m t e => ?_⟩
    injection e with e1 e2
    exact absurd (by rw [e1]) hp
/-- Behind a crossing of gap i. -/
theorem stepB {u : List Cr} (h : MB i u) {x : Cr} (hx : Ch (x :: u)) : (x.1 ≠ i ∧ run i (x :: u) = x :: run i u ∧ MA i (x :: u)) ∨ (MC i (x :: u) ∧ ∃ a, run i u = a :: run i (x :: u)) := by
  obtain ⟨l, u', st, rfl, hr, hch⟩ := h
  have hs : Stp (i, l) x := hx.1
  have hxi : x.1 ≠ i := by unfold Stp at hs; dsimp only at hs; omega
  have hrx : run i (x :: (i, l) :: u') = pushL x ((ri_ i l, l) :: (i, l + 1) :: st) := by
    show run1 i x (run i ((i, l) :: u')) = _
    rw [hr]; unfold run1; rw [if_neg hxi]
  obtain ⟨xg, xl⟩ := x
  dsimp only at hxi hrx ⊢
  by_cases hcan : xg = ri_ i l
  · right
    have hl : xl = l + 1 := by
      unfold Stp at hs; dsimp only at hs; unfold ri_ at hcan; split at hcan <;> omega
    rw [pushL_eq hcan] at hrx
    subst hcan hl
    exact ⟨⟨l, u', st, rfl, hrx, hch.2⟩, _, by rw [hr, hrx]⟩
  · left
    rw [pushL_ne hcan] at hrx
    have hst : Stp (ri_ i l, l) (xg, xl) := by
      unfold Stp at hs ⊢; dsimp only at hs ⊢
      unfold ri_ at hcan ⊢
      split at hcan <;> (try rw [if_pos (by assumption)]) <;> (try rw [if_neg (by assumption)]) <;> omega
    refine ⟨hxi, by rw [hrx, hr], _, _, _, rfl, hxi, hrx, ⟨hst, hch⟩, fun m t e => ?_⟩
    injection e with e1 e2
    exact absurd (by injection e1) (ri_ne hi l)
/-- Behind one that has cancelled. -/
theorem stepC {u : List Cr} (h : MC i u) {x : Cr} (hx : Ch (x :: u)) : (x.1 ≠ i ∧ run i (x :: u) = x :: run i u ∧ MA i (x :: u)) ∨ (x.1 = i ∧ MB i (x :: u) ∧ run i (x :: u) = (ri_ i x.2, x.2) :: (i, x.2 + 1) :: (li_ i x.2, x.2) :: run i u) := by
  obtain ⟨l, u', st, rfl, hr, hch⟩ := h
  have hs : Stp (ri_ i l, l + 1) x := hx.1
  obtain ⟨xg, xl⟩ := x
  by_cases hxi : xg = i
  · right
    subst hxi
    have hl : xl = l + 2 := by
      unfold Stp at hs; dsimp only at hs; unfold ri_ at hs; split at hs <;> omega
    have hrx : run xg ((xg, xl) :: (ri_ xg l, l + 1) :: (xg, l) :: u') = pushL (ri_ xg xl, xl) (pushL (xg, xl + 1) (pushL (li_ xg xl, xl) ((xg, l + 1) :: st))) := by
      show run1 xg (xg, xl) (run xg ((ri_ xg l, l + 1) :: (xg, l) :: u')) = _
      rw [hr]; unfold run1; rw [if_pos rfl]
    rw [pushL_ne (li_ne hi xl), pushL_ne (Ne.symm (li_ne hi xl)), pushL_ne (ri_ne hi xl)] at hrx
    have hst : Stp (xg, l + 1) (li_ xg xl, xl) := by
      unfold Stp li_; dsimp only; subst hl; split <;> omega
    exact ⟨rfl, ⟨xl, _, _, rfl, hrx, stp_r hi xl, stp_l hi xl, hst, hch⟩, by rw [hr]; exact hrx⟩
  · left
    have hrx : run i ((xg, xl) :: (ri_ i l, l + 1) :: (i, l) :: u') = (xg, xl) :: (i, l + 1) :: st := by
      show run1 i (xg, xl) (run i ((ri_ i l, l + 1) :: (i, l) :: u')) = _
      rw [hr]; unfold run1; rw [if_neg hxi, pushL_ne hxi]
    have hst : Stp (i, l + 1) (xg, xl) := by
      unfold Stp at hs ⊢; dsimp only at hs ⊢; unfold ri_ at hs; split at hs <;> omega
    refine ⟨hxi, by rw [hrx, hr], _, _, _, rfl, hxi, hrx, ⟨hst, hch⟩, fun m t e => ?_⟩
    injection e with e1 e2
    injection e1 with _ e1
    subst e1
    dsimp only
    unfold Stp at hs; dsimp only at hs
    unfold ri_ at hs; unfold li_
    split at hs <;> split <;> omega
theorem step0 {x : Cr} (hx : Ch [x]) : (x.1 ≠ i ∧ run i [x] = [x] ∧ MA i [x]) ∨ (x.1 = i ∧ MB i [x] ∧ run i [x] = [(ri_ i x.2, x.2), (i, x.2 + 1), (li_ i x.2, x.2)]) := by
  obtain ⟨xg, xl⟩ := x
  have h0 : xl = 0 := hx
  subst h0
  by_cases hxi : xg = i
  · right
    subst hxi
    have hrx : run xg [(xg, 0)] = [(ri_ xg 0, 0), (xg, 1), (li_ xg 0, 0)] := by
      show run1 xg (xg, 0) [] = _
      unfold run1; rw [if_pos rfl]
      show pushL _ (pushL _ [(li_ xg 0, 0)]) = _
      rw [pushL_ne (Ne.symm (li_ne hi 0)), pushL_ne (ri_ne hi 0)]
    exact ⟨rfl, ⟨0, [], _, rfl, hrx, stp_r hi 0, stp_l hi 0, rfl⟩, hrx⟩
  · left
    have hrx : run i [(xg, 0)] = [(xg, 0)] := by
      show run1 i (xg, 0) [] = _
      unfold run1; rw [if_neg hxi]; rfl
    exact ⟨hxi, hrx, _, _, _, rfl, hxi, hrx, rfl, fun m t e => by cases e⟩
theorem modes : ∀ {u : List Cr}, u ≠ [] → Ch u → MA i u ∨ MB i u ∨ MC i u
  | [], h, _ => absurd rfl h
  | [x], _, hc => by
    rcases step0 hi hc with ⟨_, _, h⟩ | ⟨_, h, _⟩
    · exact .inl h
    · exact .inr (.inl h)
  | x :: y :: t, _, hc => by
    rcases modes (u := y :: t) (by simp) hc.tail with h | h | h
    · rcases stepA hi h hc with ⟨_, _, k⟩ | ⟨_, k, _⟩
      · exact .inl k
      · exact .inr (.inl k)
    · rcases stepB hi h hc with ⟨_, _, k⟩ | ⟨k, _⟩
      · exact .inl k
      · exact .inr (.inr k)
    · rcases stepC hi h hc with ⟨_, _, k⟩ | ⟨_, k, _⟩
      · exact .inl k
      · exact .inr (.inl k)
theorem run_ch {u : List Cr} (hc : Ch u) : Ch (run i u) := by
  by_cases hu : u = []
  · subst hu; trivial
  rcases modes hi hu hc with ⟨p, u', st, _, _, hr, hch, _⟩ | ⟨l, u', st, _, hr, hch⟩ | ⟨l, u', st, _, hr, hch⟩ <;> rw [hr] <;> exact hch
/-- A part of what has come out that will stay. -/
def Safe (i : Nat) (u S : List Cr) : Prop := ∃ e, run i u = e ++ S ∧ (e = [] → MC i u ∨ (MA i u ∧ ∀ q S', S = q :: S' → q.2 = 0 ∨ ∀ l, q.2 = l + 1 → q.1 ≠ li_ i l))
theorem Safe.step {u S : List Cr} (hu : u ≠ []) (h : Safe i u S) {x : Cr} (hx : Ch (x :: u)) : Safe i (x :: u) S := by
  obtain ⟨e, he, hs⟩ := h
  rcases modes hi hu hx.tail with hA | hB | hC
  · rcases stepA hi hA hx with ⟨h1, h2, h3⟩ | ⟨h1, h2, ⟨p, st, h3, h4, h5, h6⟩ | ⟨h3, h4⟩⟩
    · exact ⟨x :: e, by rw [h2, he]; rfl, fun h => by cases h⟩
    · cases e with
      | nil =>
        exfalso
        have hpS : S = p :: st := by rw [← h3, he]; rfl
        rcases hs rfl with hC | ⟨_, hA'⟩
        · obtain ⟨l, u', st', e1, _, _⟩ := hC
          obtain ⟨p', u'', st'', e2, e3, e4, _, _⟩ := hA
          rw [e1] at e2
          injection e2 with e2 _
          obtain ⟨l2, u2, st2, f1, f2, _⟩ := (⟨l, u', st', e1, by assumption, by assumption⟩ : MC i u)
          rw [f2] at e4
          injection e4 with e4 _
          rw [← e4] at e3
          exact e3 rfl
        · rcases hA' p st hpS with h0 | h0
          · omega
          · exact h0 x.2 h5 h4
      | cons a e =>
        rw [h3] at he
        injection he with _ he
        exact ⟨(ri_ i x.2, x.2) :: (i, x.2 + 1) :: e, by rw [h6, he]; rfl, fun h => by cases h⟩
    · exact ⟨(ri_ i x.2, x.2) :: (i, x.2 + 1) :: (li_ i x.2, x.2) :: e, by rw [h4, he]; rfl, fun h => by cases h⟩
  · rcases stepB hi hB hx with ⟨h1, h2, h3⟩ | ⟨h1, a, h2⟩
    · exact ⟨x :: e, by rw [h2, he]; rfl, fun h => by cases h⟩
    · cases e with
      | nil =>
        exfalso
        obtain ⟨l, u', st, e1, e2, _⟩ := hB
        rcases hs rfl with hC | ⟨hA, _⟩
        · obtain ⟨l2, u2, st2, f1, f2, _⟩ := hC
          rw [e2] at f2
          injection f2 with f2 _
          injection f2 with f2 _
          exact ri_ne hi l f2
        · obtain ⟨p, u2, st2, f1, f2, f3, _, _⟩ := hA
          rw [e1] at f1
          injection f1 with f1 _
          rw [← f1] at f2
          exact f2 rfl
      | cons b e =>
        rw [h2] at he
        injection he with _ he
        exact ⟨e, he, fun _ => .inl h1⟩
  · rcases stepC hi hC hx with ⟨h1, h2, h3⟩ | ⟨h1, h2, h3⟩
    · exact ⟨x :: e, by rw [h2, he]; rfl, fun h => by cases h⟩
    · exact ⟨(ri_ i x.2, x.2) :: (i, x.2 + 1) :: (li_ i x.2, x.2) :: e, by rw [h3, he]; rfl, fun h => by cases h⟩
omit hi in
theorem Ch.suffix : ∀ {v u : List Cr}, Ch (v ++ u) → Ch u
  | [], _, h => h
  | x :: v, _, h => Ch.suffix (v := v) (Ch.tail h)
theorem Safe.on {u S : List Cr} (hu : u ≠ []) (h : Safe i u S) : ∀ {v : List Cr}, Ch (v ++ u) → ∃ e, run i (v ++ u) = e ++ S := by
  have key : ∀ (v : List Cr), Ch (v ++ u) → Safe i (v ++ u) S := by
    intro v
    induction v with
    | nil => intro _; exact h
    | cons x v ih =>
      intro hc
      exact (ih hc.tail).step hi (by cases v <;> simp [hu]) hc
  intro v hc
  obtain ⟨e, he, _⟩ := key v hc
  exact ⟨e, he⟩
/-- A crossing of level 0 at another gap stays. -/
theorem keep0 {v t : List Cr} {h : Nat} (hh : h ≠ i) (hc : Ch (v ++ (h, 0) :: t)) : run i ((h, 0) :: t) = (h, 0) :: run i t ∧ Safe i ((h, 0) :: t) ((h, 0) :: run i t) := by
  have hc0 : Ch ((h, 0) :: t) := Ch.suffix hc
  have hr : run i ((h, 0) :: t) = (h, 0) :: run i t ∧ MA i ((h, 0) :: t) := by
    cases t with
    | nil =>
      rcases step0 hi hc0 with ⟨_, h2, h3⟩ | ⟨h1, _⟩
      · exact ⟨h2, h3⟩
      · exact absurd h1 hh
    | cons y t =>
      rcases modes hi (u := y :: t) (by simp) hc0.tail with hA | hB | hC
      · rcases stepA hi hA hc0 with ⟨_, h2, h3⟩ | ⟨h1, _⟩
        · exact ⟨h2, h3⟩
        · exact absurd h1 hh
      · rcases stepB hi hB hc0 with ⟨_, h2, h3⟩ | ⟨h1, _⟩
        · exact ⟨h2, h3⟩
        · obtain ⟨l, u', st, e1, _⟩ := h1
          injection e1 with e1 _
          injection e1 with _ e1
          omega
      · rcases stepC hi hC hc0 with ⟨_, h2, h3⟩ | ⟨h1, _⟩
        · exact ⟨h2, h3⟩
        · exact absurd h1 hh
  exact ⟨hr.1, [], by rw [hr.1]; rfl, fun _ => .inr ⟨hr.2, fun q S' e => by injection e with e _; subst e; exact .inl rfl⟩⟩
/-- No crossing of gap i at level 0. -/
def No (i : Nat) (u : List Cr) : Prop := (i, 0) ∉ u
theorem lab_i {u : List Cr} : ∀ x ∈ run i u, x.1 = i → 1 ≤ x.2 := by
  have hpush : ∀ {x : Cr} {st : List Cr}, (x.1 = i → 1 ≤ x.2) → (∀ y ∈ st, y.1 = i → 1 ≤ y.2) → ∀ y ∈ pushL x st, y.1 = i → 1 ≤ y.2 := by
    intro x st h1 h2 y hy
    cases st with
    | nil => simp only [pushL, List.mem_singleton] at hy; subst hy; exact h1
    | cons z st =>
      by_cases e : x.1 = z.1
      · rw [pushL_eq e] at hy; exact h2 y (by simp [hy])
      · rw [pushL_ne e] at hy
        rcases List.mem_cons.1 hy with rfl | hy
        · exact h1
        · exact h2 y hy
  induction u with
  | nil => intro x hx; simp [run] at hx
  | cons x u ih =>
    show ∀ y ∈ run1 i x (run i u), _
    unfold run1
    split
    · exact hpush (fun e => absurd e (ri_ne hi _)) (hpush (fun _ => by dsimp only; omega) (hpush (fun e => absurd e (li_ne hi _)) ih))
    · rename_i hne; exact hpush (fun e => absurd e hne) ih
theorem no_run (u : List Cr) : No i (run i u) := fun h => by
  have := lab_i hi _ h rfl
  omega
theorem no_of_run {j : Nat} (hj : j ≠ i) {u : List Cr} (hc : Ch u) (h : No j (run i u)) : No j u := fun hm => by
  obtain ⟨v, t, rfl⟩ := List.append_of_mem hm
  obtain ⟨_, hs⟩ := keep0 hi hj hc
  obtain ⟨e, he⟩ := hs.on hi (by simp) hc
  exact h (by rw [he]; simp)
/-- Every crossing of gap j at level 0 comes behind one of gap k. -/
def Prev (j k : Nat) (u : List Cr) : Prop := ∀ v t, u = v ++ (j, 0) :: t → ∃ m t', t = (k, m) :: t'
def Next (j k : Nat) (u : List Cr) : Prop := ∀ v t, u = v ++ (j, 0) :: t → ∃ v' m, v = v' ++ [(k, m)]
/-- What comes out of a crossing of gap i at level 0. -/
theorem run_at {t : List Cr} (hc : Ch ((i, 0) :: t)) : (∃ st, run i ((i, 0) :: t) = (i + 1, 0) :: (i, 1) :: st) ∧ ((∀ m t', t ≠ (i - 1, m) :: t') → run i ((i, 0) :: t) = (i + 1, 0) :: (i, 1) :: (i - 1, 0) :: run i t) := by
  have r0 : ri_ i 0 = i + 1 := rfl
  have l0 : li_ i 0 = i - 1 := rfl
  cases t with
  | nil =>
    rcases step0 hi hc with ⟨h1, _⟩ | ⟨_, _, h3⟩
    · exact absurd rfl h1
    · exact ⟨⟨_, h3⟩, fun _ => h3⟩
  | cons y t =>
    rcases modes hi (u := y :: t) (by simp) hc.tail with hA | hB | hC
    · rcases stepA hi hA hc with ⟨h1, _⟩ | ⟨_, _, ⟨p, st, h3, h4, h5, h6⟩ | ⟨h3, h4⟩⟩
      · exact absurd rfl h1
      · refine ⟨⟨st, h6⟩, fun hn => ?_⟩
        obtain ⟨p', u', st', e1, _, e3, _, _⟩ := hA
        rw [h3] at e3
        injection e3 with e3 _
        injection e1 with e1 _
        obtain ⟨yg, yl⟩ := y
        rw [e3, ← e1, l0] at h4
        dsimp only at h4
        exact absurd (by rw [h4]) (hn yl t)
      · exact ⟨⟨_, h4⟩, fun _ => h4⟩
    · obtain ⟨l, u', st, e1, _⟩ := hB
      injection e1 with e1 _
      have hs := hc.1
      rw [e1] at hs
      unfold Stp at hs
      dsimp only at hs
      omega
    · rcases stepC hi hC hc with ⟨h1, _⟩ | ⟨_, _, h3⟩
      · exact absurd rfl h1
      · exact ⟨⟨_, h3⟩, fun _ => h3⟩
omit hi in
theorem safe_ne {u S e : List Cr} (he : run i u = e ++ S) (hne : e ≠ []) : Safe i u S := ⟨e, he, fun h => absurd h hne⟩
theorem prev_of {u : List Cr} (hc : Ch u) (h : No (i - 1) (run i u)) : Prev i (i - 1) u := by
  intro v t e
  subst e
  have hc0 : Ch ((i, 0) :: t) := Ch.suffix hc
  refine Classical.byContradiction fun hn => ?_
  have h1 := (run_at hi hc0).2 fun m t' e => hn ⟨m, t', e⟩
  have hs : Safe i ((i, 0) :: t) ((i - 1, 0) :: run i t) := safe_ne (e := [(i + 1, 0), (i, 1)]) h1 (by simp)
  obtain ⟨e, he⟩ := hs.on hi (by simp) hc
  exact h (by rw [he]; simp)
theorem next_of {u : List Cr} (hc : Ch u) (h : No (i + 1) (run i u)) : Next i (i + 1) u := by
  intro v t e
  subst e
  have hc0 : Ch ((i, 0) :: t) := Ch.suffix hc
  obtain ⟨st, h1⟩ := (run_at hi hc0).1
  rcases List.eq_nil_or_concat v with rfl | ⟨v', x, rfl⟩
  · exact absurd (by show (i + 1, 0) ∈ run i ((i, 0) :: t); rw [h1]; simp) h
  · rw [List.concat_eq_append] at hc h ⊢
    refine ⟨v', x.2, ?_⟩
    rw [List.append_assoc] at hc
    have hcx : Ch (x :: (i, 0) :: t) := Ch.suffix hc
    have hB : MB i ((i, 0) :: t) := by
      rcases modes hi (u := (i, 0) :: t) (by simp) hc0 with hA | hB | hC
      · obtain ⟨p, u', st', e1, e2, _⟩ := hA
        injection e1 with e1 _
        rw [← e1] at e2; exact absurd rfl e2
      · exact hB
      · obtain ⟨l, u', st', e1, _⟩ := hC
        injection e1 with e1 _
        injection e1 with _ e1
        omega
    rcases stepB hi hB hcx with ⟨_, h2, _⟩ | ⟨⟨l, u', st', e1, _⟩, _⟩
    · exfalso
      have hs : Safe i (x :: (i, 0) :: t) ((i + 1, 0) :: (i, 1) :: st) := safe_ne (e := [x]) (by rw [h2, h1]; rfl) (by simp)
      obtain ⟨e, he⟩ := hs.on hi (by simp) hc
      refine h ?_
      rw [List.append_assoc]
      show (i + 1, 0) ∈ run i (v' ++ x :: (i, 0) :: t)
      rw [he]; simp
    · injection e1 with e1 e2
      injection e2 with e2 _
      injection e2 with _ e2
      subst e2
      have : x = (i + 1, 1) := e1
      rw [this]
theorem no_of_prev {u : List Cr} (hc : Ch u) (h : Prev (i + 1) i (run i u)) : No (i + 1) u := fun hm => by
  obtain ⟨v, t, rfl⟩ := List.append_of_mem hm
  obtain ⟨_, hs⟩ := keep0 hi (h := i + 1) (by omega) hc
  obtain ⟨e, he⟩ := hs.on hi (by simp) hc
  obtain ⟨m, t', ht⟩ := h e _ he
  have hc0 : Ch ((i + 1, 0) :: t) := Ch.suffix hc
  cases t with
  | nil => simp [run] at ht
  | cons y t =>
    have hst := hc0.1
    unfold Stp at hst
    dsimp only at hst
    rcases modes hi (u := y :: t) (by simp) hc0.tail with hA | hB | hC
    · obtain ⟨p, u', st, e1, e2, e3, _⟩ := hA
      rw [ht] at e3
      injection e3 with e3 _
      rw [← e3] at e2; exact e2 rfl
    · obtain ⟨l, u', st, e1, e2, _⟩ := hB
      rw [ht] at e2
      injection e2 with e2 _
      injection e2 with e2 _
      exact ri_ne hi l e2.symm
    · obtain ⟨l, u', st, e1, e2, _⟩ := hC
      injection e1 with e1 _
      rw [e1] at hst
      dsimp only at hst
      obtain rfl : l = 0 := by omega
      have : ri_ i 0 = i + 1 := rfl
      omega
theorem no_of_next {u : List Cr} (hc : Ch u) (h : Next (i - 1) i (run i u)) : No (i - 1) u := fun hm => by
  obtain ⟨v, t, rfl⟩ := List.append_of_mem hm
  obtain ⟨hk, hs⟩ := keep0 hi (h := i - 1) (by omega) hc
  have hc0 : Ch ((i - 1, 0) :: t) := Ch.suffix hc
  rcases List.eq_nil_or_concat v with rfl | ⟨v', x, rfl⟩
  · obtain ⟨v', m, e⟩ := h [] (run i t) (by show run i ((i - 1, 0) :: t) = _; rw [hk]; rfl)
    cases v' <;> cases e
  · rw [List.concat_eq_append] at hc h
    rw [List.append_assoc] at hc
    have hcx : Ch (x :: (i - 1, 0) :: t) := Ch.suffix hc
    have hA : MA i ((i - 1, 0) :: t) := by
      rcases modes hi (u := (i - 1, 0) :: t) (by simp) hc0 with hA | hB | hC
      · exact hA
      · obtain ⟨l, u', st', e1, _⟩ := hB
        injection e1 with e1 _
        injection e1 with e1 _
        omega
      · obtain ⟨l, u', st', e1, _⟩ := hC
        injection e1 with e1 _
        injection e1 with _ e1
        omega
    have hst := hcx.1
    unfold Stp at hst
    dsimp only at hst
    have fin : ∀ {y : Cr}, y.1 ≠ i → Safe i (x :: (i - 1, 0) :: t) (y :: (i - 1, 0) :: run i t) → False := fun {y} hy hsf => by
      obtain ⟨e, he⟩ := hsf.on hi (by simp) hc
      obtain ⟨v2, m, e2⟩ := h (e ++ [y]) (run i t) (by
        rw [List.append_assoc]
        show run i (v' ++ x :: (i - 1, 0) :: t) = _
        rw [he]; simp)
      have := List.append_inj_right' e2 rfl
      injection this with this _
      rw [this] at hy; exact hy rfl
    rcases stepA hi hA hcx with ⟨h1, h2, h3⟩ | ⟨h1, _, ⟨p, st, h3, h4, h5, h6⟩ | ⟨h3, h4⟩⟩
    · refine fin h1 ⟨[], by rw [h2, hk]; rfl, fun _ => .inr ⟨h3, fun q S' e => ?_⟩⟩
      injection e with e _
      subst e
      refine .inr fun l hl => ?_
      obtain rfl : l = 0 := by omega
      have : li_ i 0 = i - 1 := rfl
      omega
    · rw [hk] at h3
      injection h3 with h3 _
      rw [← h3] at h5
      dsimp only at h5
      omega
    · refine fin (y := (li_ i x.2, x.2)) (li_ne hi _) (safe_ne (e := [(ri_ i x.2, x.2), (i, x.2 + 1)]) ?_ (by simp))
      rw [h4, hk]; rfl
end
end Gar
end Go.Proofs.Ytkeaonceaaafcaa
