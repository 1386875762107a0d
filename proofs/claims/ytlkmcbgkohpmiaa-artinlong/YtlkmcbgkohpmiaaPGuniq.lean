/- Joined: PGlab, PGdiv, PGuniq. -/
import Derived.Test.YtlkmcbgkohpmiaaPGgap
import Derived.Test.YtlkmcbgkohpmiaaPGhom
/- Labelled paths: what a positive letter does to them, and what can be seen of it. Paths are kept with their last crossing in front. -/
set_option linter.unusedVariables false
set_option linter.unusedSimpArgs false
namespace Go.Proofs.Ytlkmcbgkohpmiaa
namespace Gar
abbrev Cr := Nat × Nat
/-- b may follow a. -/
def Stp (a b : Cr) : Prop := (a.2 % 2 = 0 ∧ a.1 < b.1 ∧ b.2 = a.2 + 1) ∨ (a.2 % 2 = 0 ∧ b.1 < a.1 ∧ b.2 + 1 = a.2) ∨ (a.2 % 2 = 1 ∧ b.1 < a.1 ∧ b.2 = a.2 + 1) ∨ (a.2 % 2 = 1 ∧ a.1 < b.1 ∧ b.2 + 1 = a.2)
def Ch : List Cr → Prop
  | [] => True
  | [x] => x.2 = 0
  | b :: a :: t => Stp a b ∧ Ch (a :: t)
theorem Ch.tail {x : Cr} {t : List Cr} (h : Ch (x :: t)) : Ch t := by
  cases t with
  | nil => trivial
  | cons a t => exact h.2
theorem Ch.par {x : Cr} {t : List Cr} (h : Ch (x :: t)) : x.2 % 2 = t.length % 2 := by
  induction t generalizing x with
  | nil => have : x.2 = 0 := h; rw [this]; rfl
  | cons a t ih =>
    have h1 := ih h.2
    have h2 := h.1
    unfold Stp at h2
    simp only [List.length_cons]; omega
/-- The gaps put in before and behind. -/
def li_ (i l : Nat) : Nat := if l % 2 = 0 then i - 1 else i + 1
def ri_ (i l : Nat) : Nat := if l % 2 = 0 then i + 1 else i - 1
def pushL (x : Cr) : List Cr → List Cr
  | [] => [x]
  | y :: t => if x.1 = y.1 then t else x :: y :: t
theorem pushL_eq {x y : Cr} {t : List Cr} (h : x.1 = y.1) : pushL x (y :: t) = t := if_pos h
theorem pushL_ne {x y : Cr} {t : List Cr} (h : x.1 ≠ y.1) : pushL x (y :: t) = x :: y :: t := if_neg h
def run1 (i : Nat) (x : Cr) (st : List Cr) : List Cr := if x.1 = i then pushL (ri_ i x.2, x.2) (pushL (i, x.2 + 1) (pushL (li_ i x.2, x.2) st)) else pushL x st
def run (i : Nat) : List Cr → List Cr
  | [] => []
  | x :: t => run1 i x (run i t)
/-- After a crossing that stays. -/
def MA (i : Nat) (u : List Cr) : Prop := ∃ p u' st, u = p :: u' ∧ p.1 ≠ i ∧ run i u = p :: st ∧ Ch (p :: st) ∧ (∀ m t, st = (i, m) :: t → p.1 ≠ li_ i m)
/-- After a crossing of gap i. -/
def MB (i : Nat) (u : List Cr) : Prop := ∃ l u' st, u = (i, l) :: u' ∧ run i u = (ri_ i l, l) :: (i, l + 1) :: st ∧ Ch ((ri_ i l, l) :: (i, l + 1) :: st)
/-- After a crossing that has cancelled. -/
def MC (i : Nat) (u : List Cr) : Prop := ∃ l u' st, u = (ri_ i l, l + 1) :: (i, l) :: u' ∧ run i u = (i, l + 1) :: st ∧ Ch ((i, l + 1) :: st)
section
variable {i : Nat} (hi : 1 ≤ i)
include hi
theorem ri_ne (l : Nat) : ri_ i l ≠ i := by unfold ri_; split <;> omega
theorem li_ne (l : Nat) : li_ i l ≠ i := by unfold li_; split <;> omega
theorem stp_l (l : Nat) : Stp (li_ i l, l) (i, l + 1) := by
  unfold Stp li_; dsimp only; split <;> omega
theorem stp_r (l : Nat) : Stp (i, l + 1) (ri_ i l, l) := by
  unfold Stp ri_; dsimp only; split <;> omega
/-- One more crossing behind one that stays. -/
theorem stepA {u : List Cr} (h : MA i u) {x : Cr} (hx : Ch (x :: u)) : (x.1 ≠ i ∧ run i (x :: u) = x :: run i u ∧ MA i (x :: u)) ∨ (x.1 = i ∧ MB i (x :: u) ∧ ((∃ p st, run i u = p :: st ∧ p.1 = li_ i x.2 ∧ p.2 = x.2 + 1 ∧ run i (x :: u) = (ri_ i x.2, x.2) :: (i, x.2 + 1) :: st) ∨ ((∀ p st, run i u = p :: st → p.1 ≠ li_ i x.2) ∧ run i (x :: u) = (ri_ i x.2, x.2) :: (i, x.2 + 1) :: (li_ i x.2, x.2) :: run i u))) := by
  obtain ⟨p, u', st, rfl, hp, hr, hch, hc⟩ := h
  have hs : Stp p x := hx.1
  by_cases hxi : x.1 = i
  · right
    refine ⟨hxi, ?_⟩
    have hrx : run i (x :: p :: u') = pushL (ri_ i x.2, x.2) (pushL (i, x.2 + 1) (pushL (li_ i x.2, x.2) (p :: st))) := by
      show run1 i x (run i (p :: u')) = _
      rw [hr]; unfold run1; rw [if_pos hxi]
    obtain ⟨xg, xl⟩ := x
    obtain ⟨pg, pl⟩ := p
    dsimp only at hxi hrx hp hc hr ⊢
    subst hxi
    by_cases hcan : li_ xg xl = pg
    · have hl : pl = xl + 1 := by
        unfold Stp at hs; unfold li_ at hcan; dsimp only at hs; split at hcan <;> omega
      rw [pushL_eq hcan] at hrx
      have hrun : run xg ((xg, xl) :: (pg, pl) :: u') = (ri_ xg xl, xl) :: (xg, xl + 1) :: st ∧ Ch ((ri_ xg xl, xl) :: (xg, xl + 1) :: st) := by
        cases st with
        | nil =>
          have h0 : pl = 0 := hch
          omega
        | cons q st =>
          obtain ⟨qg, ql⟩ := q
          have hq : Stp (qg, ql) (pg, pl) := hch.1
          have hqi : xg ≠ qg := fun e => by
            subst e
            have := hc ql st rfl
            unfold Stp at hq; dsimp only at hq
            unfold li_ at this hcan
            split at this <;> split at hcan <;> omega
          have hq2 : Stp (qg, ql) (xg, xl + 1) := by
            unfold Stp at hq ⊢; dsimp only at hq ⊢
            unfold li_ at hcan
            split at hcan <;> omega
          rw [pushL_ne hqi, pushL_ne (ri_ne hi xl)] at hrx
          exact ⟨hrx, stp_r hi xl, hq2, hch.2⟩
      exact ⟨⟨xl, _, st, rfl, hrun.1, hrun.2⟩, .inl ⟨(pg, pl), st, hr, hcan.symm, hl, hrun.1⟩⟩
    · rw [pushL_ne hcan, pushL_ne (Ne.symm (li_ne hi xl)), pushL_ne (ri_ne hi xl)] at hrx
      have hst : Stp (pg, pl) (li_ xg xl, xl) := by
        unfold Stp at hs ⊢; dsimp only at hs ⊢
        unfold li_ at hcan ⊢
        split at hcan <;> (try rw [if_pos (by assumption)]) <;> (try rw [if_neg (by assumption)]) <;> omega
      exact ⟨⟨xl, _, _, rfl, hrx, stp_r hi xl, stp_l hi xl, hst, hch⟩, .inr ⟨fun p st' e => by rw [hr] at e; injection e with e1 e2; subst e1; exact Ne.symm hcan, by rw [hr]; exact hrx⟩⟩
  · left
    have hne : x.1 ≠ p.1 := by unfold Stp at hs; omega
    have hrx : run i (x :: p :: u') = x :: p :: st := by
      show run1 i x (run i (p :: u')) = _
      rw [hr]; unfold run1; rw [if_neg hxi, pushL_ne hne]
    refine ⟨hxi, by rw [hrx, hr], x, p :: u', p :: st, rfl, hxi, hrx, ⟨hs, hch⟩, fun m t e => ?_⟩
    injection e with e1 e2
    exact absurd (by rw [e1]) hp
/-- Behind a crossing of gap i. -/
theorem stepB {u : List Cr} (h : MB i u) {x : Cr} (hx : Ch (x :: u)) : (x.1 ≠ i ∧ run i (x :: u) = x :: run i u ∧ MA i (x :: u)) ∨ (MC i (x :: u) ∧ ∃ a, run i u = a :: run i (x :: u)) := by
  obtain ⟨l, u', st, rfl, hr, hch⟩ := h
  have hs : Stp (i, l) x := hx.1
  have hxi : x.1 ≠ i := by unfold Stp at hs; dsimp only at hs; omega
  have hrx : run i (x :: (i, l) :: u') = pushL x ((ri_ i l, l) :: (i, l + 1) :: st) := by
    show run1 i x (run i ((i, l) :: u')) = _
    rw [hr]; unfold run1; rw [if_neg hxi]
  obtain ⟨xg, xl⟩ := x
  dsimp only at hxi hrx ⊢
  by_cases hcan : xg = ri_ i l
  · right
    have hl : xl = l + 1 := by
      unfold Stp at hs; dsimp only at hs; unfold ri_ at hcan; split at hcan <;> omega
    rw [pushL_eq hcan] at hrx
    subst hcan hl
    exact ⟨⟨l, u', st, rfl, hrx, hch.2⟩, _, by rw [hr, hrx]⟩
  · left
    rw [pushL_ne hcan] at hrx
    have hst : Stp (ri_ i l, l) (xg, xl) := by
      unfold Stp at hs ⊢; dsimp only at hs ⊢
      unfold ri_ at hcan ⊢
      split at hcan <;> (try rw [if_pos (by assumption)]) <;> (try rw [if_neg (by assumption)]) <;> omega
    refine ⟨hxi, by rw [hrx, hr], _, _, _, rfl, hxi, hrx, ⟨hst, hch⟩, fun m t e => ?_⟩
    injection e with e1 e2
    exact absurd (by injection e1) (ri_ne hi l)
/-- Behind one that has cancelled. -/
theorem stepC {u : List Cr} (h : MC i u) {x : Cr} (hx : Ch (x :: u)) : (x.1 ≠ i ∧ run i (x :: u) = x :: run i u ∧ MA i (x :: u)) ∨ (x.1 = i ∧ MB i (x :: u) ∧ run i (x :: u) = (ri_ i x.2, x.2) :: (i, x.2 + 1) :: (li_ i x.2, x.2) :: run i u) := by
  obtain ⟨l, u', st, rfl, hr, hch⟩ := h
  have hs : Stp (ri_ i l, l + 1) x := hx.1
  obtain ⟨xg, xl⟩ := x
  by_cases hxi : xg = i
  · right
    subst hxi
    have hl : xl = l + 2 := by
      unfold Stp at hs; dsimp only at hs; unfold ri_ at hs; split at hs <;> omega
    have hrx : run xg ((xg, xl) :: (ri_ xg l, l + 1) :: (xg, l) :: u') = pushL (ri_ xg xl, xl) (pushL (xg, xl + 1) (pushL (li_ xg xl, xl) ((xg, l + 1) :: st))) := by
      show run1 xg (xg, xl) (run xg ((ri_ xg l, l + 1) :: (xg, l) :: u')) = _
      rw [hr]; unfold run1; rw [if_pos rfl]
    rw [pushL_ne (li_ne hi xl), pushL_ne (Ne.symm (li_ne hi xl)), pushL_ne (ri_ne hi xl)] at hrx
    have hst : Stp (xg, l + 1) (li_ xg xl, xl) := by
      unfold Stp li_; dsimp only; subst hl; split <;> omega
    exact ⟨rfl, ⟨xl, _, _, rfl, hrx, stp_r hi xl, stp_l hi xl, hst, hch⟩, by rw [hr]; exact hrx⟩
  · left
    have hrx : run i ((xg, xl) :: (ri_ i l, l + 1) :: (i, l) :: u') = (xg, xl) :: (i, l + 1) :: st := by
      show run1 i (xg, xl) (run i ((ri_ i l, l + 1) :: (i, l) :: u')) = _
      rw [hr]; unfold run1; rw [if_neg hxi, pushL_ne hxi]
    have hst : Stp (i, l + 1) (xg, xl) := by
      unfold Stp at hs ⊢; dsimp only at hs ⊢; unfold ri_ at hs; split at hs <;> omega
    refine ⟨hxi, by rw [hrx, hr], _, _, _, rfl, hxi, hrx, ⟨hst, hch⟩, fun m t e => ?_⟩
    injection e with e1 e2
    injection e1 with _ e1
    subst e1
    dsimp only
    unfold Stp at hs; dsimp only at hs
    unfold ri_ at hs; unfold li_
    split at hs <;> split <;> omega
theorem step0 {x : Cr} (hx : Ch [x]) : (x.1 ≠ i ∧ run i [x] = [x] ∧ MA i [x]) ∨ (x.1 = i ∧ MB i [x] ∧ run i [x] = [(ri_ i x.2, x.2), (i, x.2 + 1), (li_ i x.2, x.2)]) := by
  obtain ⟨xg, xl⟩ := x
  have h0 : xl = 0 := hx
  subst h0
  by_cases hxi : xg = i
  · right
    subst hxi
    have hrx : run xg [(xg, 0)] = [(ri_ xg 0, 0), (xg, 1), (li_ xg 0, 0)] := by
      show run1 xg (xg, 0) [] = _
      unfold run1; rw [if_pos rfl]
      show pushL _ (pushL _ [(li_ xg 0, 0)]) = _
      rw [pushL_ne (Ne.symm (li_ne hi 0)), pushL_ne (ri_ne hi 0)]
    exact ⟨rfl, ⟨0, [], _, rfl, hrx, stp_r hi 0, stp_l hi 0, rfl⟩, hrx⟩
  · left
    have hrx : run i [(xg, 0)] = [(xg, 0)] := by
      show run1 i (xg, 0) [] = _
      unfold run1; rw [if_neg hxi]; rfl
    exact ⟨hxi, hrx, _, _, _, rfl, hxi, hrx, rfl, fun m t e => by cases e⟩
theorem modes : ∀ {u : List Cr}, u ≠ [] → Ch u → MA i u ∨ MB i u ∨ MC i u
  | [], h, _ => absurd rfl h
  | [x], _, hc => by
    rcases step0 hi hc with ⟨_, _, h⟩ | ⟨_, h, _⟩
    · exact .inl h
    · exact .inr (.inl h)
  | x :: y :: t, _, hc => by
    rcases modes (u := y :: t) (by simp) hc.tail with h | h | h
    · rcases stepA hi h hc with ⟨_, _, k⟩ | ⟨_, k, _⟩
      · exact .inl k
      · exact .inr (.inl k)
    · rcases stepB hi h hc with ⟨_, _, k⟩ | ⟨k, _⟩
      · exact .inl k
      · exact .inr (.inr k)
    · rcases stepC hi h hc with ⟨_, _, k⟩ | ⟨_, k, _⟩
      · exact .inl k
      · exact .inr (.inl k)
theorem run_ch {u : List Cr} (hc : Ch u) : Ch (run i u) := by
  by_cases hu : u = []
  · subst hu; trivial
  rcases modes hi hu hc with ⟨p, u', st, _, _, hr, hch, _⟩ | ⟨l, u', st, _, hr, hch⟩ | ⟨l, u', st, _, hr, hch⟩ <;> rw [hr] <;> exact hch
/-- A part of what has come out that will stay. -/
def Safe (i : Nat) (u S : List Cr) : Prop := ∃ e, run i u = e ++ S ∧ (e = [] → MC i u ∨ (MA i u ∧ ∀ q S', S = q :: S' → q.2 = 0 ∨ ∀ l, q.2 = l + 1 → q.1 ≠ li_ i l))
theorem Safe.step {u S : List Cr} (hu : u ≠ []) (h : Safe i u S) {x : Cr} (hx : Ch (x :: u)) : Safe i (x :: u) S := by
  obtain ⟨e, he, hs⟩ := h
  rcases modes hi hu hx.tail with hA | hB | hC
  · rcases stepA hi hA hx with ⟨h1, h2, h3⟩ | ⟨h1, h2, ⟨p, st, h3, h4, h5, h6⟩ | ⟨h3, h4⟩⟩
    · exact ⟨x :: e, by rw [h2, he]; rfl, fun h => by cases h⟩
    · cases e with
      | nil =>
        exfalso
        have hpS : S = p :: st := by rw [← h3, he]; rfl
        rcases hs rfl with hC | ⟨_, hA'⟩
        · obtain ⟨l, u', st', e1, _, _⟩ := hC
          obtain ⟨p', u'', st'', e2, e3, e4, _, _⟩ := hA
          rw [e1] at e2
          injection e2 with e2 _
          obtain ⟨l2, u2, st2, f1, f2, _⟩ := (⟨l, u', st', e1, by assumption, by assumption⟩ : MC i u)
          rw [f2] at e4
          injection e4 with e4 _
          rw [← e4] at e3
          exact e3 rfl
        · rcases hA' p st hpS with h0 | h0
          · omega
          · exact h0 x.2 h5 h4
      | cons a e =>
        rw [h3] at he
        injection he with _ he
        exact ⟨(ri_ i x.2, x.2) :: (i, x.2 + 1) :: e, by rw [h6, he]; rfl, fun h => by cases h⟩
    · exact ⟨(ri_ i x.2, x.2) :: (i, x.2 + 1) :: (li_ i x.2, x.2) :: e, by rw [h4, he]; rfl, fun h => by cases h⟩
  · rcases stepB hi hB hx with ⟨h1, h2, h3⟩ | ⟨h1, a, h2⟩
    · exact ⟨x :: e, by rw [h2, he]; rfl, fun h => by cases h⟩
    · cases e with
      | nil =>
        exfalso
        obtain ⟨l, u', st, e1, e2, _⟩ := hB
        rcases hs rfl with hC | ⟨hA, _⟩
        · obtain ⟨l2, u2, st2, f1, f2, _⟩ := hC
          rw [e2] at f2
          injection f2 with f2 _
          injection f2 with f2 _
          exact ri_ne hi l f2
        · obtain ⟨p, u2, st2, f1, f2, f3, _, _⟩ := hA
          rw [e1] at f1
          injection f1 with f1 _
          rw [← f1] at f2
          exact f2 rfl
      | cons b e =>
        rw [h2] at he
        injection he with _ he
        exact ⟨e, he, fun _ => .inl h1⟩
  · rcases stepC hi hC hx with ⟨h1, h2, h3⟩ | ⟨h1, h2, h3⟩
    · exact ⟨x :: e, by rw [h2, he]; rfl, fun h => by cases h⟩
    · exact ⟨(ri_ i x.2, x.2) :: (i, x.2 + 1) :: (li_ i x.2, x.2) :: e, by rw [h3, he]; rfl, fun h => by cases h⟩
omit hi in
theorem Ch.suffix : ∀ {v u : List Cr}, Ch (v ++ u) → Ch u
  | [], _, h => h
  | x :: v, _, h => Ch.suffix (v := v) (Ch.tail h)
theorem Safe.on {u S : List Cr} (hu : u ≠ []) (h : Safe i u S) : ∀ {v : List Cr}, Ch (v ++ u) → ∃ e, run i (v ++ u) = e ++ S := by
  have key : ∀ (v : List Cr), Ch (v ++ u) → Safe i (v ++ u) S := by
    intro v
    induction v with
    | nil => intro _; exact h
    | cons x v ih =>
      intro hc
      exact (ih hc.tail).step hi (by cases v <;> simp [hu]) hc
  intro v hc
  obtain ⟨e, he, _⟩ := key v hc
  exact ⟨e, he⟩
/-- A crossing of level 0 at another gap stays. -/
theorem keep0 {v t : List Cr} {h : Nat} (hh : h ≠ i) (hc : Ch (v ++ (h, 0) :: t)) : run i ((h, 0) :: t) = (h, 0) :: run i t ∧ Safe i ((h, 0) :: t) ((h, 0) :: run i t) := by
  have hc0 : Ch ((h, 0) :: t) := Ch.suffix hc
  have hr : run i ((h, 0) :: t) = (h, 0) :: run i t ∧ MA i ((h, 0) :: t) := by
    cases t with
    | nil =>
      rcases step0 hi hc0 with ⟨_, h2, h3⟩ | ⟨h1, _⟩
      · exact ⟨h2, h3⟩
      · exact absurd h1 hh
    | cons y t =>
      rcases modes hi (u := y :: t) (by simp) hc0.tail with hA | hB | hC
      · rcases stepA hi hA hc0 with ⟨_, h2, h3⟩ | ⟨h1, _⟩
        · exact ⟨h2, h3⟩
        · exact absurd h1 hh
      · rcases stepB hi hB hc0 with ⟨_, h2, h3⟩ | ⟨h1, _⟩
        · exact ⟨h2, h3⟩
        · obtain ⟨l, u', st, e1, _⟩ := h1
          injection e1 with e1 _
          injection e1 with _ e1
          omega
      · rcases stepC hi hC hc0 with ⟨_, h2, h3⟩ | ⟨h1, _⟩
        · exact ⟨h2, h3⟩
        · exact absurd h1 hh
  exact ⟨hr.1, [], by rw [hr.1]; rfl, fun _ => .inr ⟨hr.2, fun q S' e => by injection e with e _; subst e; exact .inl rfl⟩⟩
/-- No crossing of gap i at level 0. -/
def No (i : Nat) (u : List Cr) : Prop := (i, 0) ∉ u
theorem lab_i {u : List Cr} : ∀ x ∈ run i u, x.1 = i → 1 ≤ x.2 := by
  have hpush : ∀ {x : Cr} {st : List Cr}, (x.1 = i → 1 ≤ x.2) → (∀ y ∈ st, y.1 = i → 1 ≤ y.2) → ∀ y ∈ pushL x st, y.1 = i → 1 ≤ y.2 := by
    intro x st h1 h2 y hy
    cases st with
    | nil => simp only [pushL, List.mem_singleton] at hy; subst hy; exact h1
    | cons z st =>
      by_cases e : x.1 = z.1
      · rw [pushL_eq e] at hy; exact h2 y (by simp [hy])
      · rw [pushL_ne e] at hy
        rcases List.mem_cons.1 hy with rfl | hy
        · exact h1
        · exact h2 y hy
  induction u with
  | nil => intro x hx; simp [run] at hx
  | cons x u ih =>
    show ∀ y ∈ run1 i x (run i u), _
    unfold run1
    split
    · exact hpush (fun e => absurd e (ri_ne hi _)) (hpush (fun _ => by dsimp only; omega) (hpush (fun e => absurd e (li_ne hi _)) ih))
    · rename_i hne; exact hpush (fun e => absurd e hne) ih
theorem no_run (u : List Cr) : No i (run i u) := fun h => by
  have := lab_i hi _ h rfl
  omega
theorem no_of_run {j : Nat} (hj : j ≠ i) {u : List Cr} (hc : Ch u) (h : No j (run i u)) : No j u := fun hm => by
  obtain ⟨v, t, rfl⟩ := List.append_of_mem hm
  obtain ⟨_, hs⟩ := keep0 hi hj hc
  obtain ⟨e, he⟩ := hs.on hi (by simp) hc
  exact h (by rw [he]; simp)
/-- Every crossing of gap j at level 0 comes behind one of gap k. -/
def Prev (j k : Nat) (u : List Cr) : Prop := ∀ v t, u = v ++ (j, 0) :: t → ∃ m t', t = (k, m) :: t'
def Next (j k : Nat) (u : List Cr) : Prop := ∀ v t, u = v ++ (j, 0) :: t → ∃ v' m, v = v' ++ [(k, m)]
/-- What comes out of a crossing of gap i at level 0. -/
theorem run_at {t : List Cr} (hc : Ch ((i, 0) :: t)) : (∃ st, run i ((i, 0) :: t) = (i + 1, 0) :: (i, 1) :: st) ∧ ((∀ m t', t ≠ (i - 1, m) :: t') → run i ((i, 0) :: t) = (i + 1, 0) :: (i, 1) :: (i - 1, 0) :: run i t) := by
  have r0 : ri_ i 0 = i + 1 := rfl
  have l0 : li_ i 0 = i - 1 := rfl
  cases t with
  | nil =>
    rcases step0 hi hc with ⟨h1, _⟩ | ⟨_, _, h3⟩
    · exact absurd rfl h1
    · exact ⟨⟨_, h3⟩, fun _ => h3⟩
  | cons y t =>
    rcases modes hi (u := y :: t) (by simp) hc.tail with hA | hB | hC
    · rcases stepA hi hA hc with ⟨h1, _⟩ | ⟨_, _, ⟨p, st, h3, h4, h5, h6⟩ | ⟨h3, h4⟩⟩
      · exact absurd rfl h1
      · refine ⟨⟨st, h6⟩, fun hn => ?_⟩
        obtain ⟨p', u', st', e1, _, e3, _, _⟩ := hA
        rw [h3] at e3
        injection e3 with e3 _
        injection e1 with e1 _
        obtain ⟨yg, yl⟩ := y
        rw [e3, ← e1, l0] at h4
        dsimp only at h4
        exact absurd (by rw [h4]) (hn yl t)
      · exact ⟨⟨_, h4⟩, fun _ => h4⟩
    · obtain ⟨l, u', st, e1, _⟩ := hB
      injection e1 with e1 _
      have hs := hc.1
      rw [e1] at hs
      unfold Stp at hs
      dsimp only at hs
      omega
    · rcases stepC hi hC hc with ⟨h1, _⟩ | ⟨_, _, h3⟩
      · exact absurd rfl h1
      · exact ⟨⟨_, h3⟩, fun _ => h3⟩
omit hi in
theorem safe_ne {u S e : List Cr} (he : run i u = e ++ S) (hne : e ≠ []) : Safe i u S := ⟨e, he, fun h => absurd h hne⟩
theorem prev_of {u : List Cr} (hc : Ch u) (h : No (i - 1) (run i u)) : Prev i (i - 1) u := by
  intro v t e
  subst e
  have hc0 : Ch ((i, 0) :: t) := Ch.suffix hc
  refine Classical.byContradiction fun hn => ?_
  have h1 := (run_at hi hc0).2 fun m t' e => hn ⟨m, t', e⟩
  have hs : Safe i ((i, 0) :: t) ((i - 1, 0) :: run i t) := safe_ne (e := [(i + 1, 0), (i, 1)]) h1 (by simp)
  obtain ⟨e, he⟩ := hs.on hi (by simp) hc
  exact h (by rw [he]; simp)
theorem next_of {u : List Cr} (hc : Ch u) (h : No (i + 1) (run i u)) : Next i (i + 1) u := by
  intro v t e
  subst e
  have hc0 : Ch ((i, 0) :: t) := Ch.suffix hc
  obtain ⟨st, h1⟩ := (run_at hi hc0).1
  rcases List.eq_nil_or_concat v with rfl | ⟨v', x, rfl⟩
  · exact absurd (by show (i + 1, 0) ∈ run i ((i, 0) :: t); rw [h1]; simp) h
  · rw [List.concat_eq_append] at hc h ⊢
    refine ⟨v', x.2, ?_⟩
    rw [List.append_assoc] at hc
    have hcx : Ch (x :: (i, 0) :: t) := Ch.suffix hc
    have hB : MB i ((i, 0) :: t) := by
      rcases modes hi (u := (i, 0) :: t) (by simp) hc0 with hA | hB | hC
      · obtain ⟨p, u', st', e1, e2, _⟩ := hA
        injection e1 with e1 _
        rw [← e1] at e2; exact absurd rfl e2
      · exact hB
      · obtain ⟨l, u', st', e1, _⟩ := hC
        injection e1 with e1 _
        injection e1 with _ e1
        omega
    rcases stepB hi hB hcx with ⟨_, h2, _⟩ | ⟨⟨l, u', st', e1, _⟩, _⟩
    · exfalso
      have hs : Safe i (x :: (i, 0) :: t) ((i + 1, 0) :: (i, 1) :: st) := safe_ne (e := [x]) (by rw [h2, h1]; rfl) (by simp)
      obtain ⟨e, he⟩ := hs.on hi (by simp) hc
      refine h ?_
      rw [List.append_assoc]
      show (i + 1, 0) ∈ run i (v' ++ x :: (i, 0) :: t)
      rw [he]; simp
    · injection e1 with e1 e2
      injection e2 with e2 _
      injection e2 with _ e2
      subst e2
      have : x = (i + 1, 1) := e1
      rw [this]
theorem no_of_prev {u : List Cr} (hc : Ch u) (h : Prev (i + 1) i (run i u)) : No (i + 1) u := fun hm => by
  obtain ⟨v, t, rfl⟩ := List.append_of_mem hm
  obtain ⟨_, hs⟩ := keep0 hi (h := i + 1) (by omega) hc
  obtain ⟨e, he⟩ := hs.on hi (by simp) hc
  obtain ⟨m, t', ht⟩ := h e _ he
  have hc0 : Ch ((i + 1, 0) :: t) := Ch.suffix hc
  cases t with
  | nil => simp [run] at ht
  | cons y t =>
    have hst := hc0.1
    unfold Stp at hst
    dsimp only at hst
    rcases modes hi (u := y :: t) (by simp) hc0.tail with hA | hB | hC
    · obtain ⟨p, u', st, e1, e2, e3, _⟩ := hA
      rw [ht] at e3
      injection e3 with e3 _
      rw [← e3] at e2; exact e2 rfl
    · obtain ⟨l, u', st, e1, e2, _⟩ := hB
      rw [ht] at e2
      injection e2 with e2 _
      injection e2 with e2 _
      exact ri_ne hi l e2.symm
    · obtain ⟨l, u', st, e1, e2, _⟩ := hC
      injection e1 with e1 _
      rw [e1] at hst
      dsimp only at hst
      obtain rfl : l = 0 := by omega
      have : ri_ i 0 = i + 1 := rfl
      omega
theorem no_of_next {u : List Cr} (hc : Ch u) (h : Next (i - 1) i (run i u)) : No (i - 1) u := fun hm => by
  obtain ⟨v, t, rfl⟩ := List.append_of_mem hm
  obtain ⟨hk, hs⟩ := keep0 hi (h := i - 1) (by omega) hc
  have hc0 : Ch ((i - 1, 0) :: t) := Ch.suffix hc
  rcases List.eq_nil_or_concat v with rfl | ⟨v', x, rfl⟩
  · obtain ⟨v', m, e⟩ := h [] (run i t) (by show run i ((i - 1, 0) :: t) = _; rw [hk]; rfl)
    cases v' <;> cases e
  · rw [List.concat_eq_append] at hc h
    rw [List.append_assoc] at hc
    have hcx : Ch (x :: (i - 1, 0) :: t) := Ch.suffix hc
    have hA : MA i ((i - 1, 0) :: t) := by
      rcases modes hi (u := (i - 1, 0) :: t) (by simp) hc0 with hA | hB | hC
      · exact hA
      · obtain ⟨l, u', st', e1, _⟩ := hB
        injection e1 with e1 _
        injection e1 with e1 _
        omega
      · obtain ⟨l, u', st', e1, _⟩ := hC
        injection e1 with e1 _
        injection e1 with _ e1
        omega
    have hst := hcx.1
    unfold Stp at hst
    dsimp only at hst
    have fin : ∀ {y : Cr}, y.1 ≠ i → Safe i (x :: (i - 1, 0) :: t) (y :: (i - 1, 0) :: run i t) → False := fun {y} hy hsf => by
      obtain ⟨e, he⟩ := hsf.on hi (by simp) hc
      obtain ⟨v2, m, e2⟩ := h (e ++ [y]) (run i t) (by
        rw [List.append_assoc]
        show run i (v' ++ x :: (i - 1, 0) :: t) = _
        rw [he]; simp)
      have := List.append_inj_right' e2 rfl
      injection this with this _
      rw [this] at hy; exact hy rfl
    rcases stepA hi hA hcx with ⟨h1, h2, h3⟩ | ⟨h1, _, ⟨p, st, h3, h4, h5, h6⟩ | ⟨h3, h4⟩⟩
    · refine fin h1 ⟨[], by rw [h2, hk]; rfl, fun _ => .inr ⟨h3, fun q S' e => ?_⟩⟩
      injection e with e _
      subst e
      refine .inr fun l hl => ?_
      obtain rfl : l = 0 := by omega
      have : li_ i 0 = i - 1 := rfl
      omega
    · rw [hk] at h3
      injection h3 with h3 _
      rw [← h3] at h5
      dsimp only at h5
      omega
    · refine fin (y := (li_ i x.2, x.2)) (li_ne hi _) (safe_ne (e := [(ri_ i x.2, x.2), (i, x.2 + 1)]) ?_ (by simp))
      rw [h4, hk]; rfl
end
end Gar
end Go.Proofs.Ytlkmcbgkohpmiaa

/- Divisibility of positive braids is seen in their action. -/
set_option linter.unusedVariables false
set_option linter.unusedSimpArgs false
namespace Go.Proofs.Ytlkmcbgkohpmiaa
namespace Gar
/-- The labelled path of gap j under a positive word. -/
def Tl : List Nat → Nat → List Cr
  | [], j => [(j, 0)]
  | i :: w, j => run i (Tl w j)
def gaps (u : List Cr) : List Nat := u.reverse.map fun x => x.1
theorem gaps_cons (x : Cr) (u : List Cr) : gaps (x :: u) = gaps u ++ [x.1] := by simp [gaps]
theorem gaps_len (u : List Cr) : (gaps u).length = u.length := by simp [gaps]
theorem gaps_push (x : Cr) (st : List Cr) : GE (gaps (pushL x st)) (gaps st ++ [x.1]) := by
  cases st with
  | nil => exact .refl _
  | cons y st =>
    by_cases e : x.1 = y.1
    · rw [pushL_eq e, gaps_cons, List.append_assoc, e]
      have := GE.cancel (gaps st) [] y.1
      rw [List.append_nil] at this
      exact this.symm
    · rw [pushL_ne e, gaps_cons]; exact .refl _
theorem gaps_rdc {u : List Cr} (h : Ch u) : Rdc (gaps u) := by
  have key : ∀ {l : List Nat} {a b : Nat}, Rdc (l ++ [a]) → a ≠ b → Rdc (l ++ [a] ++ [b]) := by
    intro l
    induction l with
    | nil => intro a b _ hab; exact ⟨hab, trivial⟩
    | cons c l ih =>
      intro a b h hab
      cases l with
      | nil => exact ⟨h.1, hab, trivial⟩
      | cons d l => exact ⟨h.1, ih h.2 hab⟩
  induction u with
  | nil => trivial
  | cons x u ih =>
    cases u with
    | nil => trivial
    | cons y t =>
      have h1 := ih h.tail
      rw [gaps_cons] at h1
      rw [gaps_cons, gaps_cons]
      refine key h1 ?_
      have := h.1; unfold Stp at this; omega
/-- What has come out is the path with the letter substituted. -/
theorem run_gaps {i : Nat} (hi : 1 ≤ i) {u : List Cr} (h : Ch u) : GE (gaps (run i u)) (sub (i : Int) true (gaps u)) := by
  induction u with
  | nil => exact .refl _
  | cons x u ih =>
    have h1 := ih h.tail
    rw [gaps_cons, sub_app]
    have hp := h.par
    simp only [sub, List.append_nil]
    show GE (gaps (run1 i x (run i u))) _
    unfold run1
    by_cases e : x.1 = i
    · rw [if_pos e, e, img_p hi]
      have h2 := gaps_push (ri_ i x.2, x.2) (pushL (i, x.2 + 1) (pushL (li_ i x.2, x.2) (run i u)))
      have h3 := (gaps_push (i, x.2 + 1) (pushL (li_ i x.2, x.2) (run i u))).right [ri_ i x.2]
      have h4 := ((gaps_push (li_ i x.2, x.2) (run i u)).right [i]).right [ri_ i x.2]
      have h5 := ((h1.right [li_ i x.2]).right [i]).right [ri_ i x.2]
      have h6 := h2.trans (h3.trans (h4.trans h5))
      refine h6.trans ?_
      have : par true (gaps u).length = decide (x.2 % 2 = 0) := by
        unfold par; rw [gaps_len]
        by_cases e2 : x.2 % 2 = 0
        · rw [if_pos (by omega), decide_eq_true e2]
        · rw [if_neg (by omega), decide_eq_false e2]; rfl
      rw [this]
      unfold li_ ri_
      by_cases e2 : x.2 % 2 = 0
      · rw [if_pos e2, if_pos e2, decide_eq_true e2, if_pos rfl]; simp only [List.append_assoc]; exact .refl _
      · rw [if_neg e2, if_neg e2, decide_eq_false e2, if_neg (by decide)]; simp only [List.append_assoc]; exact .refl _
    · rw [if_neg e, img_po e]
      exact (gaps_push x (run i u)).trans (h1.right [x.1])
section
variable {N : Nat}
/-- Words with letters of N strands. -/
def Pw (N : Nat) (w : List Nat) : Prop := ∀ i ∈ w, 1 ≤ i ∧ i < N
theorem Pw.tail {i : Nat} {w : List Nat} (h : Pw N (i :: w)) : Pw N w := fun j hj => h j (by simp [hj])
theorem Pw.app {u v : List Nat} (h : Pw N u) (k : Pw N v) : Pw N (u ++ v) := fun i hi => by
  rcases List.mem_append.1 hi with h1 | h1
  · exact h i h1
  · exact k i h1
theorem Pw.left {u v : List Nat} (h : Pw N (u ++ v)) : Pw N u := fun i hi => h i (by simp [hi])
theorem Pw.right {u v : List Nat} (h : Pw N (u ++ v)) : Pw N v := fun i hi => h i (by simp [hi])
theorem PE.pw {u v : List Nat} (h : PE N u v) : Pw N u ↔ Pw N v := by
  induction h with
  | refl w => exact Iff.rfl
  | symm _ ih => exact ih.symm
  | trans _ _ h1 h2 => exact h1.trans h2
  | far c d h1 h2 h3 h4 h5 =>
    constructor <;> intro h k hk <;> refine h k ?_ <;> simp only [List.mem_append, List.mem_cons] at hk ⊢ <;> rcases hk with h | h | h | h <;> simp [h]
  | braid c d h1 h2 =>
    constructor <;> intro h k hk <;> refine h k ?_ <;> simp only [List.mem_append, List.mem_cons] at hk ⊢ <;> rcases hk with h | h | h | h | h <;> simp [h]
theorem Tl_ch {w : List Nat} (h : Pw N w) (j : Nat) : Ch (Tl w j) := by
  induction w with
  | nil => rfl
  | cons i w ih => exact run_ch (h i (by simp)).1 (ih h.tail)
theorem Tl_act {w : List Nat} (h : Pw N w) (j : Nat) : gaps (Tl w j) = act (pos w) j := by
  have key : ∀ {w : List Nat}, Pw N w → GE (gaps (Tl w j)) (subs (pos w) [j]) := by
    intro w
    induction w with
    | nil => intro _; exact .refl _
    | cons i w ih =>
      intro h
      exact (run_gaps (h i (by simp)).1 (Tl_ch h.tail j)).trans (sub_ge _ _ (ih h.tail))
  have h1 := (key h).trans (act_ge (pos w) j).symm
  unfold GE at h1
  rwa [rd_of (gaps_rdc (Tl_ch h j)), rd_of (act_rdc _ _)] at h1
/-- The labels are told by the gaps. -/
theorem lab_uniq : ∀ {u v : List Cr}, Ch u → Ch v → u.map (fun x => x.1) = v.map (fun x => x.1) → u = v
  | [], [], _, _, _ => rfl
  | [], _ :: _, _, _, h => by cases h
  | _ :: _, [], _, _, h => by cases h
  | [(a, l)], [(b, m)], h1, h2, h => by
    have e1 : l = 0 := h1; have e2 : m = 0 := h2
    injection h with h _
    subst e1 e2
    have : a = b := h
    rw [this]
  | [_], _ :: _ :: _, _, _, h => by injection h with _ h; cases h
  | _ :: _ :: _, [_], _, _, h => by injection h with _ h; cases h
  | (a, l) :: y :: u, (b, m) :: z :: v, h1, h2, h => by
    injection h with ha ht
    have ih := lab_uniq h1.tail h2.tail ht
    have hab : a = b := ha
    subst hab
    rw [ih] at h1 ⊢
    have s1 := h1.1; have s2 := h2.1
    unfold Stp at s1 s2
    dsimp only at s1 s2
    have : l = m := by omega
    rw [this]
/-- Two positive words act alike. -/
def AE (u v : List Nat) : Prop := ∀ j, act (pos u) j = act (pos v) j
theorem AE.symm {u v : List Nat} (h : AE u v) : AE v u := fun j => (h j).symm
theorem AE.trans {u v w : List Nat} (h : AE u v) (k : AE v w) : AE u w := fun j => (h j).trans (k j)
theorem PE.ae {u v : List Nat} (h : PE N u v) : AE u v := fun j => h.be.act j
theorem AE.tl {u v : List Nat} (h : AE u v) (hu : Pw N u) (hv : Pw N v) (j : Nat) : Tl u j = Tl v j := by
  refine lab_uniq (Tl_ch hu j) (Tl_ch hv j) ?_
  have := h j
  rw [← Tl_act hu, ← Tl_act hv] at this
  unfold gaps at this
  rw [List.map_reverse, List.map_reverse] at this
  have h2 := congrArg List.reverse this
  rwa [List.reverse_reverse, List.reverse_reverse] at h2
theorem AE.can {i : Nat} (hi : 1 ≤ i) {u v : List Nat} (h : AE (i :: u) (i :: v)) : AE u v := fun j => act_lcan (x := (i : Int)) (by omega) (h j)
/-- The action shows no crossing of gap i at level 0. -/
def Nt (i : Nat) (u : List Nat) : Prop := ∀ j, No i (Tl u j)
theorem nt_cons {i : Nat} (hi : 1 ≤ i) (u : List Nat) : Nt i (i :: u) := fun j => no_run hi _
theorem nt_nil (i : Nat) : ¬ Nt i [] := fun h => h i (by simp [Tl])
theorem AE.nt {u v : List Nat} (h : AE u v) (hu : Pw N u) (hv : Pw N v) {i : Nat} (k : Nt i u) : Nt i v := fun j => by rw [← h.tl hu hv j]; exact k j
/-- WHERE THE ACTION SHOWS NONE, THE LETTER DIVIDES. -/
theorem divides : ∀ (m : Nat) {u : List Nat}, u.length ≤ m → Pw N u → ∀ {i : Nat}, 1 ≤ i → i < N → Nt i u → ∃ v, PE N u (i :: v) := by
  intro m
  induction m with
  | zero =>
    intro u hl _ i _ _ h
    rw [List.eq_nil_of_length_eq_zero (by omega : u.length = 0)] at h
    exact absurd h (nt_nil i)
  | succ m ih =>
    intro u hl hP i hi hn h
    cases u with
    | nil => exact absurd h (nt_nil i)
    | cons j u =>
    simp only [List.length_cons] at hl
    have hj := hP j (by simp)
    by_cases e : j = i
    · subst e; exact ⟨u, .refl _⟩
    -- the tail has none either
    have h1 : Nt i u := fun k => no_of_run hj.1 (Ne.symm e) (Tl_ch hP.tail k) (h k)
    obtain ⟨v, hv⟩ := ih (by omega) hP.tail hi hn h1
    have hPv : Pw N (i :: v) := (PE.pw hv).1 hP.tail
    have hlv := hv.len
    simp only [List.length_cons] at hlv
    rcases Nat.lt_trichotomy (i + 1) j with hf | hf | hf
    · exact ⟨j :: v, (hv.cons j).trans (PE.far [] v hi hn hj.1 hj.2 hf).symm⟩
    · subst hf
      -- j = i + 1
      have h2 : Nt (i + 1) v := fun k => by
        refine no_of_prev hi (Tl_ch hPv.tail k) ?_
        have e1 : Tl u k = run i (Tl v k) := hv.ae.tl hP.tail hPv k
        rw [← e1]
        have := prev_of hj.1 (Tl_ch hP.tail k) (h k)
        rwa [show i + 1 - 1 = i by omega] at this
      obtain ⟨w, hw⟩ := ih (by omega) hPv.tail hj.1 hj.2 h2
      exact ⟨(i + 1) :: i :: w, (hv.cons (i + 1)).trans (((hw.cons i).cons (i + 1)).trans (PE.braid [] w hi hj.2).symm)⟩
    · rcases Nat.lt_trichotomy (j + 1) i with hf2 | hf2 | hf2
      · exact ⟨j :: v, (hv.cons j).trans (PE.far [] v hj.1 hj.2 hi hn hf2)⟩
      · subst hf2
        have h2 : Nt j v := fun k => by
          have e1 : Tl u k = run (j + 1) (Tl v k) := hv.ae.tl hP.tail hPv k
          have := next_of hj.1 (Tl_ch hP.tail k) (h k)
          rw [e1] at this
          have := no_of_next (i := j + 1) hi (Tl_ch hPv.tail k) (by rw [show j + 1 - 1 = j by omega]; exact this)
          rwa [show j + 1 - 1 = j by omega] at this
        obtain ⟨w, hw⟩ := ih (by omega) hPv.tail hj.1 hj.2 h2
        exact ⟨j :: (j + 1) :: w, (hv.cons j).trans (((hw.cons (j + 1)).cons j).trans (PE.braid [] w hj.1 hn))⟩
      · omega
/-- POSITIVE WORDS THAT ACT ALIKE ARE EQUAL AS BRAIDS. -/
theorem faithful : ∀ (m : Nat) {u v : List Nat}, u.length = m → Pw N u → Pw N v → AE u v → PE N u v := by
  intro m
  induction m with
  | zero =>
    intro u v hl hu hv h
    obtain rfl := List.eq_nil_of_length_eq_zero hl
    cases v with
    | nil => exact .refl _
    | cons i v =>
      have := h.symm.nt hv hu (nt_cons (hv i (by simp)).1 v)
      exact absurd this (nt_nil i)
  | succ m ih =>
    intro u v hl hu hv h
    cases u with
    | nil => simp at hl
    | cons i u =>
    have hi := hu i (by simp)
    obtain ⟨w, hw⟩ := divides v.length (Nat.le_refl _) hv hi.1 hi.2 (h.nt hu hv (nt_cons hi.1 u))
    have hw' : Pw N (i :: w) := (PE.pw hw).1 hv
    have := AE.can hi.1 (h.trans hw.ae)
    exact ((ih (by simpa using hl) hu.tail hw'.tail this).cons i).trans hw.symm
theorem PE.can {i : Nat} {u v : List Nat} (h : PE N (i :: u) (i :: v)) (hu : Pw N (i :: u)) : PE N u v :=
  faithful _ rfl hu.tail ((PE.pw h).1 hu).tail (AE.can (hu i (by simp)).1 h.ae)
theorem PE.canl {a u v : List Nat} (h : PE N (a ++ u) (a ++ v)) (hu : Pw N (a ++ u)) : PE N u v := by
  induction a with
  | nil => exact h
  | cons i a ih => exact ih (PE.can h hu) hu.tail
/-- a divides x on the left. -/
def Dv (N : Nat) (a x : List Nat) : Prop := ∃ c, PE N x (a ++ c)
theorem Dv.cons {i : Nat} {a x : List Nat} (h : Dv N a x) : Dv N (i :: a) (i :: x) := by
  obtain ⟨c, hc⟩ := h; exact ⟨c, hc.cons i⟩
theorem Dv.trans {a b c : List Nat} (h : Dv N a b) (k : Dv N b c) : Dv N a c := by
  obtain ⟨d, hd⟩ := h; obtain ⟨e, he⟩ := k
  refine ⟨d ++ e, he.trans ?_⟩
  have := hd.app [] e
  simpa [List.append_assoc] using this
theorem Dv.pe {a b x y : List Nat} (h : Dv N a x) (h1 : PE N a b) (h2 : PE N x y) : Dv N b y := by
  obtain ⟨c, hc⟩ := h
  have := h1.app [] c
  exact ⟨c, h2.symm.trans (hc.trans (by simpa using this))⟩
theorem Dv.uncons {i : Nat} {a x : List Nat} (h : Dv N (i :: a) (i :: x)) (hx : Pw N (i :: x)) : Dv N a x := by
  obtain ⟨c, hc⟩ := h; exact ⟨c, PE.can hc hx⟩
theorem Dv.nt {i : Nat} {x : List Nat} (h : Dv N [i] x) (hx : Pw N x) (hi : 1 ≤ i) : Nt i x := by
  obtain ⟨c, hc⟩ := h
  exact hc.symm.ae.nt ((PE.pw hc).1 hx) hx (nt_cons hi c)
/-- Two letters that divide: so does their least common multiple. -/
theorem two_div {i j : Nat} (hij : i ≠ j) (hi : 1 ≤ i ∧ i < N) (hj : 1 ≤ j ∧ j < N) {x : List Nat} (hx : Pw N (j :: x)) (h : Dv N [i] (j :: x)) :
    if i + 1 < j ∨ j + 1 < i then Dv N [i] x else Dv N [i, j] x := by
  have h0 := h.nt hx hi.1
  have h1 : Nt i x := fun k => no_of_run hj.1 hij (Tl_ch hx.tail k) (h0 k)
  obtain ⟨v, hv⟩ := divides x.length (Nat.le_refl _) hx.tail hi.1 hi.2 h1
  have hPv : Pw N (i :: v) := (PE.pw hv).1 hx.tail
  split
  · exact ⟨v, hv⟩
  · rename_i hn
    have h2 : Nt j v := fun k => by
      have e1 : Tl x k = run i (Tl v k) := hv.ae.tl hx.tail hPv k
      by_cases e : j = i + 1
      · subst e
        refine no_of_prev hi.1 (Tl_ch hPv.tail k) ?_
        rw [← e1]
        have := prev_of hj.1 (Tl_ch hx.tail k) (h0 k)
        rwa [show i + 1 - 1 = i by omega] at this
      · obtain rfl : i = j + 1 := by omega
        have := next_of hj.1 (Tl_ch hx.tail k) (h0 k)
        rw [e1] at this
        have := no_of_next (i := j + 1) hi.1 (Tl_ch hPv.tail k) (by rw [show j + 1 - 1 = j by omega]; exact this)
        rwa [show j + 1 - 1 = j by omega] at this
    obtain ⟨w, hw⟩ := divides v.length (Nat.le_refl _) hPv.tail hj.1 hj.2 h2
    exact ⟨w, hv.trans (hw.cons i)⟩
/-- The other way round: i and j divide their multiple. -/
theorem near_pe {i j : Nat} (hi : 1 ≤ i ∧ i < N) (hj : 1 ≤ j ∧ j < N) (hij : i = j + 1 ∨ j = i + 1) (c : List Nat) : PE N (j :: i :: j :: c) (i :: j :: i :: c) := by
  rcases hij with rfl | rfl
  · exact PE.braid [] c hj.1 hi.2
  · exact (PE.braid [] c hi.1 hj.2).symm
theorem far_pe {i j : Nat} (hi : 1 ≤ i ∧ i < N) (hj : 1 ≤ j ∧ j < N) (hij : i + 1 < j ∨ j + 1 < i) (c : List Nat) : PE N (j :: i :: c) (i :: j :: c) := by
  rcases hij with h | h
  · exact (PE.far [] c hi.1 hi.2 hj.1 hj.2 h).symm
  · exact PE.far [] c hj.1 hj.2 hi.1 hi.2 h
/-- LEAST COMMON MULTIPLES. -/
theorem lcm_ex : ∀ (m : Nat) {x : List Nat}, x.length = m → Pw N x → ∀ {a b : List Nat}, Dv N a x → Dv N b x → ∃ l, Dv N a l ∧ Dv N b l ∧ ∀ y, Pw N y → Dv N a y → Dv N b y → Dv N l y := by
  intro m
  induction m using Nat.strongRecOn with
  | _ m ih =>
    intro x hl hx a b ha hb
    have hself : ∀ w : List Nat, Dv N w w := fun w => ⟨[], by rw [List.append_nil]; exact .refl _⟩
    cases a with
    | nil => exact ⟨b, ⟨b, .refl _⟩, hself b, fun y _ _ h => h⟩
    | cons i a =>
    cases b with
    | nil => exact ⟨i :: a, hself _, ⟨i :: a, .refl _⟩, fun y _ h _ => h⟩
    | cons j b =>
    -- x as a word that begins with i, with j
    obtain ⟨ca, hca⟩ := ha
    obtain ⟨cb, hcb⟩ := hb
    have pa : Pw N (i :: (a ++ ca)) := (PE.pw hca).1 hx
    have pb : Pw N (j :: (b ++ cb)) := (PE.pw hcb).1 hx
    have hi := pa i (by simp); have hj := pb j (by simp)
    have la := hca.len; have lb := hcb.len
    simp only [List.cons_append, List.length_cons] at la lb
    by_cases hij : i = j
    · subst hij
      have hab : PE N (a ++ ca) (b ++ cb) := PE.can (hca.symm.trans hcb) pa
      obtain ⟨l, l1, l2, l3⟩ := ih (a ++ ca).length (by omega) rfl pa.tail ⟨ca, .refl _⟩ ⟨cb, hab⟩
      refine ⟨i :: l, l1.cons, l2.cons, fun y hy h1 h2 => ?_⟩
      obtain ⟨d, hd⟩ := h1
      have py : Pw N (i :: (a ++ d)) := (PE.pw hd).1 hy
      have h3 : Dv N b (a ++ d) := Dv.uncons (h2.pe (.refl _) hd) py
      exact (Dv.cons (l3 (a ++ d) py.tail ⟨d, .refl _⟩ h3)).pe (.refl _) hd.symm
    · -- the two words of the least common multiple of i and j
      obtain ⟨ui, uj, e1, e2, e3⟩ : ∃ ui uj : List Nat, PE N (j :: uj) (i :: ui) ∧ (∀ {y : List Nat}, Pw N (j :: y) → Dv N [i] (j :: y) → Dv N uj y) ∧ (∀ {y : List Nat}, Pw N (i :: y) → Dv N [j] (i :: y) → Dv N ui y) := by
        by_cases hf : i + 1 < j ∨ j + 1 < i
        · refine ⟨[j], [i], far_pe hi hj hf [], fun hy h => ?_, fun hy h => ?_⟩
          · have := two_div hij hi hj hy h; rwa [if_pos hf] at this
          · have := two_div (Ne.symm hij) hj hi hy h; rwa [if_pos (by omega)] at this
        · refine ⟨[j, i], [i, j], near_pe hi hj (by omega) [], fun hy h => ?_, fun hy h => ?_⟩
          · have := two_div hij hi hj hy h; rwa [if_neg hf] at this
          · have := two_div (Ne.symm hij) hj hi hy h; rwa [if_neg (by omega)] at this
      -- the least common multiple of i and b
      have hjx : Dv N [i] (j :: (b ++ cb)) := ⟨a ++ ca, hcb.symm.trans hca⟩
      obtain ⟨m1, k1, k2, k3⟩ := ih (b ++ cb).length (by omega) rfl pb.tail (e2 pb hjx) ⟨cb, .refl _⟩
      -- j m1 begins with i
      obtain ⟨c1, hc1⟩ := k1
      have q1 : PE N (j :: m1) (i :: (ui ++ c1)) := by
        have := e1.app [] c1
        exact (hc1.cons j).trans (by simpa using this)
      have hm1x : Dv N m1 (b ++ cb) := k3 _ pb.tail (e2 pb hjx) ⟨cb, .refl _⟩
      have q2 : Dv N (ui ++ c1) (a ++ ca) := by
        have h1 : Dv N (i :: (ui ++ c1)) (i :: (a ++ ca)) := (Dv.cons hm1x).pe q1 (hcb.symm.trans hca)
        exact h1.uncons pa
      obtain ⟨m2, r1, r2, r3⟩ := ih (a ++ ca).length (by omega) rfl pa.tail ⟨ca, .refl _⟩ q2
      refine ⟨i :: m2, r1.cons, ?_, fun y hy h1 h2 => ?_⟩
      · have h3 : Dv N (j :: b) (j :: m1) := k2.cons
        exact (h3.pe (.refl _) q1).trans r2.cons
      · obtain ⟨da, hda⟩ := h1
        obtain ⟨db, hdb⟩ := h2
        have pya : Pw N (i :: (a ++ da)) := (PE.pw hda).1 hy
        have pyb : Pw N (j :: (b ++ db)) := (PE.pw hdb).1 hy
        have h3 : Dv N [i] (j :: (b ++ db)) := ⟨a ++ da, hdb.symm.trans hda⟩
        have h4 : Dv N m1 (b ++ db) := k3 _ pyb.tail (e2 pyb h3) ⟨db, .refl _⟩
        have h5 : Dv N (i :: (ui ++ c1)) (i :: (a ++ da)) := (Dv.cons h4).pe q1 (hdb.symm.trans hda)
        exact (Dv.cons (r3 _ pya.tail ⟨da, .refl _⟩ (h5.uncons pya))).pe (.refl _) hda.symm
end
end Gar
end Go.Proofs.Ytlkmcbgkohpmiaa

/- Normal forms that act alike are equal. -/
set_option linter.unusedVariables false
set_option linter.unusedSimpArgs false
namespace Go.Proofs.Ytlkmcbgkohpmiaa
open Ev
namespace Gar
section
variable {N : Nat}
theorem pw_rg' {w : List Nat} (h : Pw N w) : Rg N (pos w) := Rg.pos h
theorem pw_pm {w : List Nat} (h : Pw N w) : Pm N (pmw (pos w)) (pmi (pos w)) := pmw_pm (Rg.pos h)
theorem pmw_cons (i : Nat) (w : List Nat) : pmw (pos (i :: w)) = fun k => pmw (pos w) (tr i k) := by
  funext k; simp [pos, pmw]
theorem pmw_snoc (w : List Nat) (j : Nat) : pmw (pos (w ++ [j])) = fun k => tr j (pmw (pos w) k) := by
  funext k; rw [pos_app, pmw_app]; simp [pos, pmw]
/-- Inversions at a letter at the end. -/
theorem inv_end {f g : Nat → Nat} (h : Pm N f g) {i : Nat} (h1 : 1 ≤ i) (h2 : i < N) : (g (i - 1) < g i ∧ inv (lst N fun k => tr i (f k)) = inv (lst N f) + 1) ∨ (g i < g (i - 1) ∧ inv (lst N fun k => tr i (f k)) + 1 = inv (lst N f)) := by
  have hne : g (i - 1) ≠ g i := fun e => by have := h.symm.inj e; omega
  by_cases hlt : g (i - 1) < g i
  · exact .inl ⟨hlt, inv_up h h1 h2 hlt⟩
  · right
    refine ⟨by omega, ?_⟩
    have h' : Pm N (fun k => tr i (f k)) (fun k => g (tr i k)) := (h.symm.ex h1 h2).symm
    have := inv_up h' h1 h2 (by rw [tr_l h1, tr_r h1]; omega)
    have e : (fun k => tr i (tr i (f k))) = f := by funext k; rw [tr_tr h1]
    rw [e] at this; omega
theorem inv_le_len {w : List Nat} (h : Pw N w) : inv (lst N (pmw (pos w))) ≤ w.length := by
  induction w with
  | nil =>
    have : pmw (pos []) = fun k => k := rfl
    rw [this, inv_id]; exact Nat.le_refl _
  | cons i w ih =>
    have ih := ih h.tail
    have hi := h i (by simp)
    have hp := pw_pm h.tail
    rw [pmw_cons, List.length_cons]
    generalize pmw (pos w) = f at ih hp
    by_cases hd : ds f i
    · have := inv_tr hi.1 hi.2 hd; omega
    · have hne : f (i - 1) ≠ f i := fun e => by have := hp.inj e; omega
      have hd2 : ds (fun k => f (tr i k)) i := by
        unfold ds at hd ⊢; dsimp only; rw [tr_l hi.1, tr_r hi.1]; omega
      have := inv_tr hi.1 hi.2 hd2
      have e : (fun k => f (tr i (tr i k))) = f := by funext k; rw [tr_tr hi.1]
      rw [e] at this; omega
/-- A word as long as its permutation has inversions is reduced. -/
theorem red_wd {w : List Nat} (h : Pw N w) (hl : inv (lst N (pmw (pos w))) = w.length) : Wd N (pmw (pos w)) w := by
  induction w with
  | nil => exact .nil
  | cons i w ih =>
    have hi := h i (by simp)
    have hp := pw_pm h.tail
    have hb := inv_le_len h.tail
    rw [pmw_cons, List.length_cons] at hl
    rw [pmw_cons]
    have hd : ds (fun k => pmw (pos w) (tr i k)) i := by
      refine Classical.byContradiction fun hd => ?_
      have hne : pmw (pos w) (i - 1) ≠ pmw (pos w) i := fun e => by have := hp.inj e; omega
      have hd2 : ds (pmw (pos w)) i := by
        unfold ds at hd ⊢; dsimp only at hd; rw [tr_l hi.1, tr_r hi.1] at hd; omega
      have := inv_tr hi.1 hi.2 hd2
      omega
    have h1 := inv_tr hi.1 hi.2 hd
    have e : (fun k => pmw (pos w) (tr i (tr i k))) = pmw (pos w) := by funext k; rw [tr_tr hi.1]
    refine .cons hi.1 hi.2 hd ?_
    rw [e] at h1 ⊢
    exact ih h.tail (by omega)
theorem inv_app {u v : List Nat} (h : Pw N (u ++ v)) : inv (lst N (pmw (pos (u ++ v)))) ≤ inv (lst N (pmw (pos u))) + v.length := by
  induction v generalizing u with
  | nil => rw [List.append_nil]; exact Nat.le_refl _
  | cons j v ih =>
    have e : u ++ j :: v = (u ++ [j]) ++ v := by simp
    rw [e] at h ⊢
    have h1 := ih h
    have hj := h j (by simp)
    have hu : Pw N u := fun i hi => h i (by simp [hi])
    rw [pmw_snoc u j] at h1
    have h2 := inv_end (pw_pm hu) hj.1 hj.2
    rw [List.length_cons]; omega
theorem Wd.pw {f : Nat → Nat} {w : List Nat} (h : Wd N f w) : Pw N w := h.rng
theorem wd_pre {f : Nat → Nat} {u v : List Nat} (h : Wd N f (u ++ v)) : Wd N (pmw (pos u)) u := by
  have hP := h.pw
  have h1 := inv_app hP
  have h2 := h.len
  rw [h.pmw, List.length_append] at *
  have h3 := inv_le_len hP.left
  exact red_wd hP.left (by omega)
/-- A word equal to a reduced word is reduced. -/
theorem wd_pe {f : Nat → Nat} {u w : List Nat} (h : Wd N f u) (k : PE N u w) : Wd N f w := by
  have hP := (PE.pw k).1 h.pw
  have e : pmw (pos w) = f := by rw [← k.be.hom.2, h.pmw]
  have := red_wd hP (by rw [e, ← h.len, k.len])
  rwa [e] at this
theorem dv_ds {f : Nat → Nat} {w : List Nat} (h : Wd N f w) {j : Nat} (hd : Dv N [j] w) : ds f j := by
  obtain ⟨c, hc⟩ := hd
  have := wd_pe h hc
  cases this with
  | cons _ _ h3 _ => exact h3
theorem ds_dv {f g : Nat → Nat} (hp : Pm N f g) {w : List Nat} (h : Wd N f w) {j : Nat} (h1 : 1 ≤ j) (h2 : j < N) (hd : ds f j) : Dv N [j] w := by
  obtain ⟨c, _, hc⟩ := hp.wordAt h1 h2 hd
  exact ⟨c, h.uniq hc⟩
variable {H : List Nat} (hH : Wd N (dl N) H)
include hH
/-- Every simple braid divides the half twist. -/
theorem simple_dv : ∀ (m : Nat) {f g : Nat → Nat} {w : List Nat}, Pm N f g → Wd N f w → N * N - inv (lst N f) = m → Dv N w H := by
  intro m
  induction m with
  | zero =>
    intro f g w hp hw hm
    by_cases hf : f = dl N
    · subst hf; exact ⟨[], by rw [List.append_nil]; exact hH.uniq hw⟩
    · have hn : ¬ ∀ j, 1 ≤ j → j < N → ds g j := fun hall => hf (by
        have hg := ds_all hp.symm hall
        rw [hg] at hp
        exact hp.symm.uniq dl_pm)
      exfalso
      refine hn fun j j1 j2 => Classical.byContradiction fun hd => ?_
      rcases inv_end hp j1 j2 with ⟨_, h2⟩ | ⟨h1, _⟩
      · have := inv_lst_le (N := N) (fun k => Gar.tr j (f k))
        omega
      · exact hd h1
  | succ m ih =>
    intro f g w hp hw hm
    by_cases hf : f = dl N
    · subst hf; exact ⟨[], by rw [List.append_nil]; exact hH.uniq hw⟩
    · have hn : ¬ ∀ j, 1 ≤ j → j < N → ds g j := fun hall => hf (by
        have hg := ds_all hp.symm hall
        rw [hg] at hp
        exact hp.symm.uniq dl_pm)
      obtain ⟨j, hj⟩ : ∃ j, 1 ≤ j ∧ j < N ∧ ¬ ds g j := Classical.byContradiction fun hc => hn fun j j1 j2 => Classical.byContradiction fun hd => hc ⟨j, j1, j2, hd⟩
      obtain ⟨j1, j2, hd⟩ := hj
      rcases inv_end hp j1 j2 with ⟨h1, h2⟩ | ⟨h1, _⟩
      · have hw2 := hw.snoc hp j1 j2 h1
        have hp2 : Pm N (fun k => Gar.tr j (f k)) (fun k => g (Gar.tr j k)) := (hp.symm.ex j1 j2).symm
        obtain ⟨c, hc⟩ := ih hp2 hw2 (by omega)
        exact ⟨j :: c, by simpa using hc⟩
      · exact absurd h1 hd
theorem wd_dv {f : Nat → Nat} {w : List Nat} (h : Wd N f w) : Dv N w H := by
  obtain ⟨g, hg⟩ := h.pm
  exact simple_dv hH _ hg h rfl
theorem dv_wd {w : List Nat} (h : Dv N w H) : Wd N (pmw (pos w)) w := by
  obtain ⟨c, hc⟩ := h
  exact wd_pre (wd_pe hH hc)
/-- A simple divisor of a normal form divides its first factor. -/
theorem first_max : ∀ (qs : List Pr) {v w : List Nat}, Pms N qs → LWi N qs → Wl N (fsts qs) v → Dv N w H → Dv N w v →
    (qs = [] → w = []) ∧ ∀ q rest w1, qs = q :: rest → Wd N q.1 w1 → Dv N w w1 := by
  intro qs
  induction qs with
  | nil =>
    intro v w _ _ hv _ hd
    cases hv
    obtain ⟨c, hc⟩ := hd
    have hl := hc.len
    rw [List.length_append, List.length_nil] at hl
    exact ⟨fun _ => List.eq_nil_of_length_eq_zero (by omega), fun q rest w1 e => by cases e⟩
  | cons q rest ih =>
    intro v w hP hL hv hwH hd
    refine ⟨fun e => (by cases e), fun q' rest' w1 e hw1 => ?_⟩
    injection e with e1 e2
    subst e1 e2
    cases hv with
    | @cons _ _ w0 v2 h1 h2 =>
    have hpv : Pw N (w0 ++ v2) := h1.pw.app h2.rng
    have h0 : Dv N w0 (w0 ++ v2) := ⟨v2, .refl _⟩
    obtain ⟨l, l1, l2, l3⟩ := lcm_ex _ rfl hpv hd h0
    have lH := l3 H hH.pw hwH (wd_dv hH h1)
    have lv := l3 _ hpv hd h0
    obtain ⟨r, hr⟩ := l2
    cases r with
    | nil =>
      rw [List.append_nil] at hr
      exact l1.pe (.refl _) (hr.trans (h1.uniq hw1))
    | cons j r =>
      exfalso
      have hq := hP q (by simp)
      -- j divides the rest
      have d1 : Dv N (w0 ++ j :: r) (w0 ++ v2) := lv.pe hr (.refl _)
      obtain ⟨c, hc⟩ := d1
      rw [List.append_assoc] at hc
      have d2 : PE N v2 (j :: r ++ c) := PE.canl hc hpv
      -- w0 j is reduced
      have d3 := dv_wd hH (lH.pe hr (.refl _))
      have d4 : Wd N (pmw (pos (w0 ++ [j]))) (w0 ++ [j]) := by
        have e : w0 ++ j :: r = (w0 ++ [j]) ++ r := by simp
        rw [e] at d3
        exact wd_pre d3
      have hj := d4.pw j (by simp)
      have e1 := d4.len
      rw [pmw_snoc, h1.pmw, List.length_append, h1.len] at e1
      have hjH : Dv N [j] H := ds_dv dl_pm hH hj.1 hj.2 (dl_ds hj.1 hj.2)
      have hjv : Dv N [j] v2 := ⟨r ++ c, d2⟩
      obtain ⟨k1, k2⟩ := ih hP.drop1 hL.tail h2 hjH hjv
      cases rest with
      | nil => have := k1 rfl; cases this
      | cons q2 rest =>
        have hq2 := hP q2 (by simp)
        obtain ⟨w2, hw2⟩ := hq2.word
        have d5 := dv_ds hw2 (k2 q2 rest w2 rfl hw2)
        have d6 : ds q.2 j := hL 0 q q2 (by simp) (by simp) j hj.1 hj.2 d5
        rcases inv_end hq hj.1 hj.2 with ⟨a1, a2⟩ | ⟨a1, a2⟩
        · unfold ds at d6; omega
        · simp at e1; omega
/-- Positive normal forms that are equal as braids are equal. -/
theorem uniq_pos : ∀ (qs qs' : List Pr) {v v' : List Nat}, Pms N qs → Pms N qs' → LWi N qs → LWi N qs' → (∀ q ∈ qs, q.1 ≠ fun k => k) → (∀ q ∈ qs', q.1 ≠ fun k => k) → Wl N (fsts qs) v → Wl N (fsts qs') v' → PE N v v' → fsts qs = fsts qs' := by
  have nonempty : ∀ {q : Pr} {w : List Nat}, Wd N q.1 w → q.1 ≠ (fun k => k) → w ≠ [] := fun h hne e => by
    subst e; exact hne h.pmw.symm
  intro qs
  induction qs with
  | nil =>
    intro qs' v v' h1 h2 h3 h4 h5 h6 h7 h8 h9
    cases h7
    cases qs' with
    | nil => rfl
    | cons q' rest' =>
      cases h8 with
      | @cons _ _ w1 v2 k1 k2 =>
      have hl := h9.len
      rw [List.length_append, List.length_nil] at hl
      exact absurd (List.eq_nil_of_length_eq_zero (by omega)) (nonempty k1 (h6 q' (by simp)))
  | cons q rest ih =>
    intro qs' v v' h1 h2 h3 h4 h5 h6 h7 h8 h9
    cases qs' with
    | nil =>
      cases h8
      cases h7 with
      | @cons _ _ w1 v2 k1 k2 =>
      have hl := h9.len
      rw [List.length_append, List.length_nil] at hl
      exact absurd (List.eq_nil_of_length_eq_zero (by omega)) (nonempty k1 (h5 q (by simp)))
    | cons q' rest' =>
      have h7' := h7; have h8' := h8
      cases h7 with
      | @cons _ _ w1 v2 k1 k2 =>
      cases h8 with
      | @cons _ _ w1' v2' k1' k2' =>
      have a1 : Dv N w1 w1' := (first_max hH _ h2 h4 h8' (wd_dv hH k1) ⟨v2, h9.symm⟩).2 q' rest' w1' rfl k1'
      have a2 : Dv N w1' w1 := (first_max hH _ h1 h3 h7' (wd_dv hH k1') ⟨v2', h9⟩).2 q rest w1 rfl k1
      obtain ⟨c, hc⟩ := a1
      obtain ⟨c', hc'⟩ := a2
      have l1 := hc.len; have l2 := hc'.len
      rw [List.length_append] at l1 l2
      have : c = [] := List.eq_nil_of_length_eq_zero (by omega)
      subst this
      rw [List.append_nil] at hc
      have hf : q.1 = q'.1 := by
        have e1 : pmw (pos w1) = q.1 := k1.pmw
        have e2 : pmw (pos w1') = q'.1 := k1'.pmw
        rw [← e1, ← e2, hc.be.hom.2]
      have hpv : Pw N (w1 ++ v2) := k1.pw.app k2.rng
      have b1 : PE N (w1 ++ v2) (w1 ++ v2') := h9.trans (by have := hc.app [] v2'; simpa using this)
      have b2 := PE.canl b1 hpv
      have b3 := ih rest' h1.drop1 h2.drop1 h3.tail h4.tail (fun x hx => h5 x (by simp [hx])) (fun x hx => h6 x (by simp [hx])) k2 k2' b2
      unfold fsts at b3 ⊢
      simp only [List.map_cons, hf, b3]
omit hH
def rep (H : List Nat) : Nat → List Nat
  | 0 => []
  | n + 1 => rep H n ++ H
theorem pwn_rep (H : List Nat) (n : Nat) : pwn (pos H) n = pos (rep H n) := by
  induction n with
  | zero => rfl
  | succ n ih => simp only [pwn, rep, ih, pos_app]
include hH
theorem pw_add (a : Int) (n : Nat) : BE N (pw H (a + n)) (pw H a ++ pos (rep H n)) := by
  induction n with
  | zero => simp [rep, pos]; exact .refl _
  | succ n ih =>
    have h1 := pw_up hH (a + n)
    have h2 := ih.right (pos H)
    rw [show a + ((n + 1 : Nat) : Int) = a + n + 1 by omega]
    simp only [rep, pos_app]
    rw [← List.append_assoc]
    exact h1.trans h2
theorem rep_wl (n : Nat) : Wl N (List.replicate n (dl N)) (rep H n) := by
  induction n with
  | zero => exact .nil
  | succ n ih =>
    rw [List.replicate_succ']
    have := ih.app (Wl.cons hH .nil)
    simpa [rep] using this
theorem rep_pow (m : Nat) (p : Int) (h : 0 ≤ (m : Int) + p) : BE N (pos (rep H m) ++ pw H p) (pos (rep H ((m : Int) + p).toNat)) := by
  have e : pos (rep H m) = pw H m := by unfold pw; rw [if_pos (by omega), pwn_rep, Int.toNat_natCast]
  have e2 : pos (rep H ((m : Int) + p).toNat) = pw H ((m : Int) + p) := by unfold pw; rw [if_pos h, pwn_rep]
  rw [e, e2]
  by_cases hp : 0 ≤ p
  · have := pw_add hH (m : Int) p.toNat
    rw [show (m : Int) + (p.toNat : Int) = m + p by omega] at this
    have e3 : pw H p = pos (rep H p.toNat) := by unfold pw; rw [if_pos hp, pwn_rep]
    rw [e3]; exact this.symm
  · -- p is negative: pw m = pw (m + p) H^(-p)
    have h1 := pw_add hH ((m : Int) + p) (-p).toNat
    rw [show (m : Int) + p + ((-p).toNat : Int) = m by omega] at h1
    have h2 := pw_add hH p (-p).toNat
    rw [show p + ((-p).toNat : Int) = 0 by omega] at h2
    have e3 : pw H 0 = [] := rfl
    rw [e3] at h2
    have hR : Rg N (pos (rep H (-p).toNat)) := Rg.pos (rep_wl hH _).rng
    -- pw p is the inverse of H^(-p)
    have h3 : BE N (pw H p) (neg (pos (rep H (-p).toNat))) := by
      have a1 := h2.right (neg (pos (rep H (-p).toNat)))
      rw [List.nil_append, List.append_assoc] at a1
      have a2 := (BE.cancel hR).left (pw H p)
      rw [List.append_nil] at a2
      exact (a1.trans a2).symm
    have a3 := (h1.right (pw H p)).trans (h3.left _)
    rw [List.append_assoc] at a3
    have a4 := (BE.cancel hR).left (pw H ((m : Int) + p))
    rw [List.append_nil] at a4
    exact a3.trans a4
/-- NORMAL FORMS THAT ACT ALIKE ARE EQUAL. -/
theorem uniq_act (hN : 2 ≤ N) {p p' : Int} {qs qs' : List Pr} (h1 : Pms N qs) (h2 : Pms N qs') (h3 : LWi N qs) (h4 : LWi N qs') (h5 : ∀ q ∈ qs, q.1 ≠ fun k => k) (h6 : ∀ q ∈ qs', q.1 ≠ fun k => k) (h7 : ∀ q ∈ qs, q.1 ≠ dl N) (h8 : ∀ q ∈ qs', q.1 ≠ dl N)
    {b b' : List Int} (h9 : NS N H p (fsts qs) b) (h10 : NS N H p' (fsts qs') b') (ha : ∀ j, act b j = act b' j) : p = p' ∧ fsts qs = fsts qs' := by
  obtain ⟨v, a1, a2⟩ := h9
  obtain ⟨v', a3, a4⟩ := h10
  have hm1 : 0 ≤ ((p.natAbs + p'.natAbs : Nat) : Int) + p := by omega
  have hm2 : 0 ≤ ((p.natAbs + p'.natAbs : Nat) : Int) + p' := by omega
  have hm3 : ((p.natAbs + p'.natAbs : Nat) : Int) + p = ((p.natAbs + p'.natAbs : Nat) : Int) + p' → p = p' := by omega
  generalize p.natAbs + p'.natAbs = m at hm1 hm2 hm3
  have b1 : BE N (pos (rep H m) ++ b) (pos (rep H ((m : Int) + p).toNat ++ v)) := by
    have := (a2.left (pos (rep H m)))
    rw [← List.append_assoc] at this
    rw [pos_app]
    exact this.trans ((rep_pow hH m p hm1).right (pos v))
  have b2 : BE N (pos (rep H m) ++ b') (pos (rep H ((m : Int) + p').toNat ++ v')) := by
    have := (a4.left (pos (rep H m)))
    rw [← List.append_assoc] at this
    rw [pos_app]
    exact this.trans ((rep_pow hH m p' hm2).right (pos v'))
  have hae : AE (rep H ((m : Int) + p).toNat ++ v) (rep H ((m : Int) + p').toNat ++ v') := fun j => by
    rw [← b1.act j, ← b2.act j]; exact act_pre _ (ha j)
  have hP1 : Pw N (rep H ((m : Int) + p).toNat ++ v) := Pw.app (show Pw N (rep H ((m : Int) + p).toNat) from (rep_wl hH _).rng) a1.rng
  have hP2 : Pw N (rep H ((m : Int) + p').toNat ++ v') := Pw.app (show Pw N (rep H ((m : Int) + p').toNat) from (rep_wl hH _).rng) a3.rng
  have hpe := faithful _ rfl hP1 hP2 hae
  -- the lists with the half twists in front
  have hdl : dl N ≠ fun k => k := fun e => by
    have := dl_ds (N := N) (i := 1) (by omega) (by omega)
    rw [e] at this
    exact id_ds (Nat.le_refl 1) this
  have gen : ∀ (k : Nat) (qs : List Pr), Pms N qs → LWi N qs → (∀ q ∈ qs, q.1 ≠ fun k => k) → Pms N (List.replicate k (dl N, dl N) ++ qs) ∧ LWi N (List.replicate k (dl N, dl N) ++ qs) ∧ (∀ q ∈ List.replicate k (dl N, dl N) ++ qs, q.1 ≠ fun k => k) ∧ fsts (List.replicate k (dl N, dl N) ++ qs) = List.replicate k (dl N) ++ fsts qs := by
    intro k qs c1 c2 c3
    refine ⟨fun q hq => ?_, fun i a b ea eb => ?_, fun q hq => ?_, ?_⟩
    · rcases List.mem_append.1 hq with h | h
      · rw [(List.mem_replicate.1 h).2]; exact dl_pm
      · exact c1 q h
    · rcases Nat.lt_or_ge i k with hlt | hge
      · rw [List.getElem?_append_left (by simpa using hlt), List.getElem?_replicate, if_pos hlt] at ea
        injection ea with ea
        subst ea
        intro j j1 j2 _
        exact dl_ds j1 j2
      · rw [List.getElem?_append_right (by simpa using hge)] at ea
        rw [List.getElem?_append_right (by simp; omega)] at eb
        simp only [List.length_replicate] at ea eb
        rw [show i + 1 - k = i - k + 1 by omega] at eb
        exact c2 _ a b ea eb
    · rcases List.mem_append.1 hq with h | h
      · rw [(List.mem_replicate.1 h).2]; exact hdl
      · exact c3 q h
    · unfold fsts; simp
  obtain ⟨c1, c2, c3, c4⟩ := gen ((m : Int) + p).toNat qs h1 h3 h5
  obtain ⟨d1, d2, d3, d4⟩ := gen ((m : Int) + p').toNat qs' h2 h4 h6
  have w1 : Wl N (fsts (List.replicate ((m : Int) + p).toNat (dl N, dl N) ++ qs)) (rep H ((m : Int) + p).toNat ++ v) := by rw [c4]; exact (rep_wl hH _).app a1
  have w2 : Wl N (fsts (List.replicate ((m : Int) + p').toNat (dl N, dl N) ++ qs')) (rep H ((m : Int) + p').toNat ++ v') := by rw [d4]; exact (rep_wl hH _).app a3
  have key := uniq_pos hH _ _ c1 d1 c2 d2 c3 d3 w1 w2 hpe
  rw [c4, d4] at key
  have n1 : dl N ∉ fsts qs := fun hm => by
    unfold fsts at hm
    obtain ⟨q, hq, e⟩ := List.mem_map.1 hm
    exact h7 q hq e
  have n2 : dl N ∉ fsts qs' := fun hm => by
    unfold fsts at hm
    obtain ⟨q, hq, e⟩ := List.mem_map.1 hm
    exact h8 q hq e
  have strip : ∀ (k k' : Nat) (l l' : List (Nat → Nat)), dl N ∉ l → dl N ∉ l' → List.replicate k (dl N) ++ l = List.replicate k' (dl N) ++ l' → k = k' ∧ l = l' := by
    intro k
    induction k with
    | zero =>
      intro k' l l' e1 e2 e
      cases k' with
      | zero => exact ⟨rfl, e⟩
      | succ k' =>
        rw [List.replicate_succ] at e
        have e : l = dl N :: (List.replicate k' (dl N) ++ l') := e
        rw [e] at e1
        exact absurd (by simp) e1
    | succ k ih =>
      intro k' l l' e1 e2 e
      cases k' with
      | zero =>
        rw [List.replicate_succ] at e
        have e : dl N :: (List.replicate k (dl N) ++ l) = l' := e
        rw [← e] at e2
        exact absurd (by simp) e2
      | succ k' =>
        rw [List.replicate_succ, List.replicate_succ] at e
        injection e with _ e
        obtain ⟨r1, r2⟩ := ih k' l l' e1 e2 e
        exact ⟨by omega, r2⟩
  obtain ⟨r1, r2⟩ := strip _ _ _ _ n1 n2 key
  exact ⟨hm3 (by omega), r2⟩
end
end Gar
end Go.Proofs.Ytlkmcbgkohpmiaa
