/- Normal forms that act alike are equal. -/
import Derived.Test.YtkeaonceaaafcaaPGhom
import Derived.Test.YtkeaonceaaafcaaPGdiv
set_option linter.unusedVariables false
set_option linter.unusedSimpArgs false
namespace Go.Proofs.Ytkeaonceaaafcaa
open Ev
namespace Gar
section
variable {N : Nat}
theorem pw_rg' {w : List Nat} (h : Pw N w) : Rg N (pos w) := Rg.pos h
theorem pw_pm {w : List Nat} (h : Pw N w) : Pm N (pmw (pos w)) (pmi (pos w)) := pmw_pm (Rg.pos h)
theorem pmw_cons (i : Nat) (w : List Nat) : pmw (pos (i :: w)) = fun k => pmw (pos w) (tr i k) := by
  funext k; simp [pos, pmw]
theorem pmw_snoc (w : List Nat) (j : Nat) : pmw (pos (w ++ [j])) = fun k => tr j (pmw (pos w) k) := by
  funext k; rw [pos_app, pmw_app]; simp [pos, pmw]
/-- Inversions at a letter at the end. -/
theorem inv_end {f g : Nat → Nat} (h : Pm N f g) {i : Nat} (h1 : 1 ≤ i) (h2 : i < N) : (g (i - 1) < g i ∧ inv (lst N fun k => tr i (f k)) = inv (lst N f) + 1) ∨ (g i < g (i - 1) ∧ inv (lst N fun k => tr i (f k)) + 1 = inv (lst N f)) := by
  have hne : g (i - 1) ≠ g i := fun e => by have := h.symm.inj e; omega
  by_cases hlt : g (i - 1) < g i
  · exact .inl ⟨hlt, inv_up h h1 h2 hlt⟩
  · right
    refine ⟨by omega, ?_⟩
    have h' : Pm N (fun k => tr i (f k)) (fun k => g (tr i k)) := (h.symm.ex h1 h2).symm
    have := inv_up h' h1 h2 (by rw [tr_l h1, tr_r h1]; omega)
    have e : (fun k => tr i (tr i (f k))) = f := by funext k; rw [tr_tr h1]
    rw [e] at this; omega
theorem inv_le_len {w : List Nat} (h : Pw N w) : inv (lst N (pmw (pos w))) ≤ w.length := by
  induction w with
  | nil =>
    have : pmw (pos []) = fun k => k := rfl
    rw [this, inv_id]; exact Nat.le_refl _
  | cons i w ih =>
    have ih := ih h.tail
    have hi := h i (by simp)
    have hp := pw_pm h.tail
    rw [pmw_cons, List.length_cons]
    generalize pmw (pos w) = f at ih hp
    by_cases hd : ds f i
    · have := inv_tr hi.1 hi.2 hd; omega
    · have hne : f (i - 1) ≠ f i := fun e => by have := hp.inj e; omega
      have hd2 : ds (fun k => f (tr i k)) i := by
        unfold ds at hd ⊢; dsimp only; rw [tr_l hi.1, tr_r hi.1]; omega
      have := inv_tr hi.1 hi.2 hd2
      have e : (fun k => f (tr i (tr i k))) = f := by funext k; rw [tr_tr hi.1]
      rw [e] at this; omega
/-- A word as long as its permutation has inversions is reduced. -/
theorem red_wd {w : List Nat} (h : Pw N w) (hl : inv (lst N (pmw (pos w))) = w.length) : Wd N (pmw (pos w)) w := by
  induction w with
  | nil => exact .nil
  | cons i w ih =>
    have hi := h i (by simp)
    have hp := pw_pm h.tail
    have hb := inv_le_len h.tail
    rw [pmw_cons, List.length_cons] at hl
    rw [pmw_cons]
    have hd : ds (fun k => pmw (pos w) (tr i k)) i := by
      refine Classical.byContradiction fun hd => ?_
      have hne : pmw (pos w) (i - 1) ≠ pmw (pos w) i := fun e => by have := hp.inj e; omega
      have hd2 : ds (pmw (pos w)) i := by
        unfold ds at hd ⊢; dsimp only at hd; rw [tr_l hi.1, tr_r hi.1] at hd; omega
      have := inv_tr hi.1 hi.2 hd2
      omega
    have h1 := inv_tr hi.1 hi.2 hd
    have e : (fun k => pmw (pos w) (tr i (tr i k))) = pmw (pos w) := by funext k; rw [tr_tr hi.1]
    refine .cons hi.1 hi.2 hd ?_
    rw [e] at h1 ⊢
    exact ih h.tail (by omega)
theorem inv_app {u v : List Nat} (h : Pw N (u ++ v)) : inv (lst N (pmw (pos (u ++ v)))) ≤ inv (lst N (pmw (pos u))) + v.length := by
  induction v generalizing u with
  | nil => rw [List.append_nil]; exact Nat.le_refl _
  | cons j v ih =>
    have e : u ++ j :: v = (u ++ [j]) ++ v := by simp
    rw [e] at h ⊢
    have h1 := ih h
    have hj := h j (by simp)
    have hu : Pw N u := fun i hi => h i (by simp [hi])
    rw [pmw_snoc u j] at h1
    have h2 := inv_end (pw_pm hu) hj.1 hj.2
    rw [List.length_cons]; omega
theorem Wd.pw {f : Nat → Nat} {w : List Nat} (h : Wd N f w) : Pw N w := h.rng
theorem wd_pre {f : Nat → Nat} {u v : List Nat} (h : Wd N f (u ++ v)) : Wd N (pmw (pos u)) u := by
  have hP := h.pw
  have h1 := inv_app hP
  have h2 := h.len
  rw [h.pmw, List.length_append] at *
  have h3 := inv_le_len hP.left
  exact red_wd hP.left (by omega)
/-- A word equal to a reduced word is reduced. -/
theorem wd_pe {f : Nat → Nat} {u w : List Nat} (h : Wd N f u) (k : PE N u w) : Wd N f w := by
  have hP := (PE.pw k).1 h.pw
  have e : pmw (pos w) = f := by rw [← k.be.hom.2, h.pmw]
  have := red_wd hP (by rw [e, ← h.len, k.len])
  rwa [e] at this
theorem dv_ds {f : Nat → Nat} {w : List Nat} (h : Wd N f w) {j : Nat} (hd : Dv N [j] w) : ds f j := by
  obtain ⟨c, hc⟩ := hd
  have := wd_pe h hc
  cases this with
  | cons _ _ h3 _ => exact h3
theorem ds_dv {f g : Nat → Nat} (hp : Pm N f g) {w : List Nat} (h : Wd N f w) {j : Nat} (h1 : 1 ≤ j) (h2 : j < N) (hd : ds f j) : Dv N [j] w := by
  obtain ⟨c, _, hc⟩ := hp.wordAt h1 h2 hd
  exact ⟨c, h.uniq hc⟩
variable {H : List Nat} (hH : Wd N (dl N) H)
include hH
/-- Every simple braid divides the half twist. -/
theorem simple_dv : ∀ (m : Nat) {f g : Nat → Nat} {w : List Nat}, Pm N f g → Wd N f w → N * N - inv (lst N f) = m → Dv N w H := by
  intro m
  induction m with
  | zero =>
    intro f g w hp hw hm
    by_cases hf : f = dl N
    · subst hf; exact ⟨[], by rw [List.append_nil]; exact hH.uniq hw⟩
    · have hn : ¬ ∀ j, 1 ≤ j → j < N → ds g j := fun hall => hf (by
        have hg := ds_all hp.symm hall
        rw [hg] at hp
        exact hp.symm.uniq dl_pm)
      exfalso
      refine hn fun j j1 j2 => Classical.byContradiction fun hd => ?_
      rcases inv_end hp j1 j2 with ⟨_, h2⟩ | ⟨h1, _⟩
      · have := inv_lst_le (N := N) (fun k => Gar.tr j (f k))
        omega
      · exact hd h1
  | succ m ih =>
    intro f g w hp hw hm
    by_cases hf : f = dl N
    · subst hf; exact ⟨[], by rw [List.append_nil]; exact hH.uniq hw⟩
    · have hn : ¬ ∀ j, 1 ≤ j → j < N → ds g j := fun hall => hf (by
        have hg := ds_all hp.symm hall
        rw [hg] at hp
        exact hp.symm.uniq dl_pm)
      obtain ⟨j, hj⟩ : ∃ j, 1 ≤ j ∧ j < N ∧ ¬ ds g j := Classical.byContradiction fun hc => hn fun j j1 j2 => Classical.byContradiction fun hd => hc ⟨j, j1, j2, hd⟩
      obtain ⟨j1, j2, hd⟩ := hj
      rcases inv_end hp j1 j2 with ⟨h1, h2⟩ | ⟨h1, _⟩
      · have hw2 := hw.snoc hp j1 j2 h1
        have hp2 : Pm N (fun k => Gar.tr j (f k)) (fun k => g (Gar.tr j k)) := (hp.symm.ex j1 j2).symm
        obtain ⟨c, hc⟩ := ih hp2 hw2 (by omega)
        exact ⟨j :: c, by simpa using hc⟩
      · exact absurd h1 hd
theorem wd_dv {f : Nat → Nat} {w : List Nat} (h : Wd N f w) : Dv N w H := by
  obtain ⟨g, hg⟩ := h.pm
  exact simple_dv hH _ hg h rfl
theorem dv_wd {w : List Nat} (h : Dv N w H) : Wd N (pmw (pos w)) w := by
  obtain ⟨c, hc⟩ := h
  exact wd_pre (wd_pe hH hc)
/-- A simple divisor of a normal form divides its first factor. -/
theorem first_max : ∀ (qs : List Pr) {v w : List Nat}, Pms N qs → LWi N qs → Wl N (fsts qs) v → Dv N w H → Dv N w v →
    (qs = [] → w = []) ∧ ∀ q rest w1, qs = q :: rest → Wd N q.1 w1 → Dv N w w1 := by
  intro qs
  induction qs with
  | nil =>
    intro v w _ _ hv _ hd
    cases hv
    obtain ⟨c, hc⟩ := hd
    have hl := hc.len
    rw [List.length_append, List.length_nil] at hl
    exact ⟨fun _ => List.eq_nil_of_length_eq_zero (by omega), fun q rest w1 e => by cases e⟩
  | cons q rest ih =>
    intro v w hP hL hv hwH hd
    refine ⟨fun e => (by cases e), fun q' rest' w1 e hw1 => ?_⟩
    injection e with e1 e2
    subst e1 e2
    cases hv with
    | @cons _ _ w0 v2 h1 h2 =>
    have hpv : Pw N (w0 ++ v2) := h1.pw.app h2.rng
    have h0 : Dv N w0 (w0 ++ v2) := ⟨v2, .refl _⟩
    obtain ⟨l, l1, l2, l3⟩ := lcm_ex _ rfl hpv hd h0
    have lH := l3 H hH.pw hwH (wd_dv hH h1)
    have lv := l3 _ hpv hd h0
    obtain ⟨r, hr⟩ := l2
    cases r with
    | nil =>
      rw [List.append_nil] at hr
      exact l1.pe (.refl _) (hr.trans (h1.uniq hw1))
    | cons j r =>
      exfalso
      have hq := hP q (by simp)
      -- j divides the rest
      have d1 : Dv N (w0 ++ j :: r) (w0 ++ v2) := lv.pe hr (.refl _)
      obtain ⟨c, hc⟩ := d1
      rw [List.append_assoc] at hc
      have d2 : PE N v2 (j :: r ++ c) := PE.canl hc hpv
      -- w0 j is reduced
      have d3 := dv_wd hH (lH.pe hr (.refl _))
      have d4 : Wd N (pmw (pos (w0 ++ [j]))) (w0 ++ [j]) := by
        have e : w0 ++ j :: r = (w0 ++ [j]) ++ r := by simp
        rw [e] at d3
        exact wd_pre d3
      have hj := d4.pw j (by simp)
      have e1 := d4.len
      rw [pmw_snoc, h1.pmw, List.length_append, h1.len] at e1
      have hjH : Dv N [j] H := ds_dv dl_pm hH hj.1 hj.2 (dl_ds hj.1 hj.2)
      have hjv : Dv N [j] v2 := ⟨r ++ c, d2⟩
      obtain ⟨k1, k2⟩ := ih hP.drop1 hL.tail h2 hjH hjv
      cases rest with
      | nil => have := k1 rfl; cases this
      | cons q2 rest =>
        have hq2 := hP q2 (by simp)
        obtain ⟨w2, hw2⟩ := hq2.word
        have d5 := dv_ds hw2 (k2 q2 rest w2 rfl hw2)
        have d6 : ds q.2 j := hL 0 q q2 (by simp) (by simp) j hj.1 hj.2 d5
        rcases inv_end hq hj.1 hj.2 with ⟨a1, a2⟩ | ⟨a1, a2⟩
        · unfold ds at d6; omega
        · simp at e1; omega
/-- Positive normal forms that are equal as braids are equal. -/
theorem uniq_pos : ∀ (qs qs' : List Pr) {v v' : List Nat}, Pms N qs → Pms N qs' → LWi N qs → LWi N qs' → (∀ q ∈ qs, q.1 ≠ fun k => k) → (∀ q ∈ qs', q.1 ≠ fun k => k) → Wl N (fsts qs) v → Wl N (fsts qs') v' → PE N v v' → fsts qs = fsts qs' := by
  have nonempty : ∀ {q : Pr} {w : List Nat}, Wd N q.1 w → q.1 ≠ (fun k => k) → w ≠ [] := fun h hne e => by
    subst e; exact hne h.pmw.symm
  intro qs
  induction qs with
  | nil =>
    intro qs' v v' h1 h2 h3 h4 h5 h6 h7 h8 h9
    cases h7
    cases qs' with
    | nil => rfl
    | cons q' rest' =>
      cases h8 with
      | @cons _ _ w1 v2 k1 k2 =>
      have hl := h9.len
      rw [List.length_append, List.length_nil] at hl
      exact absurd (List.eq_nil_of_length_eq_zero (by omega)) (nonempty k1 (h6 q' (by simp)))
  | cons q rest ih =>
    intro qs' v v' h1 h2 h3 h4 h5 h6 h7 h8 h9
    cases qs' with
    | nil =>
      cases h8
      cases h7 with
      | @cons _ _ w1 v2 k1 k2 =>
      have hl := h9.len
      rw [List.length_append, List.length_nil] at hl
      exact absurd (List.eq_nil_of_length_eq_zero (by omega)) (nonempty k1 (h5 q (by simp)))
    | cons q' rest' =>
      have h7' := h7; have h8' := h8
      cases h7 with
      | @cons _ _ w1 v2 k1 k2 =>
      cases h8 with
      | @cons _ _ w1' v2' k1' k2' =>
      have a1 : Dv N w1 w1' := (first_max hH _ h2 h4 h8' (wd_dv hH k1) ⟨v2, h9.symm⟩).2 q' rest' w1' rfl k1'
      have a2 : Dv N w1' w1 := (first_max hH _ h1 h3 h7' (wd_dv hH k1') ⟨v2', h9⟩).2 q rest w1 rfl k1
      obtain ⟨c, hc⟩ := a1
      obtain ⟨c', hc'⟩ := a2
      have l1 := hc.len; have l2 := hc'.len
      rw [List.length_append] at l1 l2
      have : c = [] := List.eq_nil_of_length_eq_zero (by omega)
      subst this
      rw [List.append_nil] at hc
      have hf : q.1 = q'.1 := by
        have e1 : pmw (pos w1) = q.1 := k1.pmw
        have e2 : pmw (pos w1') = q'.1 := k1'.pmw
        rw [← e1, ← e2, hc.be.hom.2]
      have hpv : Pw N (w1 ++ v2) := k1.pw.app k2.rng
      have b1 : PE N (w1 ++ v2) (w1 ++ v2') := h9.trans (by have := hc.app [] v2'; simpa using this)
      have b2 := PE.canl b1 hpv
      have b3 := ih rest' h1.drop1 h2.drop1 h3.tail h4.tail (fun x hx => h5 x (by simp [hx])) (fun x hx => h6 x (by simp [hx])) k2 k2' b2
      unfold fsts at b3 ⊢
      simp only [List.map_cons, hf, b3]
omit hH
def rep (H : List Nat) : Nat → List Nat
  | 0 => []
  | n + 1 => rep H n ++ H
theorem pwn_rep (H : List Nat) (n : Nat) : pwn (pos H) n = pos (rep H n) := by
  induction n with
  | zero => rfl
  | succ n ih => simp only [pwn, rep, ih, pos_app]
include hH
theorem pw_add (a : Int) (n : Nat) : BE N (pw H (a + n)) (pw H a ++ pos (rep H n)) := by
  induction n with
  | zero => simp [rep, pos]; exact .refl _
  | succ n ih =>
    have h1 := pw_up hH (a + n)
    have h2 := ih.right (pos H)
    rw [show a + ((n + 1 : Nat) : Int) = a + n + 1 by omega]
    simp only [rep, pos_app]
    rw [← List.append_assoc]
    exact h1.trans h2
theorem rep_wl (n : Nat) : Wl N (List.replicate n (dl N)) (rep H n) := by
  induction n with
  | zero => exact .nil
  | succ n ih =>
    rw [List.replicate_succ']
    have := ih.app (Wl.cons hH .nil)
    simpa [rep] using this
theorem rep_pow (m : Nat) (p : Int) (h : 0 ≤ (m : Int) + p) : BE N (pos (rep H m) ++ pw H p) (pos (rep H ((m : Int) + p).toNat)) := by
  have e : pos (rep H m) = pw H m := by unfold pw; rw [if_pos (by omega), pwn_rep, Int.toNat_natCast]
  have e2 : pos (rep H ((m : Int) + p).toNat) = pw H ((m : Int) + p) := by unfold pw; rw [if_pos h, pwn_rep]
  rw [e, e2]
  by_cases hp : 0 ≤ p
  · have := pw_add hH (m : Int) p.toNat
    rw [show (m : Int) + (p.toNat : Int) = m + p by omega] at this
    have e3 : pw H p = pos (rep H p.toNat) := by unfold pw; rw [if_pos hp, pwn_rep]
    rw [e3]; exact this.symm
  · -- p is negative: pw m = pw (m + p) H^(-p)
    have h1 := pw_add hH ((m : Int) + p) (-p).toNat
    rw [show (m : Int) + p + ((-p).toNat : Int) = m by omega] at h1
    have h2 := pw_add hH p (-p).toNat
    rw [show p + ((-p).toNat : Int) = 0 by omega] at h2
    have e3 : pw H 0 = [] := rfl
    rw [e3] at h2
    have hR : Rg N (pos (rep H (-p).toNat)) := Rg.pos (rep_wl hH _).rng
    -- pw p is the inverse of H^(-p)
    have h3 : BE N (pw H p) (neg (pos (rep H (-p).toNat))) := by
      have a1 := h2.right (neg (pos (rep H (-p).toNat)))
      rw [List.nil_append, List.append_assoc] at a1
      have a2 := (BE.cancel hR).left (pw H p)
      rw [List.append_nil] at a2
      exact (a1.trans a2).symm
    have a3 := (h1.right (pw H p)).trans (h3.left _)
    rw [List.append_assoc] at a3
    have a4 := (BE.cancel hR).left (pw H ((m : Int) + p))
    rw [List.append_nil] at a4
    exact a3.trans a4
/-- NORMAL FORMS THAT ACT ALIKE ARE EQUAL. -/
theorem uniq_act (hN : 2 ≤ N) {p p' : Int} {qs qs' : List Pr} (h1 : Pms N qs) (h2 : Pms N qs') (h3 : LWi N qs) (h4 : LWi N qs') (h5 : ∀ q ∈ qs, q.1 ≠ fun k => k) (h6 : ∀ q ∈ qs', q.1 ≠ fun k => k) (h7 : ∀ q ∈ qs, q.1 ≠ dl N) (h8 : ∀ q ∈ qs', q.1 ≠ dl N)
    {b b' : List Int} (h9 : NS N H p (fsts qs) b) (h10 : NS N H p' (fsts qs') b') (ha : ∀ j, act b j = act b' j) : p = p' ∧ fsts qs = fsts qs' := by
  obtain ⟨v, a1, a2⟩ := h9
  obtain ⟨v', a3, a4⟩ := h10
  have hm1 : 0 ≤ ((p.natAbs + p'.natAbs : Nat) : Int) + p := by omega
  have hm2 : 0 ≤ ((p.natAbs + p'.natAbs : Nat) : Int) + p' := by omega
  have hm3 : ((p.natAbs + p'.natAbs : Nat) : Int) + p = ((p.natAbs + p'.natAbs : Nat) : Int) + p' → p = p' := by omega
  generalize p.natAbs + p'.natAbs = m at hm1 hm2 hm3
  have b1 : BE N (pos (rep H m) ++ b) (pos (rep H ((m : Int) + p).toNat ++ v)) := by
    have := (a2.left (pos (rep H m)))
    rw [← List.append_assoc] at this
    rw [pos_app]
    exact this.trans ((rep_pow hH m p hm1).right (pos v))
  have b2 : BE N (pos (rep H m) ++ b') (pos (rep H ((m : Int) + p').toNat ++ v')) := by
    have := (a4.left (pos (rep H m)))
    rw [← List.append_assoc] at this
    rw [pos_app]
    exact this.trans ((rep_pow hH m p' hm2).right (pos v'))
  have hae : AE (rep H ((m : Int) + p).toNat ++ v) (rep H ((m : Int) + p').toNat ++ v') := fun j => by
    rw [← b1.act j, ← b2.act j]; exact act_pre _ (ha j)
  have hP1 : Pw N (rep H ((m : Int) + p).toNat ++ v) := Pw.app (show Pw N (rep H ((m : Int) + p).toNat) from (rep_wl hH _).rng) a1.rng
  have hP2 : Pw N (rep H ((m : Int) + p').toNat ++ v') := Pw.app (show Pw N (rep H ((m : Int) + p').toNat) from (rep_wl hH _).rng) a3.rng
  have hpe := faithful _ rfl hP1 hP2 hae
  -- the lists with the half twists in front
  have hdl : dl N ≠ fun k => k := fun e => by
    have := dl_ds (N := N) (i := 1) (by omega) (by omega)
    rw [e] at this
    exact id_ds (Nat.le_refl 1) this
  have gen : ∀ (k : Nat) (qs : List Pr), Pms N qs → LWi N qs → (∀ q ∈ qs, q.1 ≠ fun k => k) → Pms N (List.replicate k (dl N, dl N) ++ qs) ∧ LWi N (List.replicate k (dl N, dl N) ++ qs) ∧ (∀ q ∈ List.replicate k (dl N, dl N) ++ qs, q.1 ≠ fun k => k) ∧ fsts (List.replicate k (dl N, dl N) ++ qs) = List.replicate k (dl N) ++ fsts qs := by
    intro k qs c1 c2 c3
    refine ⟨fun q hq => ?_, fun i a b ea eb => ?_, fun q hq => ?_, ?_⟩
    · rcases List.mem_append.1 hq with h | h
      · rw [(List.mem_replicate.1 h).2]; exact dl_pm
      · exact c1 q h
    · rcases Nat.lt_or_ge i k with hlt | hge
      · rw [List.getElem?_append_left (by simpa using hlt), List.getElem?_replicate, if_pos hlt] at ea
        injection ea with ea
        subst ea
        intro j j1 j2 _
        exact dl_ds j1 j2
      · rw [List.getElem?_append_right (by simpa using hge)] at ea
        rw [List.getElem?_append_right (by simp; omega)] at eb
        simp only [List.length_replicate] at ea eb
        rw [show i + 1 - k = i - k + 1 by omega] at eb
        exact c2 _ a b ea eb
    · rcases List.mem_append.1 hq with h | h
      · rw [(List.mem_replicate.1 h).2]; exact hdl
      · exact c3 q h
    · unfold fsts; simp
  obtain ⟨c1, c2, c3, c4⟩ := gen ((m : Int) + p).toNat qs h1 h3 h5
  obtain ⟨d1, d2, d3, d4⟩ := gen ((m : Int) + p').toNat qs' h2 h4 h6
  have w1 : Wl N (fsts (List.replicate ((m : Int) + p).toNat (dl N, dl N) ++ qs)) (rep H ((m : Int) + p).toNat ++ v) := by rw [c4]; exact (rep_wl hH _).app a1
  have w2 : Wl N (fsts (List.replicate ((m : Int) + p').toNat (dl N, dl N) ++ qs')) (rep H ((m : Int) + p').toNat ++ v') := by rw [d4]; exact (rep_wl hH _).app a3
  have key := uniq_pos hH _ _ c1 d1 c2 d2 c3 d3 w1 w2 hpe
  rw [c4, d4] at key
  have n1 : dl N ∉ fsts qs := fun hm => by
    unfold fsts at hm
    obtain ⟨q, hq, e⟩ := List.mem_map.1 hm
    exact h7 q hq e
  have n2 : dl N ∉ fsts qs' := fun hm => by
    unfold fsts at hm
    obtain ⟨q, hq, e⟩ := List.mem_map.1 hm
    exact h8 q hq e
  have strip : ∀ (k k' : Nat) (l l' : List (Nat → Nat)), dl N ∉ l → dl N ∉ l' → List.replicate k (dl N) ++ l = List.replicate k' (dl N) ++ l' → k = k' ∧ l = l' := by
    intro k
    induction k with
    | zero =>
      intro k' l l' e1 e2 e
      cases k' with
      | zero => exact ⟨rfl, e⟩
      | succ k' =>
        rw [List.replicate_succ] at e
        have e : l = dl N :: (List.replicate k' (dl N) ++ l') := e
        rw [e] at e1
        exact absurd (by simp) e1
    | succ k ih =>
      intro k' l l' e1 e2 e
      cases k' with
      | zero =>
        rw [List.replicate_succ] at e
        have e : dl N :: (List.replicate k (dl N) ++ l) = l' := e
        rw [← e] at e2
        exact absurd (by simp) e2
      | succ k' =>
        rw [List.replicate_succ, List.replicate_succ] at e
        injection e with _ e
        obtain ⟨r1, r2⟩ := ih k' l l' e1 e2 e
        exact ⟨by omega, r2⟩
  obtain ⟨r1, r2⟩ := strip _ _ _ _ n1 n2 key
  exact ⟨hm3 (by omega), r2⟩
end
end Gar
end Go.Proofs.Ytkeaonceaaafcaa
