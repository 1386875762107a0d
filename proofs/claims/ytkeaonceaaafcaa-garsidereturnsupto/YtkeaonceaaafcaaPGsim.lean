/- The plain law of GarsideSimple. -/
import Derived.Test.YtkeaonceaaafcaaPGsameB
import Derived.Test.YtkeaonceaaafcaaPGwd
import Derived.Test.YtkeaonceaaafcaaPGawake
set_option linter.unusedVariables false
set_option linter.unusedSimpArgs false
namespace Go.Proofs.Ytkeaonceaaafcaa
open Ev
namespace Gar
theorem equalL {a b : List Int} (n : Nat) (hn : a.length < n) (hl : a.length ≤ 1000) : ∃ r, F.slices_Equal_Lint_int n a b = some r ∧ (r = true ↔ a = b) := by
  unfold F.slices_Equal_Lint_int
  by_cases h : (a.length : Int) = (b.length : Int)
  · rw [decide_eq_true h, Bool.not_true, cond_false]
    obtain ⟨r, h1, h2⟩ := eqLoop (body := F.slices_Equal_Lint_int_b0 n a b) (a := a) (b := b) n (by omega) (by omega) (fun k x y hx hy => by
      have hk := (List.getElem?_eq_some_iff.1 hx).1
      unfold F.slices_Equal_Lint_int_b0
      dsimp only
      rw [decide_eq_true (by omega), cond_true, get_at rfl hx, Option.bind_some, get_at rfl hy, Option.bind_some, chk_ok (by omega) (by omega)]
      refine ⟨fun e => ?_, fun e => ?_⟩
      · rw [decide_eq_true e]; rfl
      · rw [decide_eq_false e]; rfl) (by
      unfold F.slices_Equal_Lint_int_b0
      dsimp only
      rw [decide_eq_false (by omega)]; rfl)
    rw [h1, Option.bind_some]
    rcases h2 with ⟨x, rfl, e⟩ | ⟨rfl, e⟩
    · exact ⟨true, rfl, fun _ => e, fun _ => rfl⟩
    · exact ⟨false, rfl, fun h' => absurd h' (by decide), fun h' => absurd h' e⟩
  · rw [decide_eq_false h]
    exact ⟨false, rfl, fun h' => absurd h' (by decide), fun h' => absurd (by rw [h']) h⟩
section
variable {N : Nat}
theorem pos_len (w : List Nat) : (pos w).length = w.length := by simp [pos]
theorem pos_ok' {f : Nat → Nat} {w : List Nat} (hN : 1 ≤ N ∧ N ≤ 10) (h : Wd N f w) : okB (N : Int) (pos w) = true := by
  have h1 := h.len
  have h2 := inv_lst_le (N := N) f
  have h3 : N * N ≤ 10 * 10 := Nat.mul_le_mul hN.2 hN.2
  exact okB_iff.2 ⟨by omega, by omega, by rw [pos_len]; omega, Rg.pos h.rng⟩
theorem form_nv {u : List Int} (hu : okB (N : Int) u = true) (n : Nat) (hn : 300000000 ≤ n) {p : Int} {qs : List Pr} (hV : NV N p qs u) : F.garside_Form n (N : Int) u = some ((N : Int), p, ls N qs, 0) := by
  obtain ⟨p', qs', c1, c2⟩ := form_eq hu n hn
  obtain ⟨a1, a2, a3, a4⟩ := okB_iff.1 hu
  have hr := okB_rg hu
  rw [Int.toNat_natCast] at c1 c2 hr
  obtain ⟨d1, d2⟩ := hV.uniq (by omega) c2 hr hr (fun _ => rfl)
  rw [c1, ← d1, ls_fsts, ls_fsts, d2]
theorem form_id {w : List Nat} (hN : 1 ≤ N ∧ N ≤ 10) (h : Wd N (fun k => k) w) (n : Nat) (hn : 300000000 ≤ n) : w = [] ∧ F.garside_Form n (N : Int) (pos w) = some ((N : Int), 0, [], 0) := by
  have hw : w = [] := List.eq_nil_of_length_eq_zero (by rw [h.len, inv_id])
  refine ⟨hw, ?_⟩
  have hV : NV N 0 [] (pos w) := by
    subst hw
    exact ⟨fun q hq => by simp at hq, fun i a b ha => by simp at ha, fun q hq => by simp at hq, fun q hq => by simp at hq, fun H _ => NS.nil, by simp, by simp [pos]⟩
  rw [form_nv (pos_ok' hN h) n hn hV]; rfl
theorem form_dl {w : List Nat} (hN : 2 ≤ N ∧ N ≤ 10) (h : Wd N (dl N) w) (n : Nat) (hn : 300000000 ≤ n) : F.garside_Form n (N : Int) (pos w) = some ((N : Int), 1, [], 0) := by
  have hinv := inv_dl N hN.2
  have hl := h.len
  have hw1 : 1 ≤ w.length := by
    have : 2 * 1 ≤ N * (N - 1) := Nat.mul_le_mul (by omega) (by omega)
    omega
  have hV : NV N 1 [] (pos w) := ⟨fun q hq => by simp at hq, fun i a b ha => by simp at ha, fun q hq => by simp at hq, fun q hq => by simp at hq, fun H hH => ⟨[], .nil, by
    have e : pw H 1 ++ pos [] = pos H := by unfold pw; rw [if_pos (by decide)]; simp [pos, pwn]
    rw [e]
    exact (h.uniq hH).be⟩, by rw [pos_len]; omega, by rw [pos_len]; simp; omega⟩
  rw [form_nv (pos_ok' ⟨by omega, hN.2⟩ h) n hn hV]; rfl
theorem form_one {f g : Nat → Nat} {w : List Nat} (hN : 1 ≤ N ∧ N ≤ 10) (hp : Pm N f g) (h : Wd N f w) (h1 : f ≠ fun k => k) (h2 : f ≠ dl N) (n : Nat) (hn : 300000000 ≤ n) : w ≠ [] ∧ F.garside_Form n (N : Int) (pos w) = some ((N : Int), 0, [li N f], 0) := by
  have hw : w ≠ [] := fun e => by
    subst e
    generalize hv : ([] : List Nat) = v at h
    cases h with
    | nil => exact h1 rfl
    | cons => cases hv
  have hw1 : 1 ≤ w.length := by cases w with
    | nil => exact absurd rfl hw
    | cons a t => simp
  refine ⟨hw, ?_⟩
  have hV : NV N 0 [(f, g)] (pos w) := ⟨fun q hq => by rw [List.mem_singleton] at hq; subst hq; exact hp, fun i a b ha hb => by simp at hb, fun q hq => by rw [List.mem_singleton] at hq; subst hq; exact h1, fun q hq => by rw [List.mem_singleton] at hq; subst hq; exact h2, fun H hH => ⟨w ++ [], .cons h .nil, by
    rw [List.append_nil]; exact .refl _⟩, by rw [pos_len]; omega, by rw [pos_len]; simp; omega⟩
  rw [form_nv (pos_ok' hN h) n hn hV]; rfl
theorem simpleEnd {f g : Nat → Nat} {w : List Nat} (hN : 1 ≤ N ∧ N ≤ 10) (hp : Pm N f g) (h : Wd N f w) (n : Nat) (hn : 300000000 ≤ n) {y : Int × Int × List (List Int) × Int} (hy : F.garside_Form n (N : Int) (pos w) = some y) (v : Bool) (hv : v = true ↔ (1 < N ∧ f = dl N)) (s e : Int) : F.law34_GarsideSimple_j2 n (li N f) (s, pos w, e) y v = some true := by
  have fin : ∀ (p : Int) (l : List (List Int)), F.garside_Form n (N : Int) (pos w) = some ((N : Int), p, l, 0) → l.length ≤ 1 → (∀ x ∈ l, x.length = N) → F.law34_GarsideSimple_j1 n (li N f) y p l = some true := by
    intro p l h1 h2 h3
    rw [hy] at h1
    injection h1 with h1
    subst h1
    unfold F.law34_GarsideSimple_j1
    dsimp only
    rw [li_len, decide_eq_true rfl, cond_true, lawEqual_t n (by omega) (fun x hx => by rw [h3 x hx]; omega) (by omega)]
    rfl
  unfold F.law34_GarsideSimple_j2
  dsimp only
  cases hv' : v with
  | true =>
    obtain ⟨c1, c2⟩ := hv.1 hv'
    subst c2
    rw [cond_true]
    exact fin _ _ (form_dl ⟨by omega, hN.2⟩ h n hn) (by simp) (fun x hx => by simp at hx)
  | false =>
    rw [cond_false]
    have hnd : ¬ (1 < N ∧ f = dl N) := fun e => by rw [hv.2 e] at hv'; cases hv'
    by_cases hid : f = fun k => k
    · subst hid
      obtain ⟨c1, c2⟩ := form_id hN h n hn
      rw [decide_eq_false (by rw [c1]; simp [pos]), cond_false]
      exact fin _ _ c2 (by simp) (fun x hx => by simp at hx)
    · have hnd2 : f ≠ dl N := fun e => by
        by_cases h1 : 1 < N
        · exact hnd ⟨h1, e⟩
        · obtain rfl : N = 1 := by omega
          apply hid
          rw [e]
          funext k
          unfold dl
          split <;> omega
      obtain ⟨c1, c2⟩ := form_one hN hp h hid hnd2 n hn
      rw [decide_eq_true (by
        rw [pos_len]
        cases w with
        | nil => exact absurd rfl c1
        | cons a t => simp <;> omega), cond_true]
      exact fin _ _ c2 (by simp) (fun x hx => by rw [List.mem_singleton] at hx; subst hx; exact li_len)
end
end Gar
theorem law34_GarsideSimple_true (x0 : List Int) (o0 : Ev.Sh.ok (.sl (.int .i64)) x0) : ∃ n, F.law34_GarsideSimple n x0 = some true := by
  refine ⟨300000000, ?_⟩
  unfold F.law34_GarsideSimple
  rw [Gar.awake34, Option.bind_some, Bool.not_true, cond_false]
  by_cases hl : (20 : Int) < (x0.length : Int)
  · rw [decide_eq_true hl, cond_true]; rfl
  rw [decide_eq_false hl, cond_false]
  obtain ⟨r, r1, r2⟩ := Gar.permValid (p := x0) 300000000 (by omega) (by omega)
  have bad : F.law34_GarsideSimple_j0 300000000 x0 (0, [], 1) true = some true := by
    unfold F.law34_GarsideSimple_j0; rfl
  unfold F.garside_Simple
  rw [r1, Option.bind_some]
  cases r with
  | false =>
    rw [Bool.not_false, cond_true, Option.bind_some, bad, Option.bind_some, Bool.not_false, bad]
    cases decide ((x0.length : Int) < 1) <;> cases decide (10 < (x0.length : Int)) <;> rfl
  | true =>
    rw [Bool.not_true, cond_false]
    by_cases c1 : (x0.length : Int) < 1
    · rw [decide_eq_true c1, cond_true, Option.bind_some, cond_true, bad]
    rw [decide_eq_false c1, cond_false]
    by_cases c2 : 10 < (x0.length : Int)
    · rw [decide_eq_true c2, cond_true, Option.bind_some, cond_false, cond_true, bad]
    rw [decide_eq_false c2, cond_false]
    obtain ⟨f, g, hp, he⟩ := r2.1 rfl
    generalize x0.length = N at hp he c1 c2 hl
    subst he
    have hNN : N * N ≤ 10 * 10 := Nat.mul_le_mul (by omega) (by omega)
    have hNN1 : (N + 1) * (N * N) ≤ 11 * 100 := Nat.mul_le_mul (by omega) (by omega)
    obtain ⟨w, w1, w2⟩ := Gar.garLetters_eq hp 300000000 (by omega) (by omega)
    obtain ⟨w', w3, w4⟩ := Gar.refWord_eq hp 300000000 (by omega) (by omega)
    obtain rfl := w2.uniq w4
    have hok := Gar.pos_ok' ⟨by omega, by omega⟩ w2.wd
    have hwl : w.length ≤ 100 := by have := w2.wd.len; have := Gar.inv_lst_le (N := N) f; omega
    rw [w1, Option.bind_some, Option.bind_some, cond_false, cond_false, Option.bind_some, Bool.not_true]
    unfold F.law34_GarsideSimple_j0
    dsimp only
    rw [cond_false, decide_eq_true rfl, Bool.not_true, cond_false, Gar.li_len, decide_eq_true rfl, Bool.not_true, cond_false, w3, Option.bind_some]
    obtain ⟨q1, e1, e2⟩ := Gar.equalL (a := Gar.pos w) (b := Gar.pos w) 300000000 (by rw [Gar.pos_len]; omega) (by rw [Gar.pos_len]; omega)
    rw [e1, e2.2 rfl, Option.bind_some, Bool.not_true, cond_false, Gar.inversions_eq f 300000000 (by omega) (by omega), Option.bind_some, Gar.pos_len, w2.wd.len, decide_eq_true rfl, Bool.not_true, cond_false]
    rw [Gar.braidPerm hok 300000000 (by omega), Option.bind_some, w2.wd.pmw]
    obtain ⟨q2, e3, e4⟩ := Gar.equalP (a := Gar.li N f) (b := Gar.li N f) 300000000 (by rw [Gar.li_len]; omega) (by rw [Gar.li_len]; omega)
    rw [e3, e4.2 rfl, Option.bind_some, Bool.not_true, cond_false]
    obtain ⟨p, qs, f1, f2⟩ := Gar.form_eq hok 300000000 (by omega)
    rw [f1, Option.bind_some]
    by_cases c3 : 1 < (N : Int)
    · rw [decide_eq_true c3, cond_true, Gar.half_eq 300000000 (by omega) (by omega), Option.bind_some]
      obtain ⟨q3, e5, e6⟩ := Gar.equalL (a := Gar.li N f) (b := Gar.li N (Gar.dl N)) 300000000 (by rw [Gar.li_len]; omega) (by rw [Gar.li_len]; omega)
      rw [e5, Option.bind_some]
      exact Gar.simpleEnd ⟨by omega, by omega⟩ hp w2.wd 300000000 (by omega) f1 q3 (e6.trans ⟨fun h => ⟨by omega, Gar.li_eq hp.fix Gar.dl_pm.fix h⟩, fun h => by rw [h.2]⟩) _ _
    · rw [decide_eq_false c3, cond_false]
      exact Gar.simpleEnd ⟨by omega, by omega⟩ hp w2.wd 300000000 (by omega) f1 false ⟨fun h => absurd h (by decide), fun h => absurd h.1 (by omega)⟩ _ _
end Go.Proofs.Ytkeaonceaaafcaa
