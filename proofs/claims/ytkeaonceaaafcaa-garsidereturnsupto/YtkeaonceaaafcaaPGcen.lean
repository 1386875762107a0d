/- The plain law of GarsideCenter. -/
import Derived.Test.YtkeaonceaaafcaaPGsameB
import Derived.Test.YtkeaonceaaafcaaPGwd
import Derived.Test.YtkeaonceaaafcaaPGawake
set_option linter.unusedVariables false
set_option linter.unusedSimpArgs false
namespace Go.Proofs.Ytkeaonceaaafcaa
open Ev
namespace Gar
section
variable {N : Nat} {H : List Nat}
theorem pw_addz (hH : Wd N (dl N) H) (p q : Int) : BE N (pw H p ++ pw H q) (pw H (p + q)) := by
  have up : ∀ m : Nat, BE N (pw H p ++ pw H (m : Int)) (pw H (p + (m : Int))) := by
    intro m
    induction m with
    | zero => rw [show ((0 : Nat) : Int) = 0 from rfl, show pw H 0 = [] from rfl, List.append_nil, Int.add_zero]; exact .refl _
    | succ m ih =>
      rw [show ((m + 1 : Nat) : Int) = (m : Int) + 1 by omega]
      have h1 := (pw_up hH (m : Int)).left (pw H p)
      have h2 := (pw_up hH (p + (m : Int)))
      rw [← List.append_assoc] at h1
      rw [← Int.add_assoc]
      exact h1.trans ((ih.right (pos H)).trans h2.symm)
  have down : ∀ m : Nat, BE N (pw H p ++ pw H (-(m : Int))) (pw H (p + -(m : Int))) := by
    intro m
    induction m with
    | zero => rw [show -((0 : Nat) : Int) = 0 from rfl, show pw H 0 = [] from rfl, List.append_nil, Int.add_zero]; exact .refl _
    | succ m ih =>
      rw [show -((m + 1 : Nat) : Int) = -(m : Int) - 1 by omega]
      have h1 := (pw_down hH (-(m : Int))).left (pw H p)
      have h2 := (pw_down hH (p + -(m : Int)))
      rw [← List.append_assoc] at h1
      rw [show p + (-(m : Int) - 1) = p + -(m : Int) - 1 by omega]
      exact h1.trans ((ih.right (neg (pos H))).trans h2.symm)
  rcases (show 0 ≤ q ∨ q < 0 by omega) with h | h
  · have := up q.toNat
    rwa [show ((q.toNat : Nat) : Int) = q by omega] at this
  · have := down (-q).toNat
    rwa [show -(((-q).toNat : Nat) : Int) = q by omega] at this
theorem pw_two : pw H 2 = pos H ++ pos H := by
  unfold pw; rw [if_pos (by decide)]; rfl
theorem slide2 (hH : Wd N (dl N) H) {v : List Nat} (hv : ∀ i ∈ v, 1 ≤ i ∧ i < N) : BE N (pos v ++ pw H 2) (pw H 2 ++ pos v) := by
  have h1 := (slide hH hv).be
  have h2 := (slide hH (tw_rng hv)).be
  rw [tw_tw hv] at h2
  rw [pos_app, pos_app] at h1 h2
  rw [pw_two, ← List.append_assoc, List.append_assoc (pos H)]
  have h3 := h1.right (pos H)
  rw [List.append_assoc (pos H)] at h3
  exact h3.trans (h2.left (pos H))
theorem pw_same {H H' : List Nat} (h : Wd N (dl N) H) (h' : Wd N (dl N) H') (p : Int) : BE N (pw H p) (pw H' p) := by
  have e : BE N (pos H) (pos H') := (h.uniq h').be
  have e' := e.neg (Rg.pos h.rng) (Rg.pos h'.rng)
  have key : ∀ {u u' : List Int}, BE N u u' → ∀ m, BE N (pwn u m) (pwn u' m) := by
    intro u u' hu m
    induction m with
    | zero => exact .refl _
    | succ m ih => exact ih.mul hu
  unfold pw
  split
  · exact key e _
  · exact key e' _
theorem nv_front (hH : Wd N (dl N) H) (hl : 1 ≤ H.length) {p : Int} {qs : List Pr} {b : List Int} (h : NV N p qs b) : NV N (p + 2) qs (pw H 2 ++ b) := by
  have hlen : (pw H 2).length = 2 * H.length := by rw [pw_two]; simp [pos]; omega
  have h1 := h.lo
  have h2 := h.hi
  refine ⟨h.pms, h.lw, h.noId, h.noDl, fun H' hH' => ?_, by rw [List.length_append, hlen]; omega, by rw [List.length_append, hlen]; omega⟩
  obtain ⟨v, v1, v2⟩ := h.ns H' hH'
  refine ⟨v, v1, ?_⟩
  have a1 := (pw_same hH hH' 2).mul v2
  have a2 := (pw_addz hH' 2 p).right (pos v)
  rw [List.append_assoc] at a2
  rw [show p + 2 = 2 + p by omega]
  exact a1.trans a2
theorem nv_back (hH : Wd N (dl N) H) (hl : 1 ≤ H.length) {p : Int} {qs : List Pr} {b : List Int} (h : NV N p qs b) : NV N (p + 2) qs (b ++ pw H 2) := by
  have hlen : (pw H 2).length = 2 * H.length := by rw [pw_two]; simp [pos]; omega
  have h1 := h.lo
  have h2 := h.hi
  refine ⟨h.pms, h.lw, h.noId, h.noDl, fun H' hH' => ?_, by rw [List.length_append, hlen]; omega, by rw [List.length_append, hlen]; omega⟩
  obtain ⟨v, v1, v2⟩ := h.ns H' hH'
  refine ⟨v, v1, ?_⟩
  have a1 := v2.mul (pw_same hH hH' 2)
  have a2 := (slide2 hH' v1.rng).left (pw H' p)
  have a3 := (pw_addz hH' p 2).right (pos v)
  rw [List.append_assoc] at a1 a3
  exact a1.trans (a2.trans a3)
end
theorem center {s : Int} {w : List Int} (hv : okB s w = true) (hl : w.length ≤ 40) (h2 : 2 ≤ s) (h5 : s ≤ 5) (n : Nat) (hn : 300000000 ≤ n) : ∃ t p qs, F.ref34_Whole n s 2 [] = some t ∧ F.garside_Form n s w = some (s, p, ls s.toNat qs, 0) ∧ F.garside_Form n s (t ++ w) = some (s, p + 2, ls s.toNat qs, 0) ∧ F.garside_Form n s (w ++ t) = some (s, p + 2, ls s.toNat qs, 0) ∧ qs.length ≤ 400 ∧ -200 ≤ p ∧ p ≤ 200 ∧ t.length ≤ 100 := by
  obtain ⟨a1, a2, a3, a4⟩ := okB_iff.1 hv
  obtain ⟨N, rfl⟩ : ∃ N : Nat, s = (N : Int) := ⟨s.toNat, by omega⟩
  obtain ⟨p, qs, h1, h3⟩ := form_eq hv n hn
  have hlen := h3.len hv
  rw [Int.toNat_natCast] at *
  obtain ⟨H, v, b1, b2, b3⟩ := whole_eq (N := N) (qs := []) (fun q hq => by simp at hq) 2 n ⟨by omega, by omega⟩ (by omega) (by simp) (by omega)
  cases b3
  rw [show pos [] = [] from rfl, List.append_nil] at b1
  have hH := b2.wd
  have hHl := hH.len
  have hinv := inv_dl N (by omega)
  have hNN : N * N ≤ 5 * 5 := Nat.mul_le_mul (by omega) (by omega)
  have hile := inv_lst_le (N := N) (dl N)
  have hH1 : 1 ≤ H.length := by
    have : 2 * 1 ≤ N * (N - 1) := Nat.mul_le_mul (by omega) (by omega)
    omega
  have htl : (pw H 2).length = 2 * H.length := by rw [pw_two]; simp [pos]; omega
  have htr : Rg N (pw H 2) := pw_rg hH 2
  have ok1 : okB (N : Int) (pw H 2 ++ w) = true := okB_iff.2 ⟨a1, a2, by rw [List.length_append]; omega, fun x hx => by
    rcases List.mem_append.1 hx with hx | hx
    · exact htr x hx
    · exact a4 x hx⟩
  have ok2 : okB (N : Int) (w ++ pw H 2) = true := okB_iff.2 ⟨a1, a2, by rw [List.length_append]; omega, fun x hx => by
    rcases List.mem_append.1 hx with hx | hx
    · exact a4 x hx
    · exact htr x hx⟩
  have fin : ∀ {u : List Int}, okB (N : Int) u = true → NV N (p + 2) qs u → F.garside_Form n (N : Int) u = some ((N : Int), p + 2, ls N qs, 0) := by
    intro u hu hV
    obtain ⟨p', qs', c1, c2⟩ := form_eq hu n hn
    rw [Int.toNat_natCast] at c1 c2
    obtain ⟨d1, d2⟩ := hV.uniq (by omega) c2 (okB_rg hu) (okB_rg hu) (fun _ => rfl)
    rw [c1, ← d1, ls_fsts, ls_fsts, d2]
  exact ⟨pw H 2, p, qs, b1, h1, fin ok1 (nv_front hH hH1 h3), fin ok2 (nv_back hH hH1 h3), hlen.1, hlen.2.1, hlen.2.2, by omega⟩
end Gar
theorem law34_GarsideCenter_true (x0 : Int × List Int) (o0 : Ev.Sh.ok (.pr (.int .i64) (.sl (.int .i64))) x0) : ∃ n, F.law34_GarsideCenter n x0.1 x0.2 = some true := by
  refine ⟨300000000, ?_⟩
  unfold F.law34_GarsideCenter
  rw [Gar.awake34, Option.bind_some, Bool.not_true, cond_false]
  by_cases hl : (40 : Int) < (x0.2.length : Int)
  · rw [decide_eq_true hl, cond_true]; rfl
  rw [decide_eq_false hl, cond_false, braidValid _ (by omega), Option.bind_some]
  by_cases hv : okB x0.1 x0.2 = true
  · rw [hv, Bool.not_true, cond_false]
    by_cases h2 : x0.1 < 2
    · rw [decide_eq_true h2, cond_true]; rfl
    rw [decide_eq_false h2, cond_false]
    by_cases h5 : 5 < x0.1
    · rw [decide_eq_true h5, cond_true]; rfl
    rw [decide_eq_false h5, cond_false]
    obtain ⟨t, p, qs, b1, b2, b3, b4, b5, b6, b7, b8⟩ := Gar.center hv (by omega) (by omega) (by omega) 300000000 (by omega)
    rw [b1, Option.bind_some, b2, Option.bind_some, Gar.concat_all _ _ (by simp; omega) (by simp) (by omega), Option.bind_some]
    rw [show [t, x0.2].flatten = t ++ x0.2 by simp, b3, Option.bind_some, Gar.concat_all _ _ (by simp; omega) (by simp) (by omega), Option.bind_some]
    rw [show [x0.2, t].flatten = x0.2 ++ t by simp, b4, Option.bind_some]
    dsimp only
    have he := Gar.lawEqual_t (s := x0.1) (p := p + 2) (a := Gar.ls x0.1.toNat qs) 300000000 (by rw [Gar.ls_len]; omega) (fun x hx => by rw [Gar.ls_row x hx]; have := (okB_iff.1 hv).2.1; omega) (by omega)
    rw [chk_ok (by omega) (by omega), Option.bind_some, decide_eq_true rfl, cond_true, cond_true, cond_true, he, Option.bind_some, cond_true, Option.bind_some]
  · rw [Bool.not_eq_true] at hv
    rw [hv, Bool.not_false, cond_true]; rfl
end Go.Proofs.Ytkeaonceaaafcaa
