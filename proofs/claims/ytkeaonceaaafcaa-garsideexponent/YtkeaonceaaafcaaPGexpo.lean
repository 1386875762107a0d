/- The plain law of GarsideExponent. -/
import Derived.Test.YtkeaonceaaafcaaPGhom
import Derived.Test.YtkeaonceaaafcaaPGawake
set_option linter.unusedVariables false
set_option linter.unusedSimpArgs false
namespace Go.Proofs.Ytkeaonceaaafcaa
open Ev
namespace Gar
section
variable {N : Nat}
theorem comp_app (fs gs : List (Nat → Nat)) (k : Nat) : comp (fs ++ gs) k = comp gs (comp fs k) := by
  induction fs generalizing k with
  | nil => rfl
  | cons f fs ih => simp only [List.cons_append, comp, ih]
theorem invs_app (fs gs : List (Nat → Nat)) : invs N (fs ++ gs) = invs N fs + invs N gs := by
  induction fs with
  | nil => simp [invs]
  | cons f fs ih => simp only [List.cons_append, invs, ih]; omega
theorem comp_pm {qs : List Pr} (h : Pms N qs) : ∃ g, Pm N (comp (fsts qs)) g := by
  induction qs with
  | nil => exact ⟨_, Pm.id N⟩
  | cons q qs ih =>
    obtain ⟨g, hg⟩ := ih h.drop1
    have hq := h q (by simp)
    exact ⟨fun k => q.2 (g k), ⟨fun k hk => by show comp (fsts qs) (q.1 k) = k; rw [hq.fix k hk, hg.fix k hk], fun k => by show q.2 (g (comp (fsts qs) (q.1 k))) = k; rw [hg.gf, hq.gf], fun k => by show comp (fsts qs) (q.1 (q.2 (g k))) = k; rw [hq.fg, hg.fg]⟩⟩
theorem invs_le (fs : List (Nat → Nat)) : invs N fs ≤ fs.length * (N * N) := by
  induction fs with
  | nil => simp [invs]
  | cons f fs ih =>
    have := inv_lst_le (N := N) f
    simp only [invs, List.length_cons, Nat.succ_mul]; omega
theorem expoLoop {qs : List Pr} (h : Pms N qs) (n : Nat) (hN : N ≤ 10) (hl : qs.length ≤ 1000) (hn : 3000 ≤ n) (y : Int × Int × List (List Int) × Int) (hy : y.2.2.1 = ls N qs) {f g : Nat → Nat} (hf : Pm N f g) (z : Int) (hz : -1000000 ≤ z ∧ z ≤ 1000000) :
    loopN n (F.law34_GarsideExponent_b1 n y) (z, li N f, 0) = some (z + invs N (fsts qs), li N (fun k => comp (fsts qs) (f k)), (qs.length : Int)) := by
  have hft : ∀ k, (fsts qs).take k = fsts (qs.take k) := fun k => by unfold fsts; rw [List.map_take]
  have hpt : ∀ k, Pms N (qs.take k) := fun k q hq => h q (List.mem_of_mem_take hq)
  have hlen : (fsts qs).length = qs.length := by simp [fsts]
  have := count_loop (body := F.law34_GarsideExponent_b1 n y) (fun k => (z + invs N (fsts (qs.take k)), li N (fun x => comp (fsts (qs.take k)) (f x)), (k : Int))) qs.length (r := (z + invs N (fsts qs), li N (fun k => comp (fsts qs) (f k)), (qs.length : Int))) (fun k hk => by
    unfold F.law34_GarsideExponent_b1
    dsimp only
    have ka : qs[k]? = some (qs[k]'hk) := List.getElem?_eq_getElem _
    have hq := h _ (List.getElem_mem hk)
    have ht : fsts (qs.take (k + 1)) = fsts (qs.take k) ++ [(qs[k]'hk).1] := by
      rw [List.take_add_one, ka]; unfold fsts; rw [List.map_append]; rfl
    generalize qs[k]'hk = q at ka hq ht
    have b1 := invs_le (N := N) (fsts (qs.take k))
    have b2 : (fsts (qs.take k)).length * (N * N) ≤ 1000 * (10 * 10) := Nat.mul_le_mul (by simp [fsts]; omega) (Nat.mul_le_mul hN hN)
    have b3 := inv_lst_le (N := N) q.1
    have b4 : N * N ≤ 10 * 10 := Nat.mul_le_mul hN hN
    obtain ⟨g2, hg2⟩ := comp_pm (hpt k)
    have hc : Pm N (fun x => comp (fsts (qs.take k)) (f x)) (fun x => g (g2 x)) := ⟨fun x hx => by rw [hf.fix x hx, hg2.fix x hx], fun x => by rw [hg2.gf, hf.gf], fun x => by rw [hf.fg, hg2.fg]⟩
    rw [hy, ls_len, decide_eq_true (by omega), cond_true, get_at (k := k) rfl (ls_at ka), Option.bind_some, inversions_eq q.1 n (by omega) (by omega), Option.bind_some, chk_ok (by omega) (by omega), Option.bind_some, mul_eq hc hq n (by omega) (by omega), Option.bind_some, chk_ok (by omega) (by omega), Option.bind_some, ht, invs_app]
    have e : (fun x => comp (fsts (qs.take k) ++ [q.1]) (f x)) = fun x => q.1 (comp (fsts (qs.take k)) (f x)) := by funext x; rw [comp_app]; rfl
    rw [e]
    have e2 : z + (invs N (fsts (qs.take k)) : Int) + (inv (lst N q.1) : Int) = z + ((invs N (fsts (qs.take k)) + invs N [q.1] : Nat) : Int) := by simp only [invs]; omega
    rw [e2]; rfl) (by
    unfold F.law34_GarsideExponent_b1
    dsimp only
    rw [hy, ls_len, decide_eq_false (by omega), cond_false, List.take_length]) n (by omega)
  simpa [fsts, invs, comp] using this
theorem law34_GarsideExponent_true' (z0 : Int) (x1 : List Int) : ∃ n, F.law34_GarsideExponent n z0 x1 = some true := by
  refine ⟨300000000, ?_⟩
  unfold F.law34_GarsideExponent
  rw [awake34, Option.bind_some, Bool.not_true, cond_false, Option.bind_some]
  by_cases h40 : 40 < (x1.length : Int)
  · rw [decide_eq_true h40]; rfl
  rw [decide_eq_false h40, cond_false, braidValid 300000000 (by omega), Option.bind_some]
  cases hv : okB z0 x1
  · rfl
  rw [Bool.not_true, cond_false]
  obtain ⟨h1, h2, h3, h4⟩ := okB_iff.1 hv
  obtain ⟨p, qs, e1, hV⟩ := form_eq hv 300000000 (Nat.le_refl _)
  rw [e1, Option.bind_some]
  obtain ⟨N, rfl⟩ : ∃ N : Nat, z0 = (N : Int) := ⟨z0.toNat, by omega⟩
  rw [show ((N : Int)).toNat = N by omega] at hV ⊢
  have hlo := hV.lo; have hhi := hV.hi
  obtain ⟨ex, pm⟩ := hV.hom
  have hi2 := inv_dl N (by omega)
  -- N (N - 1) / 2
  have hc : Int.tdiv ((N : Int) * ((N : Int) - 1)) 2 = (inv (lst N (dl N)) : Int) := by
    have e : (N : Int) * ((N : Int) - 1) = 2 * (inv (lst N (dl N)) : Int) := by
      have e3 : (N : Int) - 1 = ((N - 1 : Nat) : Int) := by omega
      rw [e3]; exact_mod_cast hi2.symm
    rw [e]; exact Int.mul_tdiv_cancel_left _ (by decide)
  have hile : inv (lst N (dl N)) ≤ 100 := Nat.le_trans (inv_lst_le _) (Nat.mul_le_mul (show N ≤ 10 by omega) (show N ≤ 10 by omega))
  have hmul : (N : Int) * ((N : Int) - 1) = 2 * (inv (lst N (dl N)) : Int) := by
    have e3 : (N : Int) - 1 = ((N - 1 : Nat) : Int) := by omega
    rw [e3]; exact_mod_cast hi2.symm
  generalize inv (lst N (dl N)) = D at hc hile hmul ex
  have hpD : -10000 ≤ p * (D : Int) ∧ p * (D : Int) ≤ 10000 := by
    have a1 : (-40 : Int) ≤ p := by omega
    have a2 : p ≤ 40 := by omega
    have b1 := Int.mul_le_mul_of_nonneg_right a1 (show (0 : Int) ≤ D by omega)
    have b2 := Int.mul_le_mul_of_nonneg_right a2 (show (0 : Int) ≤ D by omega)
    omega
  dsimp only
  rw [chk_ok (z := (N : Int) - 1) (by omega) (by omega), Option.bind_some, hmul, chk_ok (by omega) (by omega), Option.bind_some, nz_ok (by decide)]
  simp only [Option.bind_some]
  rw [← hmul, hc, chk_ok (by omega) (by omega), Option.bind_some, chk_ok (by omega) (by omega), Option.bind_some, half_eq 300000000 (by omega) (by omega), Option.bind_some]
  have fin : ∀ {f g : Nat → Nat}, Pm N f g → f = (if p % 2 = 0 then (fun k => k) else dl N) → F.law34_GarsideExponent_j0 300000000 (N : Int) x1 ((N : Int), p, ls N qs, 0) (p * (D : Int)) (li N f) = some true := by
    intro f g hf hfe
    unfold F.law34_GarsideExponent_j0
    rw [expoLoop hV.pms 300000000 (by omega) (by omega) (by decide) _ rfl hf _ (by omega), Option.bind_some]
    dsimp only
    rw [decide_eq_true rfl, cond_true, braidExponent hv 300000000 (by decide), Option.bind_some, decide_eq_true (by rw [ex]), cond_true, braidPerm hv 300000000 (by decide), Option.bind_some]
    obtain ⟨r, a1, a2⟩ := equalP (a := li N (fun k => comp (fsts qs) (f k))) (b := li N (Gar.pmw x1)) 300000000 (by rw [li_len]; omega) (by rw [li_len]; omega)
    rw [a1, a2.2 (by rw [pm, hfe])]; rfl
  have htm : Int.tmod p 2 = 0 ↔ p % 2 = 0 := ⟨fun h => Int.emod_eq_zero_of_dvd (Int.dvd_of_tmod_eq_zero h), fun h => Int.tmod_eq_zero_of_dvd (Int.dvd_of_emod_eq_zero h)⟩
  by_cases hp : p % 2 = 0
  · rw [decide_eq_true (htm.2 hp), cond_true, mul_eq dl_pm dl_pm 300000000 (by omega) (by omega), Option.bind_some]
    have e : (fun k => dl N (dl N k)) = fun k => k := funext dl_dl
    rw [e]
    exact fin (Pm.id N) (by rw [if_pos hp])
  · rw [decide_eq_false (fun h => hp (htm.1 h)), cond_false]
    exact fin dl_pm (by rw [if_neg hp])
end
end Gar
theorem law34_GarsideExponent_true (x0 : Int × List Int) (o0 : Ev.Sh.ok (.pr (.int .i64) (.sl (.int .i64))) x0) : ∃ n, F.law34_GarsideExponent n x0.1 x0.2 = some true := Gar.law34_GarsideExponent_true' _ _
end Go.Proofs.Ytkeaonceaaafcaa
