/- The plain law of GarsideReturns, where the argument is not too large for any machine. -/
import Derived.Test.YtkeaonceaaafcaaPGvlaw
import Derived.Test.YtkeaonceaaafcaaPGcen
import Derived.Test.YtkeaonceaaafcaaBulk
set_option linter.unusedVariables false
set_option linter.unusedSimpArgs false
namespace Go.Proofs.Ytkeaonceaaafcaa
open Ev
namespace Gar
section
variable {N : Nat}
theorem lwl_ge {fs : List (Nat → Nat)} {v : List Nat} (h : Lwl N fs v) (hI : ∀ f ∈ fs, f ≠ fun k => k) : fs.length ≤ v.length := by
  induction h with
  | nil => simp
  | @cons f fs w v h _ ih =>
    have h1 := ih fun g hg => hI g (by simp [hg])
    have h2 : 1 ≤ w.length := by
      cases w with
      | nil =>
        have h3 := h.wd
        generalize hv : ([] : List Nat) = u at h3
        cases h3 with
        | nil => exact absurd rfl (hI _ (by simp))
        | cons => cases hv
      | cons a t => simp
    rw [List.length_append, List.length_cons]; omega
theorem pw_ge {H : List Nat} (hH : 1 ≤ H.length) (p : Int) : (p.natAbs : Int) ≤ ((pw H p).length : Int) := by
  have h1 : (pos H).length = H.length := pos_len H
  have h2 : (neg (pos H)).length = H.length := by simp [neg, pos]
  unfold pw
  split
  · rw [pwn_len, h1]
    have := Nat.mul_le_mul_left p.toNat hH
    omega
  · rw [pwn_len, h2]
    have := Nat.mul_le_mul_left (-p).toNat hH
    omega
theorem word_nv {p : Int} {L : List (List Int)} {qs : List Pr} (hN : 1 ≤ N ∧ N ≤ 10) (hp1 : (N : Int) = 1 → p = 0) (hf : NF N L qs) {H v : List Nat} (hH : Lw N (dl N) H) (hv : Lwl N (fsts qs) v) : NV N p qs (pw H p ++ pos v) := by
  obtain ⟨_, h1, h2, h3, h4⟩ := hf
  have hvl : qs.length ≤ v.length := by
    have := lwl_ge hv (fun f hf => by
      unfold fsts at hf
      obtain ⟨q, hq, rfl⟩ := List.mem_map.1 hf
      exact h3 q hq)
    unfold fsts at this
    rwa [List.length_map] at this
  have hpl : (pos v).length = v.length := pos_len v
  have hge : (p.natAbs : Int) ≤ ((pw H p).length : Int) := by
    by_cases h : N = 1
    · rw [hp1 (by omega)]; simp
    · refine pw_ge ?_ p
      have := hH.wd.len
      have hinv := inv_dl N hN.2
      have : 2 * 1 ≤ N * (N - 1) := Nat.mul_le_mul (by omega) (by omega)
      omega
  refine ⟨h1, h2, h3, h4, fun H' hH' => ⟨v, hv.wl, (pw_same hH.wd hH' p).right _⟩, ?_, ?_⟩
  · rw [List.length_append]; omega
  · rw [List.length_append]; omega
theorem word_ok {p : Int} {qs : List Pr} (hN : 1 ≤ N ∧ N ≤ 10) {H v : List Nat} (hH : Lw N (dl N) H) (hv : Lwl N (fsts qs) v) (hl : (pw H p ++ pos v).length ≤ 200) : okB (N : Int) (pw H p ++ pos v) = true :=
  okB_iff.2 ⟨by omega, by omega, hl, (pw_rg hH.wd p).app (Rg.pos hv.wl.rng)⟩
end
theorem retEnd {s : Int} {w : List Int} (hl : w.length ≤ 40) (n : Nat) (hn : 300000000 ≤ n) : F.law34_GarsideReturns_j0 n s w = some true := by
  unfold F.law34_GarsideReturns_j0
  rw [braidValid n (by omega), Option.bind_some]
  cases hv : okB s w with
  | false => rfl
  | true =>
    obtain ⟨a1, a2, a3, a4⟩ := okB_iff.1 hv
    obtain ⟨N, rfl⟩ : ∃ N : Nat, s = (N : Int) := ⟨s.toNat, by omega⟩
    obtain ⟨p, qs, f1, f2⟩ := form_eq hv n hn
    have hlen := f2.len hv
    have hp1 := nv_p hv f2
    rw [Int.toNat_natCast] at f1 f2
    have hlo := f2.lo
    have hhi := f2.hi
    obtain ⟨H, v, g1, g2, g3⟩ := garWord (N := N) (p := p) (L := ls N qs) (qs := qs) ⟨by omega, by omega⟩ (by omega) hp1 (by omega) ⟨rfl, f2.pms, f2.lw, f2.noId, f2.noDl⟩ n hn
    rw [Bool.not_true, cond_false, f1, Option.bind_some]
    dsimp only
    rw [g1, Option.bind_some, decide_eq_true rfl, cond_true]
    by_cases hc : 200 < (pw H p ++ pos v).length
    · rw [if_pos hc]; rfl
    · rw [if_neg hc]
      dsimp only
      have hok := word_ok (p := p) ⟨by omega, by omega⟩ g2 g3 (by omega)
      have hbe : BE N (pw H p ++ pos v) w := by
        obtain ⟨v', v1, v2⟩ := f2.ns H g2.wd
        exact ((Wl.uniq (v := []) g3.wl v1).be.left _).trans v2.symm
      rw [decide_eq_false (by decide), cond_false, decide_eq_true rfl, cond_true, garSame_be hok hv n hn (by rw [Int.toNat_natCast]; exact hbe)]
      rfl
end Gar
open Gar in
theorem law34_GarsideReturns_true (x0 : Int × Int × List (List Int)) (x1 : Int × List Int) (o0 : Ev.Sh.ok (.pr (.int .i64) (.pr (.int .i64) (.sl (.sl (.int .i64))))) x0) (o1 : Ev.Sh.ok (.pr (.int .i64) (.sl (.int .i64))) x1) (b0 : Ev.Sh.bulk (.pr (.int .i64) (.pr (.int .i64) (.sl (.sl (.int .i64))))) x0 ≤ 1048576) (b1 : Ev.Sh.bulk (.pr (.int .i64) (.sl (.int .i64))) x1 ≤ 1048576) : ∃ n, F.law34_GarsideReturns n x0.1 x0.2.1 x0.2.2 x1.1 x1.2 = some true := by
  refine ⟨300000000, ?_⟩
  obtain ⟨s, p, L⟩ := x0
  have hrow : ∀ x ∈ L, x.length ≤ 100000000 := fun x hx => by
    have h1 := Sh.bulk_len (.int .i64) x
    have h2 := Sh.bulk_mem (.sl (.int .i64)) (xs := L) hx
    have h3 : Ev.Sh.bulk (.pr (.int .i64) (.pr (.int .i64) (.sl (.sl (.int .i64))))) (s, p, L) = 1 + (1 + Sh.bulk (.sl (.sl (.int .i64))) L) := rfl
    rw [h3] at b0
    omega
  dsimp only
  unfold F.law34_GarsideReturns
  rw [Gar.awake34, Option.bind_some, Bool.not_true, cond_false]
  by_cases hl : (40 : Int) < (L.length : Int)
  · rw [decide_eq_true hl, cond_true]; rfl
  rw [decide_eq_false hl, cond_false]
  by_cases hl2 : (40 : Int) < (x1.2.length : Int)
  · rw [decide_eq_true hl2, cond_true]; rfl
  rw [decide_eq_false hl2, cond_false]
  obtain ⟨b, c1, c2⟩ := garValid (s := s) (p := p) (L := L) hrow 300000000 (by omega)
  cases b with
  | false =>
    have hw : F.garside_Word 300000000 s p L = some (0, [], 1) := by
      unfold F.garside_Word
      rw [c1, Option.bind_some]; rfl
    rw [hw, Option.bind_some]
    dsimp only
    rw [decide_eq_false (by decide), cond_false]
    exact retEnd (by omega) 300000000 (by omega)
  | true =>
    obtain ⟨d1, d2, d3, d4, d5, d6, qs, hf⟩ := c2.1 rfl
    obtain ⟨N, rfl⟩ : ∃ N : Nat, s = (N : Int) := ⟨s.toNat, by omega⟩
    rw [Int.toNat_natCast] at hf
    have hql : qs.length = L.length := by rw [hf.1, ls_len]
    obtain ⟨H, v, w1, w2, w3⟩ := garWord (N := N) ⟨by omega, by omega⟩ ⟨d3, d4⟩ d5 (by omega) hf 300000000 (by omega)
    rw [w1, Option.bind_some]
    by_cases hc : 200 < (pw H p ++ Gar.pos v).length
    · rw [if_pos hc]
      dsimp only
      rw [decide_eq_false (by decide), cond_false]
      exact retEnd (by omega) 300000000 (by omega)
    · rw [if_neg hc]
      dsimp only
      have hok := word_ok (p := p) ⟨by omega, by omega⟩ w2 w3 (by omega)
      have hV := word_nv ⟨by omega, by omega⟩ d5 hf w2 w3
      rw [decide_eq_true rfl, cond_true, form_nv hok 300000000 (by omega) hV, Option.bind_some]
      dsimp only
      rw [decide_eq_true rfl, Bool.not_true, cond_false, hf.1, lawEqual_t 300000000 (by rw [ls_len]; omega) (fun x hx => by rw [ls_row x hx]; omega) (by omega), Option.bind_some, Bool.not_true, cond_false]
      exact retEnd (by omega) 300000000 (by omega)
end Go.Proofs.Ytkeaonceaaafcaa
