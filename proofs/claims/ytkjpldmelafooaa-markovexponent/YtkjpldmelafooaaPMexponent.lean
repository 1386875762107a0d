/- The plain law of MarkovExponent. -/
import Derived.Test.YtkjpldmelafooaaPMperm
set_option linter.unusedVariables false
set_option linter.unusedSimpArgs false
namespace Go.Proofs.Ytkjpldmelafooaa
open Ev
theorem sw_mem {q : List Int} {m : Nat} (h : m + 1 < q.length) {P : Int → Prop} (hp : ∀ x ∈ q, P x) : ∀ x ∈ sw q m, P x := by
  have hd : ∀ j, j < q.length → P (q.getD j 0) := fun j hj => hp _ (by rw [List.getD_eq_getElem?_getD, List.getElem?_eq_getElem hj]; exact List.getElem_mem hj)
  intro x hx
  rcases List.mem_or_eq_of_mem_set hx with hx | rfl
  · rcases List.mem_or_eq_of_mem_set hx with hx | rfl
    · exact hp x hx
    · exact hd _ h
  · exact hd _ (by omega)
theorem genEq {x : Int} (n : Nat) (h : -1000 ≤ x ∧ x ≤ 1000) : F.braid_generator n x = some (ab x) := by
  unfold F.braid_generator
  rw [chk_ok (by omega) (by omega)]; rfl
theorem perm0 (s : Int) (n : Nat) (hs : 1 ≤ s ∧ s ≤ 10) (hn : 20 < n) : ∃ v q, loopN n (F.braid_Perm_b0 n s) (0, List.replicate s.toNat (0 : Int)) = some (v, q) ∧ (q.length : Int) = s ∧ ∀ x ∈ q, 0 ≤ x ∧ x < s := by
  obtain ⟨r, hr, hq⟩ := loop_spec (body := F.braid_Perm_b0 n s) (fun x => 0 ≤ x.1 ∧ x.1 ≤ s ∧ (x.2.length : Int) = s ∧ ∀ y ∈ x.2, 0 ≤ y ∧ y < s) (fun x => (s - x.1).toNat) (fun r => (r.2.length : Int) = s ∧ ∀ y ∈ r.2, 0 ≤ y ∧ y < s) (fun x hx => by
    obtain ⟨v, q⟩ := x
    obtain ⟨h1, h2, h3, h4⟩ := hx
    dsimp only at h1 h2 h3 h4
    unfold F.braid_Perm_b0
    dsimp only
    by_cases hlt : v < ((List.replicate s.toNat (0 : Int)).length : Int)
    · have hv : v < s := by rw [List.length_replicate] at hlt; omega
      rw [decide_eq_true hlt, cond_true, get_d (k := v.toNat) (by omega) (by omega), Option.bind_some, chk_ok (by omega) (by omega), Option.bind_some]
      refine .inl ⟨_, rfl, ⟨by dsimp only; omega, by dsimp only; omega, by dsimp only; rw [List.length_set]; exact h3, fun y hy => ?_⟩, by dsimp only; omega⟩
      rcases List.mem_or_eq_of_mem_set hy with hy | rfl
      · exact h4 y hy
      · exact ⟨h1, hv⟩
    · rw [decide_eq_false hlt, cond_false]
      exact .inr ⟨_, rfl, h3, h4⟩) n (0, List.replicate s.toNat (0 : Int)) ⟨by dsimp only; omega, by dsimp only; omega, by dsimp only; rw [List.length_replicate]; omega, fun y hy => by
        have := List.eq_of_mem_replicate hy; omega⟩ (by dsimp only; omega)
  exact ⟨r.1, r.2, hr, hq⟩
theorem perm1 {s : Int} {w : List Int} (n : Nat) (hs : okB s w = true) (hn : w.length < n) (q0 : List Int) (hl : (q0.length : Int) = s) (hq0 : ∀ x ∈ q0, 0 ≤ x ∧ x < s) :
    ∃ v, loopN n (F.braid_Perm_b1 n w) (0, q0) = some (v, run q0 w) ∧ ∀ x ∈ run q0 w, 0 ≤ x ∧ x < s := by
  obtain ⟨o1, o2, o3, o4⟩ := okB_iff.1 hs
  obtain ⟨r, hr, hq⟩ := loop_spec (body := F.braid_Perm_b1 n w) (fun x => ∃ k : Nat, x = ((k : Int), run q0 (w.take k)) ∧ k ≤ w.length ∧ ∀ x ∈ run q0 (w.take k), 0 ≤ x ∧ x < s) (fun x => w.length - x.1.toNat) (fun r => r.2 = run q0 w ∧ ∀ x ∈ run q0 w, 0 ≤ x ∧ x < s) (fun x hx => by
    obtain ⟨k, hv, hk, hm⟩ := hx
    subst hv
    unfold F.braid_Perm_b1
    dsimp only
    by_cases hlt : (k : Int) < (w.length : Int)
    · have hk' : k < w.length := by omega
      have hw := w_range hs hk'
      have hin : inL s (w.getD k 0) := o4 _ (by rw [List.getD_eq_getElem?_getD, List.getElem?_eq_getElem hk']; exact List.getElem_mem hk')
      have hg := gm_lt hin
      have hrl := run_len q0 (w.take k)
      have e1 : ab (w.getD k 0) = ((gm (w.getD k 0) + 1 : Nat) : Int) := by unfold gm; unfold inL at hin; unfold ab at *; omega
      have e2 : ab (w.getD k 0) - 1 = ((gm (w.getD k 0) : Nat) : Int) := by omega
      rw [decide_eq_true hlt, cond_true, get_d rfl hk', Option.bind_some, genEq n (by omega), Option.bind_some, chk_ok (by omega) (by omega), Option.bind_some, get_d e1 (by omega), Option.bind_some, Option.bind_some, get_d e2 (by omega), Option.bind_some, Option.bind_some,
        get_d e1 (by rw [List.length_set]; omega), Option.bind_some, chk_ok (by omega) (by omega), Option.bind_some]
      have e3 : run q0 (w.take (k + 1)) = sw (run q0 (w.take k)) (gm (w.getD k 0)) := by rw [take_succ hk', run_app]; rfl
      refine .inl ⟨_, rfl, ⟨k + 1, ?_, by omega, by rw [e3]; exact sw_mem (by omega) hm⟩, by dsimp only; omega⟩
      rw [e3, e2, e1]; rfl
    · have : k = w.length := by omega
      subst this
      rw [List.take_length] at hm ⊢
      exact .inr ⟨_, by rw [decide_eq_false hlt, cond_false], rfl, hm⟩) n (0, q0) ⟨0, rfl, Nat.zero_le _, by simpa [run] using hq0⟩ (by simpa using hn)
  obtain ⟨v, q⟩ := r
  obtain ⟨rfl, h2⟩ := hq
  exact ⟨v, hr, h2⟩
theorem perm2 (s : Int) (n : Nat) (hs : 1 ≤ s ∧ s ≤ 10) (hn : 20 < n) (q : List Int) (hl : (q.length : Int) = s) (hq : ∀ x ∈ q, 0 ≤ x ∧ x < s) : ∃ v r, loopN n (F.braid_Perm_b2 n s q) (0, List.replicate s.toNat (0 : Int)) = some (v, r) ∧ (r.length : Int) = s := by
  obtain ⟨r, hr, hq⟩ := loop_spec (body := F.braid_Perm_b2 n s q) (fun x => 0 ≤ x.1 ∧ x.1 ≤ s ∧ (x.2.length : Int) = s) (fun x => (s - x.1).toNat) (fun r => (r.2.length : Int) = s) (fun x hx => by
    obtain ⟨v, r⟩ := x
    obtain ⟨h1, h2, h3⟩ := hx
    dsimp only at h1 h2 h3
    unfold F.braid_Perm_b2
    dsimp only
    by_cases hlt : v < ((List.replicate s.toNat (0 : Int)).length : Int)
    · have hv : v < s := by rw [List.length_replicate] at hlt; omega
      have hm : q.getD v.toNat 0 ∈ q := by rw [List.getD_eq_getElem?_getD, List.getElem?_eq_getElem (show v.toNat < q.length by omega)]; exact List.getElem_mem _
      have hx := hq _ hm
      rw [decide_eq_true hlt, cond_true, get_d (k := v.toNat) (by omega) (by omega), Option.bind_some, get_d (k := (q.getD v.toNat 0).toNat) (by omega) (by omega), Option.bind_some, chk_ok (by omega) (by omega), Option.bind_some]
      exact .inl ⟨_, rfl, ⟨by dsimp only; omega, by dsimp only; omega, by dsimp only; rw [List.length_set]; exact h3⟩, by dsimp only; omega⟩
    · rw [decide_eq_false hlt, cond_false]
      exact .inr ⟨_, rfl, h3⟩) n (0, List.replicate s.toNat (0 : Int)) ⟨by dsimp only; omega, by dsimp only; omega, by dsimp only; rw [List.length_replicate]; omega⟩ (by dsimp only; omega)
  exact ⟨r.1, r.2, hr, hq⟩
/-- Braids with the same row have the same permutation. -/
theorem permEq {s : Int} {w w' : List Int} (n : Nat) (hn : 220 < n) (hs : okB s w = true) (hs' : okB s w' = true) (h : ∀ q : List Int, (q.length : Int) = s → run q w' = run q w) :
    ∃ r, F.braid_Perm n s w = some r ∧ F.braid_Perm n s w' = some r ∧ (r.length : Int) = s := by
  obtain ⟨o1, o2, o3, o4⟩ := okB_iff.1 hs
  have o3' := (okB_iff.1 hs').2.2.1
  obtain ⟨v0, q0, a1, a2, a3⟩ := perm0 s n ⟨o1, o2⟩ (by omega)
  obtain ⟨v1, b1, b2⟩ := perm1 n hs (by omega) q0 a2 a3
  obtain ⟨v1', b1', -⟩ := perm1 n hs' (by omega) q0 a2 a3
  obtain ⟨v2, r, c1, c2⟩ := perm2 s n ⟨o1, o2⟩ (by omega) (run q0 w) (by rw [run_len]; exact a2) b2
  refine ⟨r, ?_, ?_, c2⟩
  · unfold F.braid_Perm
    rw [braidValid n (by omega), Option.bind_some, hs, Bool.not_true, cond_false, pos_ok (by omega) (by omega), Option.bind_some, a1, Option.bind_some]
    dsimp only
    rw [b1, Option.bind_some]
    dsimp only
    rw [Option.bind_some, c1]; rfl
  · unfold F.braid_Perm
    rw [braidValid n (by omega), Option.bind_some, hs', Bool.not_true, cond_false, pos_ok (by omega) (by omega), Option.bind_some, a1, Option.bind_some]
    dsimp only
    rw [b1', Option.bind_some]
    dsimp only
    rw [Option.bind_some, h q0 a2, c1]; rfl
/-- The loop that compares a row with itself. -/
theorem same_row (n : Nat) (r : List Int) (hl : r.length ≤ 1000) (hn : r.length < n) : ∃ v, loopN n (F.law36_MarkovExponent_b1 n r r) 0 = some (.inl v) := by
  obtain ⟨q, hq, v, hv⟩ := loop_spec (body := F.law36_MarkovExponent_b1 n r r) (fun x => ∃ k : Nat, x = (k : Int) ∧ k ≤ r.length) (fun x => r.length - x.toNat) (fun q => ∃ v, q = .inl v) (fun x hx => by
    obtain ⟨k, hv, hk⟩ := hx
    subst hv
    unfold F.law36_MarkovExponent_b1
    dsimp only
    by_cases hlt : (k : Int) < (r.length : Int)
    · have hk' : k < r.length := by omega
      rw [decide_eq_true hlt, cond_true, get_d rfl hk', Option.bind_some, Option.bind_some, decide_eq_true rfl, Bool.not_true, cond_false, chk_ok (by omega) (by omega), Option.bind_some]
      exact .inl ⟨_, rfl, ⟨k + 1, rfl, by omega⟩, by omega⟩
    · rw [decide_eq_false hlt, cond_false]
      exact .inr ⟨_, rfl, _, rfl⟩) n 0 ⟨0, rfl, Nat.zero_le _⟩ (by omega)
  exact ⟨v, by rw [hq, hv]⟩
theorem exp_j0 {z0 : Int} {x1 : List Int} {k s' k' g' a' : Int} {w' : List Int} {d : Int} (h1 : okB z0 x1 = true) (h2 : okB s' w' = true) (hd : -10 ≤ d ∧ d ≤ 10) (he : expo w' = expo x1 + d)
    (hp : 4 ≤ k → s' = z0 ∧ ∀ q : List Int, (q.length : Int) = z0 → run q w' = run q x1) : F.law36_MarkovExponent_j0 300 z0 x1 k (s', w', k', g', a', 0) d = some true := by
  have q := (okB_iff.1 h2).2.2.1
  have q' := (okB_iff.1 h1).2.2.1
  have b := expo_bound x1
  unfold F.law36_MarkovExponent_j0
  dsimp only
  rw [expEq 300 h2 (by omega), Option.bind_some, expEq 300 h1 (by omega), Option.bind_some, chk_ok (by omega) (by omega), Option.bind_some, decide_eq_true he, Bool.not_true, cond_false]
  by_cases hk : k < 4
  · rw [decide_eq_true hk]; rfl
  · rw [decide_eq_false hk, cond_false]
    obtain ⟨rfl, hp⟩ := hp (by omega)
    obtain ⟨r, c1, c2, c3⟩ := permEq 300 (by decide) h1 h2 hp
    have q3 := okB_iff.1 h1
    obtain ⟨v, hv⟩ := same_row 300 r (by omega) (by omega)
    rw [c1, Option.bind_some, c2, Option.bind_some, decide_eq_true rfl, Bool.not_true, cond_false, hv]; rfl
theorem law36_MarkovExponent_true (z0 : Int) (x1 : List Int) (x2 : Int × (Int × Int)) (o0 : Ev.Sh.ok (.int .i64) z0) (o1 : Ev.Sh.ok (.sl (.int .i64)) x1) (o2 : Ev.Sh.ok (.pr (.int .i64) (.pr (.int .i64) (.int .i64))) x2) : ∃ n, F.law36_MarkovExponent n z0 x1 x2.1 x2.2.1 x2.2.2 = some true := by
  refine ⟨300, ?_⟩
  unfold F.law36_MarkovExponent
  have hg := i64_of o2.2.1
  obtain ⟨k, g, a⟩ := x2
  rw [awake36 300 (by decide), Option.bind_some]
  by_cases hl : 210 < (x1.length : Int)
  · rw [decide_eq_true hl]; rfl
  rw [decide_eq_false hl, Bool.not_true, cond_false, cond_false]
  rw [apply_eq 300 (by omega) hg, Option.bind_some]
  rcases step_two z0 x1 k g a with ⟨e, he, hr⟩ | ⟨s', w', k', g', a', hr, h1, h2, h3, h4, h5⟩
  · dsimp only
    rw [hr]
    show cond (!(decide (e = 0))) _ _ = _
    rw [decide_eq_false he]
    rfl
  · dsimp only
    rw [hr]
    have he := expo_step hr
    have hp : 4 ≤ k → s' = z0 ∧ ∀ q : List Int, (q.length : Int) = z0 → run q w' = run q x1 := fun hk => by
      have q3 := okB_iff.1 h1
      have e0 := run_step hr hk (q := List.replicate z0.toNat 0) (by rw [List.length_replicate]; omega)
      exact ⟨e0.1, fun q hq => (run_step hr hk hq).2⟩
    show cond (decide (k = 2)) _ _ = _
    by_cases k2 : k = 2
    · rw [decide_eq_true k2, cond_true]
      rw [if_pos k2] at he
      exact exp_j0 h1 h2 h5 he hp
    · rw [decide_eq_false k2, cond_false]
      rw [if_neg k2] at he
      by_cases k3 : k = 3
      · rw [decide_eq_true k3, cond_true]
        rw [if_pos k3] at he
        dsimp only
        rw [chk_ok (by omega) (by omega), Option.bind_some]
        exact exp_j0 h1 h2 (by omega) he hp
      · rw [decide_eq_false k3, cond_false]
        rw [if_neg k3] at he
        exact exp_j0 h1 h2 (by omega) he hp
end Go.Proofs.Ytkjpldmelafooaa
