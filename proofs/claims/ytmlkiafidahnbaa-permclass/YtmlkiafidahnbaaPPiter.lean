/- The permutations of a few points, one after the other. -/
import Derived.Test.YtmlkiafidahnbaaPPperm
import Derived.Test.YtmlkiafidahnbaaPPawake
set_option linter.unusedVariables false
set_option linter.unusedSimpArgs false
namespace Go.Proofs.Ytmlkiafidahnbaa
open Ev
namespace Gar
def foldX {S X : Type} (step : List Int → S → Option (S ⊕ X)) : S → List (List Int) → Option (S ⊕ X)
  | s, [] => some (.inl s)
  | s, p :: r => (step p s).bind fun o => Sum.elim (fun s' => foldX step s' r) (fun x => some (.inr x)) o
/-- Each list is followed by the next one, and the last by none. -/
def chain (n : Nat) : List (List Int) → Bool
  | [] => false
  | [p] => decide (p.length ≤ 10) && (match F.perm_advance n p with | some (false, _) => true | _ => false)
  | p :: q :: r => decide (p.length ≤ 10) && decide (F.perm_advance n p = some (true, q)) && chain n (q :: r)
def permsL (n N : Nat) : List (List Int) := (F.ref30_All n (N : Int) []).getD []
theorem chain_run {S X : Type} (step : List Int → S → Option (S ⊕ X)) (n : Nat) : ∀ (L : List (List Int)) (p : List Int) (s : S) (m : Nat), chain n (p :: L) = true → L.length + 1 < m →
    (loopN m (F.perm_All_c1_b1 step n) (s, true, p)).bind (fun o => match o with | .inl (s_1, v5_1, qf14_1) => some (.inl s_1) | .inr q => some q) = foldX step s (p :: L) := by
  intro L
  induction L with
  | nil =>
    intro p s m hc hm
    obtain ⟨m, rfl⟩ : ∃ m', m = m' + 2 := ⟨m - 2, by simp at hm; omega⟩
    simp only [chain, Bool.and_eq_true, decide_eq_true_eq] at hc
    obtain ⟨h1, h2⟩ := hc
    have hcl : F.slices_Clone_Perm_int n p = some p := by
      unfold F.slices_Clone_Perm_int; rw [lim_ok (by simp; omega)]; simp
    rw [loopN]
    unfold foldX
    simp only [F.perm_All_c1_b1, cond_true, hcl, Option.bind_some]
    cases hst : step p s with
    | none => rfl
    | some o =>
      rcases o with s' | x
      · simp only [Option.bind_some, Sum.elim_inl]
        split at h2
        · rename_i q hq
          rw [hq]
          simp only [Option.bind_some, foldX]
          rw [loopN]
          rfl
        · cases h2
      · rfl
  | cons q L ih =>
    intro p s m hc hm
    obtain ⟨m, rfl⟩ : ∃ m', m = m' + 1 := ⟨m - 1, by simp at hm; omega⟩
    simp only [chain, Bool.and_eq_true, decide_eq_true_eq] at hc
    obtain ⟨⟨h1, h2⟩, h3⟩ := hc
    have hcl : F.slices_Clone_Perm_int n p = some p := by
      unfold F.slices_Clone_Perm_int; rw [lim_ok (by simp; omega)]; simp
    rw [loopN]
    unfold foldX
    simp only [F.perm_All_c1_b1, cond_true, hcl, Option.bind_some]
    cases hst : step p s with
    | none => rfl
    | some o =>
      rcases o with s' | x
      · simp only [Option.bind_some, Sum.elim_inl, h2]
        exact ih q s' m (by simpa [chain] using h3) (by simp at hm ⊢; omega)
      · rfl
theorem all_out {S X : Type} (step : List Int → S → Option (S ⊕ X)) (n : Nat) (s : S) {x : Int} (h : x < 0 ∨ 8 < x) : F.perm_All_c1 step n s x = some (.inl s) := by
  unfold F.perm_All_c1
  by_cases h1 : x < 0
  · rw [decide_eq_true h1]; rfl
  · rw [decide_eq_false h1, decide_eq_true (show 8 < x by omega)]; rfl
theorem all_run {S X : Type} (step : List Int → S → Option (S ⊕ X)) (n : Nat) (s : S) {N : Nat} (hN : N ≤ 8) (hn : 1000 < n) {L : List (List Int)} (hc : chain n (li N (fun k => k) :: L) = true) (hL : L.length + 1 < n) : F.perm_All_c1 step n s (N : Int) = foldX step s (li N (fun k => k) :: L) := by
  unfold F.perm_All_c1
  rw [decide_eq_false (show ¬ (N : Int) < 0 by omega), cond_false, decide_eq_false (show ¬ (8 : Int) < N by omega), cond_false, pos_ok (by omega) (by omega), Option.bind_some, show ((N : Int)).toNat = N by omega]
  have := count_loop (body := F.perm_All_c1_b0 step n (N : Int)) (fun k => (s, (k : Int), li N (fill (fun k => k) k))) N (r := (s, (N : Int), li N fun k => k)) (fun k hk => by
    unfold F.perm_All_c1_b0
    dsimp only
    rw [List.length_replicate, show ((N : Int)).toNat = N by omega, decide_eq_true (by omega), cond_true, get_li (by omega) (by omega), Option.bind_some, chk_ok (by omega) (by omega), Option.bind_some, show (k : Int).toNat = k by omega, li_fill (f := fun k => k)]
    rfl) (by
    unfold F.perm_All_c1_b0
    dsimp only
    rw [List.length_replicate, show ((N : Int)).toNat = N by omega, decide_eq_false (by omega), cond_false, li_full]) n (by omega)
  rw [li_empty (f := fun k => k), show (s, (0 : Int), li N (fill (fun k => k) 0)) = (s, (((0 : Nat)) : Int), li N (fill (fun k => k) 0)) from rfl, this, Option.bind_some]
  exact chain_run step n L _ s n hc hL
def allOk (n N : Nat) : Bool :=
  match F.ref30_All n (N : Int) [] with
  | some (p :: L) => decide (p = li N fun k => k) && chain n (p :: L) && decide (L.length ≤ 1000) && (p :: L).all fun q => decide (F.perm_Valid n q = some true) && decide (q.length = N)
  | _ => false
set_option maxRecDepth 100000 in
theorem all_ok : ∀ N, N ≤ 6 → allOk 200000000 N = true := by
  intro N hN
  match N with
  | 0 => decide +kernel
  | 1 => decide +kernel
  | 2 => decide +kernel
  | 3 => decide +kernel
  | 4 => decide +kernel
  | 5 => decide +kernel
  | 6 => decide +kernel
  | k + 7 => omega
theorem all_eq {N : Nat} (hN : N ≤ 6) : ∃ L : List (List Int), F.ref30_All 200000000 (N : Int) [] = some L ∧ L.length ≤ 1001 ∧ (∀ p ∈ L, p.length ≤ 10) ∧ (∀ p ∈ L, F.perm_Valid 200000000 p = some true ∧ p.length = N) ∧ ∀ {S X : Type} (step : List Int → S → Option (S ⊕ X)) (s : S), F.perm_All_c1 step 200000000 s (N : Int) = foldX step s L := by
  have h := all_ok N hN
  unfold allOk at h
  split at h
  · rename_i p L hL
    simp only [Bool.and_eq_true, decide_eq_true_eq] at h
    obtain ⟨⟨⟨rfl, h1⟩, h2⟩, h3⟩ := h
    refine ⟨_, hL, by simp; omega, ?_, fun q hq => by simpa using List.all_eq_true.1 h3 q hq, fun step s => all_run step _ s (by omega) (by decide) h1 (by omega)⟩
    have key : ∀ (L : List (List Int)), chain 200000000 L = true → ∀ p ∈ L, p.length ≤ 10 := by
      intro L
      induction L with
      | nil => intro h; cases h
      | cons p r ih =>
        intro h q hq
        cases r with
        | nil =>
          simp only [chain, Bool.and_eq_true, decide_eq_true_eq] at h
          simp at hq; subst hq; exact h.1
        | cons q' r =>
          simp only [chain, Bool.and_eq_true, decide_eq_true_eq] at h
          rcases List.mem_cons.1 hq with rfl | hq
          · exact h.1.1
          · exact ih (by simpa [chain] using h.2) q hq
    exact key _ h1
  · cases h
end Gar
end Go.Proofs.Ytmlkiafidahnbaa
