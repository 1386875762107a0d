/- Words that are equal as braids have one normal form; lists compared and joined. -/
import Derived.Test.YtlkmcbgkohpmiaaPGuniq
import Derived.Test.YtlkmcbgkohpmiaaPBraid
set_option linter.unusedVariables false
set_option linter.unusedSimpArgs false
namespace Go.Proofs.Ytlkmcbgkohpmiaa
open Ev
namespace Gar
/-- A loop that compares two lists. -/
theorem eqLoop {α : Type} {body : Int → Option (Int ⊕ (Int ⊕ Bool))} {a b : List α} (n : Nat) (hl : a.length = b.length) (hn : a.length < n)
    (hs : ∀ (k : Nat) (x y : α), a[k]? = some x → b[k]? = some y → (x = y → body (k : Int) = some (.inl ((k + 1 : Nat) : Int))) ∧ (x ≠ y → body (k : Int) = some (.inr (.inr false))))
    (he : body (a.length : Int) = some (.inr (.inl (a.length : Int)))) : ∃ r, loopN n body 0 = some r ∧ ((∃ x, r = .inl x ∧ a = b) ∨ (r = .inr false ∧ a ≠ b)) := by
  apply loop_spec (fun x => ∃ k : Nat, x = (k : Int) ∧ k ≤ a.length ∧ a.take k = b.take k) (fun x => a.length - x.toNat)
  · intro x hx
    obtain ⟨k, rfl, hk, hI⟩ := hx
    by_cases hlt : k < a.length
    · have ha := List.getElem?_eq_getElem hlt
      have hb := List.getElem?_eq_getElem (show k < b.length by omega)
      obtain ⟨h1, h2⟩ := hs k _ _ ha hb
      by_cases e : a[k] = b[k]
      · refine .inl ⟨_, h1 e, ⟨k + 1, rfl, by omega, ?_⟩, by omega⟩
        rw [List.take_add_one, List.take_add_one, hI, ha, hb, e]
      · exact .inr ⟨_, h2 e, .inr ⟨rfl, fun hab => e (by subst hab; rfl)⟩⟩
    · obtain rfl : k = a.length := by omega
      refine .inr ⟨_, he, .inl ⟨_, rfl, ?_⟩⟩
      rw [List.take_length, hl, List.take_length] at hI
      exact hI
  · exact ⟨0, rfl, by omega, rfl⟩
  · simpa using hn
theorem sameC1 {a b : List Int} (n : Nat) (hn : a.length < n) (hl : a.length ≤ 1000) : ∃ r, F.garside_Same_c1 n a b = some r ∧ (r = true ↔ a = b) := by
  obtain ⟨r, h, hr⟩ := equalP (a := a) (b := b) n hn hl
  exact ⟨r, by unfold F.garside_Same_c1; rw [h]; rfl, hr⟩
theorem equalRows2 {a b : List (List Int)} (n : Nat) (ha : a.length ≤ 1000) (hr : ∀ x ∈ a, x.length ≤ 1000) (hn : 1000 < n) : ∃ r, F.slices_EqualFunc_Perm_Perm_Perm_Perm_garside_Same_c1 n a b = some r ∧ (r = true ↔ a = b) := by
  unfold F.slices_EqualFunc_Perm_Perm_Perm_Perm_garside_Same_c1
  by_cases h : (a.length : Int) = (b.length : Int)
  · rw [decide_eq_true h, Bool.not_true, cond_false]
    obtain ⟨r, h1, h2⟩ := eqLoop (body := F.slices_EqualFunc_Perm_Perm_Perm_Perm_garside_Same_c1_b0 n a b) (a := a) (b := b) n (by omega) (by omega) (fun k x y hx hy => by
      have hk := (List.getElem?_eq_some_iff.1 hx).1
      obtain ⟨r, r1, r2⟩ := sameC1 (a := x) (b := y) n (by have := hr x (List.mem_of_getElem? hx); omega) (hr x (List.mem_of_getElem? hx))
      unfold F.slices_EqualFunc_Perm_Perm_Perm_Perm_garside_Same_c1_b0
      dsimp only
      rw [decide_eq_true (by omega), cond_true, get_at rfl hx, Option.bind_some, get_at rfl hy, Option.bind_some, r1, Option.bind_some, chk_ok (by omega) (by omega)]
      refine ⟨fun e => ?_, fun e => ?_⟩
      · rw [r2.2 e]; rfl
      · cases r with
        | true => exact absurd (r2.1 rfl) e
        | false => rfl) (by
      unfold F.slices_EqualFunc_Perm_Perm_Perm_Perm_garside_Same_c1_b0
      dsimp only
      rw [decide_eq_false (by omega)]; rfl)
    rw [h1, Option.bind_some]
    rcases h2 with ⟨x, rfl, e⟩ | ⟨rfl, e⟩
    · exact ⟨true, rfl, fun _ => e, fun _ => rfl⟩
    · exact ⟨false, rfl, fun h' => absurd h' (by decide), fun h' => absurd h' e⟩
  · rw [decide_eq_false h]
    exact ⟨false, rfl, fun h' => absurd h' (by decide), fun h' => absurd (by rw [h']) h⟩
section
variable {N : Nat}
theorem NV.uniq (hN : 1 ≤ N) {p p' : Int} {qs qs' : List Pr} {b b' : List Int} (h : NV N p qs b) (h' : NV N p' qs' b') (hb : Rg N b) (hb' : Rg N b') (ha : ∀ j, act b j = act b' j) : p = p' ∧ fsts qs = fsts qs' := by
  by_cases h2 : 2 ≤ N
  · obtain ⟨H, hH⟩ := (dl_pm (N := N)).word
    exact uniq_act hH h2 h.pms h'.pms h.lw h'.lw h.noId h'.noId h.noDl h'.noDl (h.ns H hH) (h'.ns H hH) ha
  · obtain rfl : N = 1 := by omega
    have e : ∀ {w : List Int}, Rg 1 w → w = [] := fun {w} hw => by
      cases w with
      | nil => rfl
      | cons x w => have := hw x (by simp); omega
    have e1 := e hb
    have e2 := e hb'
    subst e1; subst e2
    have a1 := h.lo; have a2 := h.hi; have a3 := h'.lo; have a4 := h'.hi
    simp only [List.length_nil] at a1 a2 a3 a4
    have b1 : qs = [] := List.eq_nil_of_length_eq_zero (by omega)
    have b2 : qs' = [] := List.eq_nil_of_length_eq_zero (by omega)
    subst b1; subst b2
    exact ⟨by simp only [List.length_nil] at a2 a4; omega, rfl⟩
theorem ls_fsts (qs : List Pr) : ls N qs = (fsts qs).map (li N) := by unfold ls fsts; rw [List.map_map]; rfl
theorem okB_rg {s : Int} {w : List Int} (h : okB s w = true) : Rg s.toNat w := fun x hx => by
  obtain ⟨h1, h2, h3, h4⟩ := okB_iff.1 h
  have := h4 x hx
  omega
theorem form_act {s : Int} {w w' : List Int} (hv : okB s w = true) (hv' : okB s w' = true) (n : Nat) (hn : 300000000 ≤ n) (ha : ∀ j, act w j = act w' j) : F.garside_Form n s w = F.garside_Form n s w' := by
  obtain ⟨p, qs, h1, h2⟩ := form_eq hv n hn
  obtain ⟨p', qs', h3, h4⟩ := form_eq hv' n hn
  obtain ⟨a1, a2, a3, a4⟩ := okB_iff.1 hv
  obtain ⟨rfl, e⟩ := h2.uniq (by omega) h4 (okB_rg hv) (okB_rg hv') ha
  rw [h1, h3, ls_fsts, ls_fsts, e]
theorem form_be {s : Int} {w w' : List Int} (hv : okB s w = true) (hv' : okB s w' = true) (n : Nat) (hn : 300000000 ≤ n) (hb : BE s.toNat w w') : F.garside_Form n s w = F.garside_Form n s w' :=
  form_act hv hv' n hn fun j => hb.act j
theorem NV.len {s : Int} {w : List Int} (hv : okB s w = true) {p : Int} {qs : List Pr} (h : NV s.toNat p qs w) : qs.length ≤ 400 ∧ -200 ≤ p ∧ p ≤ 200 := by
  obtain ⟨a1, a2, a3, a4⟩ := okB_iff.1 hv
  have := h.lo; have := h.hi
  omega
theorem ls_row {M : Nat} {qs : List Pr} : ∀ x ∈ ls M qs, x.length = M := fun x hx => by
  obtain ⟨q, _, rfl⟩ := List.mem_map.1 hx
  exact li_len
theorem garSame {s : Int} {w w' : List Int} (hv : okB s w = true) (hv' : okB s w' = true) (n : Nat) (hn : 300000000 ≤ n) : ∃ r, F.garside_Same n s w s w' = some r ∧ (r = true ↔ F.garside_Form n s w = F.garside_Form n s w') := by
  obtain ⟨p, qs, h1, h2⟩ := form_eq hv n hn
  obtain ⟨p', qs', h3, h4⟩ := form_eq hv' n hn
  obtain ⟨a1, a2, a3, a4⟩ := okB_iff.1 hv
  have hl := h2.len hv
  unfold F.garside_Same
  rw [h1, h3, Option.bind_some, Option.bind_some]
  dsimp only
  rw [decide_eq_true rfl, Bool.not_true, cond_false, decide_eq_true rfl, cond_true]
  by_cases e : p = p'
  · rw [decide_eq_true e, cond_true]
    obtain ⟨r, r1, r2⟩ := equalRows2 (a := ls s.toNat qs) (b := ls s.toNat qs') n (by rw [ls_len]; omega) (fun x hx => by rw [ls_row x hx]; omega) (by omega)
    rw [r1]
    refine ⟨r, rfl, fun h => by rw [e, r2.1 h], fun h => r2.2 ?_⟩
    injection h with h
    exact (Prod.mk.inj (Prod.mk.inj (Prod.mk.inj h).2).2).1
  · rw [decide_eq_false e]
    refine ⟨false, rfl, fun h => absurd h (by decide), fun h => absurd ?_ e⟩
    injection h with h
    exact (Prod.mk.inj (Prod.mk.inj h).2).1
theorem garSame_be {s : Int} {w w' : List Int} (hv : okB s w = true) (hv' : okB s w' = true) (n : Nat) (hn : 300000000 ≤ n) (hb : BE s.toNat w w') : F.garside_Same n s w s w' = some true := by
  obtain ⟨r, h1, h2⟩ := garSame hv hv' n hn
  rw [h1, h2.2 (form_be hv hv' n hn hb)]
end
/-- Lists joined. -/
theorem flat_len (L : List (List Int)) : ∀ k, (L.take k).flatten.length ≤ L.flatten.length := fun k => by
  conv => rhs; rw [← List.take_append_drop k L]
  rw [List.flatten_append, List.length_append]; omega
theorem flat_take (L : List (List Int)) (k : Nat) (x : List Int) (hx : L[k]? = some x) : (L.take (k + 1)).flatten = (L.take k).flatten ++ x := by
  rw [List.take_add_one, hx, List.flatten_append]; simp
theorem concat_all (L : List (List Int)) (n : Nat) (h : L.flatten.length ≤ 100000) (hL : L.length ≤ 1000) (hn : 1000 < n) : F.slices_Concat_Lint_int n L = some L.flatten := by
  unfold F.slices_Concat_Lint_int
  have hx : ∀ k, k < L.length → ∃ x, L[k]? = some x ∧ ((L.take k).flatten ++ x).length ≤ 100000 := fun k hk => by
    refine ⟨_, List.getElem?_eq_getElem hk, ?_⟩
    rw [← flat_take L k _ (List.getElem?_eq_getElem hk)]
    have := flat_len L (k + 1); omega
  have e1 := count_loop (body := F.slices_Concat_Lint_int_b0 n L) (fun k => (((L.take k).flatten.length : Int), (k : Int))) L.length (r := ((L.flatten.length : Int), (L.length : Int))) (fun k hk => by
    obtain ⟨x, h1, h2⟩ := hx k hk
    rw [List.length_append] at h2
    unfold F.slices_Concat_Lint_int_b0
    dsimp only
    rw [decide_eq_true (by omega), cond_true, get_at rfl h1, Option.bind_some, chk_ok (by omega) (by omega), Option.bind_some, decide_eq_false (by omega), cond_false, chk_ok (by omega) (by omega), flat_take L k x h1, List.length_append, Int.natCast_add, Int.natCast_add]
    rfl) (by
    unfold F.slices_Concat_Lint_int_b0
    dsimp only
    rw [decide_eq_false (by omega), cond_false, List.take_length]) n (by omega)
  have e2 := count_loop (body := F.slices_Concat_Lint_int_b1 n L) (fun k => ((L.take k).flatten, (k : Int))) L.length (r := (L.flatten, (L.length : Int))) (fun k hk => by
    obtain ⟨x, h1, h2⟩ := hx k hk
    rw [List.length_append] at h2
    unfold F.slices_Concat_Lint_int_b1
    dsimp only
    rw [decide_eq_true (by omega), cond_true, get_at rfl h1, Option.bind_some, lim_ok (by omega), Option.bind_some, chk_ok (by omega) (by omega), flat_take L k x h1, Int.natCast_add]
    rfl) (by
    unfold F.slices_Concat_Lint_int_b1
    dsimp only
    rw [decide_eq_false (by omega), cond_false, List.take_length]) n (by omega)
  have e3 : F.slices_Grow_Lint_int_nil n (L.flatten.length : Int) = some [] := by
    unfold F.slices_Grow_Lint_int_nil
    rw [decide_eq_false (by omega), cond_false, chk_ok (by omega) (by omega), Option.bind_some, chk_ok (by omega) (by omega), Option.bind_some]
    by_cases hz : 0 < (L.flatten.length : Int) - (0 - 0)
    · rw [decide_eq_true hz, cond_true, posz_ok hz (by omega), Option.bind_some, cut_ok (by omega) (by omega) (by omega)]
      rfl
    · rw [decide_eq_false hz]; rfl
  have e1' : loopN n (F.slices_Concat_Lint_int_b0 n L) (0, 0) = some ((L.flatten.length : Int), (L.length : Int)) := e1
  have e2' : loopN n (F.slices_Concat_Lint_int_b1 n L) ([], 0) = some (L.flatten, (L.length : Int)) := e2
  rw [e1', Option.bind_some]
  dsimp only
  rw [e3, Option.bind_some, e2']
  rfl
end Gar
end Go.Proofs.Ytlkmcbgkohpmiaa
