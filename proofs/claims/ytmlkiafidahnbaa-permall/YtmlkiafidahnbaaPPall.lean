/- The plain law of PermAll. -/
import Derived.Test.YtmlkiafidahnbaaPPiter
set_option linter.unusedVariables false
set_option linter.unusedSimpArgs false
namespace Go.Proofs.Ytmlkiafidahnbaa
open Ev
namespace Gar
theorem b3_ok (x : List Int) (hx : x.length ≤ 10) : ∃ q, loopN 200000000 (F.law30_PermAll_b3 200000000 x) (0, x) = some q := by
  have := count_loop (body := F.law30_PermAll_b3 200000000 x) (fun k => ((k : Int), List.replicate k (-7) ++ x.drop k)) x.length (r := ((x.length : Int), List.replicate x.length (-7) ++ x.drop x.length)) (fun k hk => by
    unfold F.law30_PermAll_b3
    dsimp only
    have hd : x.drop k = x[k] :: x.drop (k + 1) := (List.getElem_cons_drop hk).symm
    have hg : Ev.get (List.replicate k (-7) ++ x.drop k) (k : Int) = some x[k] := by
      rw [get_nat, List.getElem?_append_right (by simp), hd]; simp
    rw [decide_eq_true (by omega), cond_true, hg, Option.bind_some, chk_ok (by omega) (by omega), Option.bind_some, show (k : Int).toNat = k by omega]
    congr 3
    rw [List.set_append, if_neg (by simp), List.length_replicate, Nat.sub_self, hd, List.set_cons_zero, List.replicate_succ', List.append_assoc]
    rfl) (by
    unfold F.law30_PermAll_b3
    dsimp only
    rw [decide_eq_false (by omega)]; rfl) 200000000 (by omega)
  exact ⟨_, this⟩
theorem fold2 (L : List (List Int)) : ∀ (acc : List (List Int)), acc.length + L.length ≤ 2000 → (∀ p ∈ L, p.length ≤ 10) → foldX (F.law30_PermAll_b2 200000000) acc L = some (.inl (acc ++ L)) := by
  induction L with
  | nil => intro acc _ _; simp [foldX]
  | cons p r ih =>
    intro acc h1 h2
    have hp := h2 p (by simp)
    rw [List.length_cons] at h1
    obtain ⟨q, hq⟩ := b3_ok p hp
    unfold foldX
    have : F.law30_PermAll_b2 200000000 p acc = some (.inl (acc ++ [p])) := by
      unfold F.law30_PermAll_b2
      dsimp only
      rw [lim_ok (by simp; omega), Option.bind_some, lim_ok (by simp; omega), Option.bind_some, hq, Option.bind_some]
      simp
    rw [this, Option.bind_some, Sum.elim_inl, ih (acc ++ [p]) (by simp; omega) (fun x hx => h2 x (by simp [hx]))]
    simp
theorem fold4 (stop : Int) (hs : stop ≤ 255) (L : List (List Int)) : ∀ (c : Int), 0 ≤ c → c ≤ stop → ∃ o, foldX (F.law30_PermAll_b4 200000000 stop) c L = some o ∧ lr o = min stop (c + L.length) := by
  induction L with
  | nil => intro c h0 h1; exact ⟨_, rfl, by simp [lr]; omega⟩
  | cons p r ih =>
    intro c h0 h1
    unfold foldX
    by_cases h : c = stop
    · have : F.law30_PermAll_b4 200000000 stop p c = some (.inr c) := by
        unfold F.law30_PermAll_b4
        dsimp only
        rw [decide_eq_true h, cond_true]
      rw [this, Option.bind_some, Sum.elim_inr]
      exact ⟨_, rfl, by simp [lr]; omega⟩
    · have : F.law30_PermAll_b4 200000000 stop p c = some (.inl (c + 1)) := by
        unfold F.law30_PermAll_b4
        dsimp only
        rw [decide_eq_false h, cond_false, chk_ok (by omega) (by omega), Option.bind_some]
      rw [this, Option.bind_some, Sum.elim_inl]
      obtain ⟨o, h2, h3⟩ := ih (c + 1) (by omega) (by omega)
      exact ⟨o, h2, by rw [h3, List.length_cons]; omega⟩
theorem lr_inl {S : Type} (s : S) : lr (.inl s : S ⊕ S) = s := rfl
theorem j1_ok (x stop : Int) (h0 : 0 ≤ stop) (hs : stop ≤ 255) (L : List (List Int)) (hl : L.length ≤ 1001) (hp : ∀ p ∈ L, p.length ≤ 10)
    (hrun : ∀ {S X : Type} (step : List Int → S → Option (S ⊕ X)) (s : S), F.perm_All_c1 step 200000000 s x = foldX step s L) : F.law30_PermAll_j1 200000000 x stop L = some true := by
  unfold F.law30_PermAll_j1
  obtain ⟨o, h1, h2⟩ := fold4 stop hs L 0 (by omega) h0
  rw [hrun, fold2 L [] (by simp; omega) hp, Option.bind_some]
  rw [lr_inl, hrun, h1, Option.bind_some]
  rw [List.nil_append, refLists _ (by omega) (fun p h => by have := hp p h; omega) (by decide) (by omega), decide_eq_true rfl, Option.bind_some, cond_true, h2]
  rw [decide_eq_true (by omega)]
end Gar
open Gar in
theorem law30_PermAll_true (x0 x1 : Int) (o0 : Ev.Sh.ok (.int .i64) x0) (o1 : Ev.Sh.ok (.int .u8) x1) : ∃ n, F.law30_PermAll n x0 x1 = some true := by
  have hu : 0 ≤ x1 ∧ x1 ≤ 255 := by
    have h : IntKind.u8.wrap x1 = x1 := o1
    simp [IntKind.wrap, IntKind.signed, IntKind.bits] at h
    omega
  refine ⟨200000000, ?_⟩
  have hj : ¬ (5 < x0 ∧ x0 ≤ 8) → F.law30_PermAll_j0 200000000 x0 x1 = some true := fun hne => by
    unfold F.law30_PermAll_j0
    by_cases h1 : 0 ≤ x0
    · rw [decide_eq_true h1, cond_true]
      by_cases h2 : x0 ≤ 8
      · rw [decide_eq_true h2, cond_true]
        obtain ⟨N, rfl⟩ : ∃ N : Nat, x0 = (N : Int) := ⟨x0.toNat, by omega⟩
        obtain ⟨L, hL, h3, h4, h5⟩ := all_eq (N := N) (by omega)
        rw [hL, Option.bind_some]
        exact j1_ok _ _ hu.1 hu.2 L h3 h4 h5
      · rw [decide_eq_false h2, cond_false]
        exact j1_ok _ _ hu.1 hu.2 [] (by simp) (by simp) fun step s => by rw [all_out _ _ _ (by omega)]; rfl
    · rw [decide_eq_false h1, cond_false]
      exact j1_ok _ _ hu.1 hu.2 [] (by simp) (by simp) fun step s => by rw [all_out _ _ _ (by omega)]; rfl
  unfold F.law30_PermAll
  rw [awake30, Option.bind_some, Bool.not_true, cond_false]
  by_cases h1 : 5 < x0
  · rw [decide_eq_true h1, cond_true]
    by_cases h2 : x0 ≤ 8
    · rw [decide_eq_true h2]; rfl
    · rw [decide_eq_false h2, cond_false]; exact hj (by omega)
  · rw [decide_eq_false h1, cond_false]; exact hj (by omega)
end Go.Proofs.Ytmlkiafidahnbaa
