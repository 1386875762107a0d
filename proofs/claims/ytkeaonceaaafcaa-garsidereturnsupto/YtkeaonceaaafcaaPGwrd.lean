/- The program's own checks and words: inverse braids, valid normal forms, the word of a normal form. -/
import Derived.Test.YtkeaonceaaafcaaPGval
import Derived.Test.YtkeaonceaaafcaaPGsameB
set_option linter.unusedVariables false
set_option linter.unusedSimpArgs false
namespace Go.Proofs.Ytkeaonceaaafcaa
open Ev
namespace Gar
theorem braidInverse {s : Int} {w : List Int} (hv : okB s w = true) (n : Nat) (hn : 300 ≤ n) : F.braid_Inverse n s w = some (s, neg w) := by
  obtain ⟨a1, a2, a3, a4⟩ := okB_iff.1 hv
  have hnl : (neg w).length = w.length := by simp [neg]
  unfold F.braid_Inverse
  have := count_loop (body := F.braid_Inverse_b0 n w) (fun k => (k, (neg w).take k)) w.length (r := neg w) (fun k hk => by
    have hx : w.reverse[k]? = some (w.reverse[k]'(by simpa using hk)) := List.getElem?_eq_getElem _
    have hm : w.reverse[k]'(by simpa using hk) ∈ w := List.mem_reverse.1 (List.getElem_mem _)
    have hx2 : (neg w)[k]? = some (-(w.reverse[k]'(by simpa using hk))) := by
      unfold neg
      rw [← List.map_reverse, List.getElem?_map, hx]; rfl
    generalize w.reverse[k]'(by simpa using hk) = x at hx hx2 hm
    have := a4 x hm
    unfold F.braid_Inverse_b0
    dsimp only
    rw [decide_eq_true hk, cond_true, hx, Option.bind_some, chk_ok (by omega) (by omega), Option.bind_some, lim_ok (by simp; omega), Option.bind_some, List.take_add_one, hx2]
    rfl) (by
    unfold F.braid_Inverse_b0
    dsimp only
    rw [decide_eq_false (Nat.lt_irrefl _), cond_false, List.take_of_length_le (by omega)]) n (by omega)
  have e : loopN n (F.braid_Inverse_b0 n w) (0, ([] : List Int)) = some (neg w) := this
  rw [braidValid n (by omega), Option.bind_some, hv, Bool.not_true, cond_false, pos_ok (by omega) (by omega), Option.bind_some, e]
  rfl
section
variable {N : Nat}
/-- A row that may stand in a normal form, for itself. -/
def Row1 (N : Nat) (x : List Int) : Prop := ∃ f g, Pm N f g ∧ x = li N f ∧ (f ≠ fun k => k) ∧ f ≠ dl N
theorem row1_step (hN : 1 ≤ N ∧ N ≤ 10) {L : List (List Int)} {k : Nat} (hk : k ≤ 1000) {x : List Int} (hx : L[k]? = some x) (hl : x.length ≤ 100000000) (n : Nat) (hn : 300000000 ≤ n) :
    (Row1 N x ∧ F.garside_Valid_b1 n (N : Int) L (k : Int) = some (.inl ((k + 1 : Nat) : Int))) ∨ (¬ Row1 N x ∧ F.garside_Valid_b1 n (N : Int) L (k : Int) = some (.inr (.inr false))) := by
  have hlt := (List.getElem?_eq_some_iff.1 hx).1
  unfold F.garside_Valid_b1
  dsimp only
  rw [decide_eq_true (by omega), cond_true, get_at rfl hx, Option.bind_some]
  obtain ⟨r, r1, r2⟩ := permValid (p := x) n (by omega) hl
  rw [r1, Option.bind_some]
  cases r with
  | false =>
    rw [Bool.not_false, cond_true]
    refine .inr ⟨fun ⟨f, g, h1, h2, _⟩ => ?_, rfl⟩
    exact absurd (r2.2 (h2 ▸ isP_li h1)) (by decide)
  | true =>
    rw [Bool.not_true, cond_false]
    by_cases c1 : (x.length : Int) = (N : Int)
    · rw [decide_eq_true c1, Bool.not_true, cond_false]
      obtain ⟨f, g, hp, he⟩ := r2.1 rfl
      have hxl : x.length = N := by omega
      rw [hxl] at hp he
      subst he
      have huniq : ∀ {f' g' : Nat → Nat}, Pm N f' g' → li N f = li N f' → f = f' := fun h1 h2 => li_eq hp.fix h1.fix h2
      obtain ⟨b, b1, b2⟩ := sorted_eq hp n (by omega) (by omega) hN.1
      rw [b1, Option.bind_some]
      cases b with
      | true =>
        rw [cond_true]
        exact .inr ⟨fun ⟨f', g', h1, h2, h3, _⟩ => h3 (by rw [← huniq h1 h2]; exact b2.1 rfl), rfl⟩
      | false =>
        rw [cond_false, halfTwist_eq n (by omega) (by omega), Option.bind_some]
        obtain ⟨c, e1, e2⟩ := equalP (a := li N f) (b := li N (dl N)) n (by rw [li_len]; omega) (by rw [li_len]; omega)
        rw [e1, Option.bind_some]
        cases c with
        | true =>
          rw [cond_true]
          have hd : f = dl N := li_eq hp.fix dl_pm.fix (e2.1 rfl)
          exact .inr ⟨fun ⟨f', g', h1, h2, _, h4⟩ => h4 (by rw [← huniq h1 h2]; exact hd), rfl⟩
        | false =>
          rw [cond_false, chk_ok (by omega) (by omega)]
          exact .inl ⟨⟨f, g, hp, rfl, fun h => absurd (b2.2 h) (by decide), fun h => absurd (e2.2 (by rw [h])) (by decide)⟩, rfl⟩
    · rw [decide_eq_false c1, Bool.not_false, cond_true]
      exact .inr ⟨fun ⟨f, g, h1, h2, _⟩ => c1 (by rw [h2, li_len]), rfl⟩
theorem pairLoop {f g f0 g0 : Nat → Nat} (hp : Pm N f g) (hp0 : Pm N f0 g0) (hN : 1 ≤ N ∧ N ≤ 10) {L : List (List Int)} {k : Nat} (hk : k ≤ 1000) (hx : L[k]? = some (li N f)) (n : Nat) (hn : 3000 ≤ n) :
    ∃ r, loopN n (F.garside_Valid_b3 n (N : Int) L (k : Int) (li N g0)) 1 = some r ∧ ((∃ x, r = .inl x ∧ ∀ j, 1 ≤ j → j < N → ds f j → ds g0 j) ∨ (r = .inr false ∧ ¬ ∀ j, 1 ≤ j → j < N → ds f j → ds g0 j)) := by
  apply loop_spec (fun s => ∃ v : Nat, s = (v : Int) ∧ 1 ≤ v ∧ v ≤ N + 1 ∧ ∀ j, 1 ≤ j → j < v → j < N → ds f j → ds g0 j) (fun s => N + 1 - s.toNat)
  · intro s hs
    obtain ⟨v, rfl, h1, h2, h3⟩ := hs
    unfold F.garside_Valid_b3
    dsimp only
    by_cases hv : v < N
    · rw [decide_eq_true (by omega), cond_true, get_at rfl hx, Option.bind_some, chk_ok (by omega) (by omega), Option.bind_some, get_li (by omega) (by omega), Option.bind_some, Option.bind_some, get_li (by omega) (by omega), Option.bind_some, show ((v : Int) - 1).toNat = v - 1 by omega, Int.toNat_natCast]
      by_cases hd : f v < f (v - 1)
      · rw [decide_eq_true (by omega), cond_true, Option.bind_some, get_li (by omega) (by omega), Option.bind_some, get_li (by omega) (by omega), Option.bind_some, show ((v : Int) - 1).toNat = v - 1 by omega, Int.toNat_natCast]
        by_cases hg : g0 (v - 1) < g0 v
        · rw [decide_eq_true (by omega), cond_true]
          refine .inr ⟨_, rfl, .inr ⟨rfl, fun h => ?_⟩⟩
          have := h v h1 hv hd
          unfold ds at this; omega
        · rw [decide_eq_false (by omega), cond_false, chk_ok (by omega) (by omega), Option.bind_some]
          refine .inl ⟨_, rfl, ⟨v + 1, rfl, by omega, by omega, fun j j1 j2 j3 j4 => ?_⟩, by omega⟩
          by_cases hj : j = v
          · subst hj
            have hne : g0 (j - 1) ≠ g0 j := fun e => by have := hp0.symm.inj e; omega
            unfold ds; omega
          · exact h3 j j1 (by omega) j3 j4
      · rw [decide_eq_false (by omega), cond_false, chk_ok (by omega) (by omega), Option.bind_some]
        refine .inl ⟨_, rfl, ⟨v + 1, rfl, by omega, by omega, fun j j1 j2 j3 j4 => ?_⟩, by omega⟩
        by_cases hj : j = v
        · subst hj; exact absurd j4 hd
        · exact h3 j j1 (by omega) j3 j4
    · rw [decide_eq_false (by omega), cond_false]
      exact .inr ⟨_, rfl, .inl ⟨_, rfl, fun j j1 j2 j3 => h3 j j1 (by omega) j2 j3⟩⟩
  · exact ⟨1, rfl, by omega, by omega, fun j j1 j2 => by omega⟩
  · omega
theorem rows_qs {L : List (List Int)} (h : ∀ x ∈ L, Row1 N x) : ∃ qs, L = ls N qs ∧ Pms N qs ∧ (∀ q ∈ qs, q.1 ≠ fun k => k) ∧ ∀ q ∈ qs, q.1 ≠ dl N := by
  induction L with
  | nil => exact ⟨[], rfl, fun q hq => by simp at hq, fun q hq => by simp at hq, fun q hq => by simp at hq⟩
  | cons x L ih =>
    obtain ⟨qs, h1, h2, h3, h4⟩ := ih fun y hy => h y (by simp [hy])
    obtain ⟨f, g, k1, k2, k3, k4⟩ := h x (by simp)
    refine ⟨(f, g) :: qs, by rw [h1, k2]; rfl, fun q hq => ?_, fun q hq => ?_, fun q hq => ?_⟩
    · rcases List.mem_cons.1 hq with e | e
      · subst e; exact k1
      · exact h2 q e
    · rcases List.mem_cons.1 hq with e | e
      · subst e; exact k3
      · exact h3 q e
    · rcases List.mem_cons.1 hq with e | e
      · subst e; exact k4
      · exact h4 q e
theorem garRows (hN : 1 ≤ N ∧ N ≤ 10) {L : List (List Int)} (hL : L.length ≤ 400) (hrow : ∀ x ∈ L, x.length ≤ 100000000) (n : Nat) (hn : 300000000 ≤ n) : ∃ r, F.garside_Valid_j0 n (N : Int) L = some r ∧ (r = true ↔ ∃ qs, NF N L qs) := by
  unfold F.garside_Valid_j0
  obtain ⟨r, r1, r2⟩ := loop_spec (body := F.garside_Valid_b1 n (N : Int) L) (fun s => ∃ k : Nat, s = (k : Int) ∧ k ≤ L.length ∧ ∀ x ∈ L.take k, Row1 N x) (fun s => L.length - s.toNat)
    (fun r => match r with | .inl _ => ∀ x ∈ L, Row1 N x | .inr b => b = false ∧ ¬ ∀ x ∈ L, Row1 N x) (fun s ⟨k, h1, h2, h3⟩ => by
      subst h1
      by_cases hk : k < L.length
      · have hx : L[k]? = some L[k] := List.getElem?_eq_getElem hk
        have hm := List.getElem_mem hk
        generalize L[k] = x at hx hm
        rcases row1_step hN (by omega) hx (hrow x hm) n hn with ⟨a, b⟩ | ⟨a, b⟩
        · refine .inl ⟨_, b, ⟨k + 1, rfl, by omega, fun y hy => ?_⟩, by omega⟩
          rw [List.take_add_one, hx] at hy
          rcases List.mem_append.1 hy with hy | hy
          · exact h3 y hy
          · rw [Option.toList_some, List.mem_singleton] at hy; subst hy; exact a
        · exact .inr ⟨_, b, rfl, fun h => a (h x hm)⟩
      · unfold F.garside_Valid_b1
        dsimp only
        rw [decide_eq_false (by omega), cond_false]
        rw [List.take_of_length_le (by omega)] at h3
        exact .inr ⟨_, rfl, h3⟩) n 0 ⟨0, rfl, by omega, by simp⟩ (by simp; omega)
  rw [r1, Option.bind_some]
  rcases r with _ | b
  · dsimp only at r2 ⊢
    obtain ⟨qs, q1, q2, q3, q4⟩ := rows_qs r2
    have hql : qs.length = L.length := by rw [q1, ls_len]
    have hLW : (∃ qs', NF N L qs') ↔ LWi N qs := by
      refine ⟨fun ⟨qs', k1, k2, k3, k4, k5⟩ => ?_, fun h => ⟨qs, q1, q2, h, q3, q4⟩⟩
      intro i a b ha hb
      have hl' : qs'.length = qs.length := by have := congrArg List.length (q1.symm.trans k1); rw [ls_len, ls_len] at this; omega
      have get : ∀ (i : Nat) (q : Pr), qs[i]? = some q → ∃ q', qs'[i]? = some q' ∧ q'.1 = q.1 ∧ q'.2 = q.2 := by
        intro i q hq
        have hi := (List.getElem?_eq_some_iff.1 hq).1
        have hq' : qs'[i]? = some (qs'[i]'(by omega)) := List.getElem?_eq_getElem _
        have hm' := List.getElem_mem (show i < qs'.length by omega)
        generalize qs'[i]'(by omega) = q' at hq' hm'
        have e1 := ls_at (N := N) hq
        have e2 := ls_at (N := N) hq'
        rw [← q1, k1, e2] at e1
        injection e1 with e1
        have hp1 := k2 q' hm'
        have hp2 := q2 q (List.mem_of_getElem? hq)
        have e3 : q'.1 = q.1 := li_eq hp1.fix hp2.fix e1
        rw [e3] at hp1
        exact ⟨q', hq', e3, hp1.uniq hp2⟩
      obtain ⟨a', ha', a1, a2⟩ := get i a ha
      obtain ⟨b', hb', b1, b2⟩ := get (i + 1) b hb
      have := k3 i a' b' ha' hb'
      unfold LWp at this ⊢
      rwa [a2, b1] at this
    obtain ⟨r, r1, r2⟩ := loop_spec (body := F.garside_Valid_b2 n (N : Int) L) (fun s => ∃ k : Nat, s = (k : Int) ∧ 1 ≤ k ∧ k ≤ L.length + 1 ∧ ∀ i a b, i + 1 < k → qs[i]? = some a → qs[i + 1]? = some b → LWp N a b) (fun s => L.length + 1 - s.toNat)
      (fun r => match r with | .inl _ => LWi N qs | .inr b => b = false ∧ ¬ LWi N qs) (fun s ⟨k, h1, h2, h3, h4⟩ => by
        subst h1
        unfold F.garside_Valid_b2
        dsimp only
        by_cases hk : k < L.length
        · have ka : qs[k - 1]? = some (qs[k - 1]'(by omega)) := List.getElem?_eq_getElem _
          have kb : qs[k]? = some (qs[k]'(by omega)) := List.getElem?_eq_getElem _
          have ma := q2 _ (List.getElem_mem (show k - 1 < qs.length by omega))
          have mb := q2 _ (List.getElem_mem (show k < qs.length by omega))
          generalize qs[k - 1]'(by omega) = a at ka ma
          generalize qs[k]'(by omega) = b at kb mb
          have xa := ls_at (N := N) ka
          have xb := ls_at (N := N) kb
          rw [← q1] at xa xb
          rw [decide_eq_true (by omega), cond_true, chk_ok (by omega) (by omega), Option.bind_some, get_at (k := k - 1) (by omega) xa, Option.bind_some, permInverse ma n (by omega) (by omega), Option.bind_some]
          obtain ⟨r, e1, e2⟩ := pairLoop mb ma hN (by omega) xb n (by omega)
          rw [e1, Option.bind_some]
          rcases e2 with ⟨z, rfl, e3⟩ | ⟨rfl, e3⟩
          · dsimp only
            rw [chk_ok (by omega) (by omega), Option.bind_some]
            refine .inl ⟨_, rfl, ⟨k + 1, rfl, by omega, by omega, fun i a' b' hi ha' hb' => ?_⟩, by omega⟩
            by_cases hik : i + 1 < k
            · exact h4 i a' b' hik ha' hb'
            · obtain rfl : i = k - 1 := by omega
              rw [show k - 1 + 1 = k by omega] at hb'
              rw [ka] at ha'; rw [kb] at hb'
              injection ha' with ha'; injection hb' with hb'
              subst ha'; subst hb'
              exact e3
          · refine .inr ⟨_, rfl, rfl, fun h => e3 ?_⟩
            exact h (k - 1) a b ka (by rw [show k - 1 + 1 = k by omega]; exact kb)
        · rw [decide_eq_false (by omega), cond_false]
          refine .inr ⟨_, rfl, fun i a b ha hb => h4 i a b ?_ ha hb⟩
          have := (List.getElem?_eq_some_iff.1 hb).1
          omega) n 1 ⟨1, rfl, by omega, by omega, fun i a b hi => by omega⟩ (by omega)
    rw [r1, Option.bind_some]
    rcases r with _ | b
    · exact ⟨true, rfl, fun _ => hLW.2 r2, fun _ => rfl⟩
    · obtain ⟨rfl, h⟩ := r2
      exact ⟨false, rfl, fun h' => absurd h' (by decide), fun h' => absurd (hLW.1 h') h⟩
  · obtain ⟨rfl, h⟩ := r2
    refine ⟨false, rfl, fun h' => absurd h' (by decide), fun ⟨qs, q1, q2, q3, q4, q5⟩ => absurd (fun x hx => ?_) h⟩
    rw [q1] at hx
    obtain ⟨q, hq, rfl⟩ := List.mem_map.1 hx
    exact ⟨q.1, q.2, q2 q hq, rfl, q4 q hq, q5 q hq⟩
end
theorem garValid {s p : Int} {L : List (List Int)} (hrow : ∀ x ∈ L, x.length ≤ 100000000) (n : Nat) (hn : 300000000 ≤ n) : ∃ r, F.garside_Valid n s p L = some r ∧ (r = true ↔ (1 ≤ s ∧ s ≤ 10 ∧ -200 ≤ p ∧ p ≤ 200 ∧ (s = 1 → p = 0) ∧ L.length ≤ 400 ∧ ∃ qs, NF s.toNat L qs)) := by
  unfold F.garside_Valid
  have no : ∀ {P : Prop}, ¬ P → ∃ r, some false = some r ∧ (r = true ↔ P) := fun h => ⟨false, rfl, fun h' => absurd h' (by decide), fun h' => absurd h' h⟩
  by_cases c1 : s < 1
  · rw [decide_eq_true c1, cond_true]; exact no (by omega)
  rw [decide_eq_false c1, cond_false]
  by_cases c2 : 10 < s
  · rw [decide_eq_true c2, cond_true]; exact no (by omega)
  rw [decide_eq_false c2, cond_false]
  by_cases c3 : p < -200
  · rw [decide_eq_true c3, cond_true]; exact no (by omega)
  rw [decide_eq_false c3, cond_false]
  by_cases c4 : 200 < p
  · rw [decide_eq_true c4, cond_true]; exact no (by omega)
  rw [decide_eq_false c4, cond_false]
  have fin : (s = 1 → p = 0) → ∃ r, (bif decide ((400 : Int) < (L.length : Int)) then some false else F.garside_Valid_j0 n s L) = some r ∧ (r = true ↔ (1 ≤ s ∧ s ≤ 10 ∧ -200 ≤ p ∧ p ≤ 200 ∧ (s = 1 → p = 0) ∧ L.length ≤ 400 ∧ ∃ qs, NF s.toNat L qs)) := by
    intro h1
    by_cases c6 : (400 : Int) < (L.length : Int)
    · rw [decide_eq_true c6, cond_true]; exact no (by omega)
    · rw [decide_eq_false c6, cond_false]
      obtain ⟨N, rfl⟩ : ∃ N : Nat, s = (N : Int) := ⟨s.toNat, by omega⟩
      obtain ⟨r, r1, r2⟩ := garRows (N := N) ⟨by omega, by omega⟩ (L := L) (by omega) hrow n hn
      rw [Int.toNat_natCast]
      exact ⟨r, r1, r2.trans ⟨fun h => ⟨by omega, by omega, by omega, by omega, h1, by omega, h⟩, fun h => h.2.2.2.2.2.2⟩⟩
  by_cases c5 : s = 1
  · rw [decide_eq_true c5, cond_true]
    by_cases c7 : p = 0
    · rw [decide_eq_true c7, Bool.not_true, cond_false]; exact fin (fun _ => c7)
    · rw [decide_eq_false c7, Bool.not_false, cond_true]; exact no (fun h => c7 (h.2.2.2.2.1 c5))
  · rw [decide_eq_false c5, cond_false]; exact fin (fun h => absurd h c5)
theorem nv_p {s : Int} {w : List Int} (hv : okB s w = true) {p : Int} {qs : List Pr} (h : NV s.toNat p qs w) : s = 1 → p = 0 := fun h1 => by
  have hR := okB_rg hv
  have hw : w = [] := by
    cases w with
    | nil => rfl
    | cons x t => have := hR x (by simp); omega
  have hlo := h.lo
  have hhi := h.hi
  rw [hw] at hlo hhi
  simp only [List.length_nil] at hlo hhi
  omega
theorem garCanon {s : Int} {w : List Int} (hv : okB s w = true) {p : Int} {qs : List Pr} (h : NV s.toNat p qs w) (n : Nat) (hn : 300000000 ≤ n) : F.garside_Canonical n s p (ls s.toNat qs) = some (p, p + (qs.length : Int)) := by
  obtain ⟨a1, a2, a3, a4⟩ := okB_iff.1 hv
  have hl := h.len hv
  obtain ⟨r, r1, r2⟩ := garValid (s := s) (p := p) (L := ls s.toNat qs) (fun x hx => by rw [ls_row x hx]; omega) n hn
  have hr : r = true := r2.2 ⟨a1, a2, by omega, by omega, nv_p hv h, by rw [ls_len]; omega, qs, rfl, h.pms, h.lw, h.noId, h.noDl⟩
  unfold F.garside_Canonical
  rw [r1, hr, Option.bind_some, Bool.not_true, cond_false, ls_len, chk_ok (by omega) (by omega)]
  rfl
end Gar
end Go.Proofs.Ytkeaonceaaafcaa
