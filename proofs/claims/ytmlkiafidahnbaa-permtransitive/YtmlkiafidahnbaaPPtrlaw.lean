/- The plain law of PermTransitive. -/
import Derived.Test.YtmlkiafidahnbaaPPtrans2
set_option linter.unusedVariables false
set_option linter.unusedSimpArgs false
namespace Go.Proofs.Ytmlkiafidahnbaa
open Ev
namespace Gar
section
variable {N : Nat} {fs : List (Nat → Nat)}
theorem Rc.trans {a b c : Nat} (h : Rc fs a b) (k : Rc fs b c) : Rc fs a c := by
  induction k with
  | refl => exact h
  | step _ hf ih => exact .step ih hf
theorem Rc.its {f : Nat → Nat} (hf : f ∈ fs) (a : Nat) : ∀ k, Rc fs a (it f k a)
  | 0 => .refl
  | k + 1 => show Rc fs a (f (it f k a)) from .step (Rc.its hf a k) hf
theorem it_lt' {f g : Nat → Nat} (h : Pm N f g) {s : Nat} (hs : s < N) (k : Nat) : it f k s < N := it_lt h hs k
theorem Rc.lt (hf : Pms' N fs) {a b : Nat} (ha : a < N) (h : Rc fs a b) : b < N := by
  induction h with
  | refl => exact ha
  | step _ hm ih => obtain ⟨g, hg⟩ := hf _ hm; exact hg.lt ih
theorem Rc.symm (hf : Pms' N fs) {a b : Nat} (ha : a < N) (h : Rc fs a b) : Rc fs b a := by
  induction h with
  | refl => exact .refl
  | @step x f hx hm ih =>
    obtain ⟨g, hg⟩ := hf _ hm
    have hxN := hx.lt hf ha
    obtain ⟨o1, o2, _, _⟩ := ordN_spec hg hxN
    have h1 := Rc.its hm (f x) (ordN N f x - 1)
    have e : it f (ordN N f x - 1) (f x) = x := by
      have : it f (ordN N f x - 1 + 1) x = it f (ordN N f x - 1) (it f 1 x) := it_add f _ 1 x
      rw [show ordN N f x - 1 + 1 = ordN N f x by omega, o2] at this
      exact this.symm
    rw [e] at h1
    exact h1.trans ih
/-- The conjugates. -/
def cj (f' g' : Nat → Nat) (fs : List (Nat → Nat)) : List (Nat → Nat) := fs.map fun f k => f' (f (g' k))
theorem cj_pms {f' g' : Nat → Nat} (h' : Pm N f' g') (hf : Pms' N fs) : Pms' N (cj f' g' fs) := fun f hfm => by
  obtain ⟨f0, h0, rfl⟩ := List.mem_map.1 hfm
  obtain ⟨g, hg⟩ := hf f0 h0
  exact ⟨_, h'.comp (hg.comp h'.symm)⟩
theorem cj_to {f' g' : Nat → Nat} (h' : Pm N f' g') {a b : Nat} (h : Rc fs a b) : Rc (cj f' g' fs) (f' a) (f' b) := by
  induction h with
  | refl => exact .refl
  | @step x f _ hm ih =>
    have := Rc.step ih (List.mem_map.2 ⟨f, hm, rfl⟩ : (fun k => f' (f (g' k))) ∈ cj f' g' fs)
    rwa [h'.gf] at this
theorem cj_of {f' g' : Nat → Nat} (h' : Pm N f' g') {a z : Nat} (h : Rc (cj f' g' fs) (f' a) z) : ∃ x, z = f' x ∧ Rc fs a x := by
  induction h with
  | refl => exact ⟨a, rfl, .refl⟩
  | @step z c _ hm ih =>
    obtain ⟨x, rfl, hx⟩ := ih
    obtain ⟨f, hfm, rfl⟩ := List.mem_map.1 hm
    exact ⟨f x, by dsimp only; rw [h'.gf], .step hx hfm⟩
theorem cj_all {f' g' : Nat → Nat} (h' : Pm N f' g') (hf : Pms' N fs) (h0 : 0 < N) : (∀ x, x < N → Rc (cj f' g' fs) 0 x) ↔ ∀ x, x < N → Rc fs 0 x := by
  have hc := cj_pms h' hf
  constructor
  · intro h x hx
    have h1 := ((h (f' 0) (h'.lt h0)).symm hc h0).trans (h (f' x) (h'.lt hx))
    obtain ⟨y, e, hy⟩ := cj_of h' h1
    rwa [h'.inj e]
  · intro h x hx
    have h1 := ((h (g' 0) (h'.symm.lt h0)).symm hf h0).trans (h (g' x) (h'.symm.lt hx))
    have := cj_to h' h1
    rwa [h'.fg, h'.fg] at this
theorem short_iff (l : List (List Int)) (n : Nat) (hn : l.length < n) (hl : l.length ≤ 9223372036854775807) : ∃ b, F.law30_short n l = some b ∧ (b = true → l.length ≤ 30 ∧ ∀ p ∈ l, p.length ≤ 30) := by
  unfold F.law30_short
  obtain ⟨r, hr, hq⟩ := loop_spec (body := F.law30_short_b0 n l) (fun s => ∃ k : Nat, s = (k : Int) ∧ k ≤ l.length ∧ ∀ j p, j < k → l[j]? = some p → p.length ≤ 30) (fun s => l.length - s.toNat) (fun r => (∃ v, r = .inl v ∧ ∀ p ∈ l, p.length ≤ 30) ∨ r = .inr false) (fun s ⟨k, e, hk, hc⟩ => by
    subst e
    unfold F.law30_short_b0
    dsimp only
    by_cases hlt : k < l.length
    · have ka : l[k]? = some l[k] := List.getElem?_eq_getElem hlt
      rw [decide_eq_true (by omega), cond_true, get_at rfl ka, Option.bind_some]
      by_cases e : 30 < (l[k].length : Int)
      · rw [decide_eq_true e, cond_true]
        exact .inr ⟨_, rfl, .inr rfl⟩
      · rw [decide_eq_false e, cond_false, chk_ok (by omega) (by omega), Option.bind_some]
        refine .inl ⟨_, rfl, ⟨k + 1, rfl, by omega, fun j p hj hjp => ?_⟩, by omega⟩
        by_cases e2 : j = k
        · subst e2; rw [ka] at hjp; obtain rfl := Option.some.inj hjp; omega
        · exact hc j p (by omega) hjp
    · rw [decide_eq_false (by omega), cond_false]
      refine .inr ⟨_, rfl, .inl ⟨_, rfl, fun p hpm => ?_⟩⟩
      obtain ⟨j, hj⟩ := List.mem_iff_getElem?.1 hpm
      exact hc j p (by have := (List.getElem?_eq_some_iff.1 hj).1; omega) hj) n 0 ⟨0, rfl, by omega, fun j p hj => by omega⟩ (by simpa using hn)
  rw [hr, Option.bind_some]
  rcases hq with ⟨v, rfl, hq⟩ | rfl
  · exact ⟨_, rfl, fun h => ⟨by have := of_decide_eq_true h; omega, hq⟩⟩
  · exact ⟨_, rfl, fun h => by cases h⟩
theorem plainL (L : List (List Int)) (n : Nat) (hl : L.length ≤ 100000) (hn : L.length < n) : F.law30_plain n L = some L := by
  unfold F.law30_plain
  have := count_loop (body := F.law30_plain_b0 n L) (fun k => (L.take k, (k : Int))) L.length (r := (L, (L.length : Int))) (fun k hk => by
    have ka : L[k]? = some (L[k]'hk) := List.getElem?_eq_getElem _
    unfold F.law30_plain_b0
    dsimp only
    rw [decide_eq_true (by omega), cond_true, get_at rfl ka, Option.bind_some, lim_ok (by simp; omega), Option.bind_some, chk_ok (by omega) (by omega), List.take_add_one, ka]
    rfl) (by
    unfold F.law30_plain_b0
    dsimp only
    rw [decide_eq_false (by omega), cond_false, List.take_length]) n hn
  have e : loopN n (F.law30_plain_b0 n L) (([] : List (List Int)), 0) = some (L, (L.length : Int)) := this
  rw [e, Option.bind_some]
/-- The conjugates, as the law lists them; or a list that is no permutation of the points of q. -/
theorem moved_loop {l : List (List Int)} {q : List Int} (hl : l.length ≤ 30) (hp : ∀ p ∈ l, p.length ≤ 30) (hq : q.length ≤ 30) :
    ∃ r, loopN 200000000 (F.law30_PermTransitive_b0 200000000 l q) (([] : List (List Int)), 0) = some r ∧ ((r = .inr true) ∨ ∃ v, (l = [] ∧ r = .inl ([], v)) ∨ ∃ f' g' fs, Pm q.length f' g' ∧ Pms' q.length fs ∧ l = lf q.length fs ∧ r = .inl (lf q.length (cj f' g' fs), v)) := by
  by_cases hne : l = []
  · subst hne
    refine ⟨.inl ([], 0), ?_, .inr ⟨0, .inl ⟨rfl, rfl⟩⟩⟩
    rfl
  rcases perm_cases (p := q) 200000000 (by omega) (by decide) with ⟨hv, f', g', hq', he'⟩ | ⟨hv, _⟩
  · obtain ⟨r, hr, hc⟩ := loop_spec (body := F.law30_PermTransitive_b0 200000000 l q)
      (fun s => ∃ (k : Nat) (fs : List (Nat → Nat)), s = (lf q.length (cj f' g' fs), (k : Int)) ∧ k ≤ l.length ∧ Pms' q.length fs ∧ l.take k = lf q.length fs ∧ fs.length = k)
      (fun s => l.length - s.2.toNat)
      (fun r => r = .inr true ∨ ∃ v fs, Pms' q.length fs ∧ l = lf q.length fs ∧ r = .inl (lf q.length (cj f' g' fs), v))
      (fun s ⟨k, fs, e, hk, hf, ht, hfl⟩ => by
        subst e
        unfold F.law30_PermTransitive_b0
        dsimp only
        by_cases hlt : k < l.length
        · have ka : l[k]? = some l[k] := List.getElem?_eq_getElem hlt
          have hpk := hp _ (List.getElem_mem hlt)
          rw [decide_eq_true (by omega), cond_true, get_at rfl ka, Option.bind_some]
          rcases perm_cases (p := l[k]) 200000000 (by omega) (by decide) with ⟨hw, f, g, hpm, he⟩ | ⟨hw, _⟩
          · rw [hw, Option.bind_some, Bool.not_true, cond_false, hv, Option.bind_some, Bool.not_true, cond_false]
            by_cases e : l[k].length = q.length
            · rw [e] at hpm he
              have hi : F.perm_Inverse 200000000 q = some (li q.length g') := by
                have := permInverse hq' 200000000 (by omega) (by omega)
                rwa [← he'] at this
              have m1 : F.perm_Mul 200000000 (li q.length g') l[k] = some (li q.length (fun k => f (g' k)), 0) := by
                have := mul_eq hq'.symm hpm 200000000 (by omega) (by omega)
                rwa [← he] at this
              have m2 : F.perm_Mul 200000000 (li q.length (fun k => f (g' k))) q = some (li q.length (fun k => f' (f (g' k))), 0) := by
                have := mul_eq (hpm.comp hq'.symm) hq' 200000000 (by omega) (by omega)
                rwa [← he'] at this
              rw [decide_eq_true (by omega), Bool.not_true, cond_false, hi, Option.bind_some, m1, Option.bind_some]
              dsimp only
              rw [m2, Option.bind_some]
              dsimp only
              rw [decide_eq_true (rfl : (0 : Int) = 0), Bool.not_true, cond_false, cond_false, lim_ok (by simp [lf, cj]; omega), Option.bind_some, chk_ok (by omega) (by omega), Option.bind_some]
              refine .inl ⟨_, rfl, ⟨k + 1, fs ++ [f], ?_, by omega, fun x hx => ?_, ?_, by simp [hfl]⟩, by dsimp only; omega⟩
              · simp [lf, cj]
              · rcases List.mem_append.1 hx with hx | hx
                · exact hf x hx
                · rw [List.mem_singleton] at hx; subst hx; exact ⟨g, hpm⟩
              · rw [List.take_add_one, ka, ht, he]
                unfold lf
                rw [List.map_append]; rfl
            · rw [decide_eq_false (by omega), Bool.not_false, cond_true]
              exact .inr ⟨_, rfl, .inl rfl⟩
          · rw [hw, Option.bind_some, Bool.not_false, cond_true]
            exact .inr ⟨_, rfl, .inl rfl⟩
        · rw [decide_eq_false (by omega), cond_false]
          refine .inr ⟨_, rfl, .inr ⟨_, fs, hf, ?_, rfl⟩⟩
          rw [← ht, List.take_of_length_le (by omega)]) 200000000 (lf q.length (cj f' g' []), ((0 : Nat) : Int)) ⟨0, [], rfl, by omega, fun x hx => absurd hx (by simp), rfl, rfl⟩ (by dsimp only; omega)
    refine ⟨r, hr, ?_⟩
    rcases hc with hc | ⟨v, fs, h1, h2, h3⟩
    · exact .inl hc
    · exact .inr ⟨v, .inr ⟨f', g', fs, hq', h1, h2, h3⟩⟩
  · obtain ⟨p, r, rfl⟩ := List.exists_cons_of_ne_nil hne
    refine ⟨.inr true, ?_, .inl rfl⟩
    have hpk := hp p (by simp)
    have : F.law30_PermTransitive_b0 200000000 (p :: r) q (([] : List (List Int)), 0) = some (.inr (.inr true)) := by
      unfold F.law30_PermTransitive_b0
      dsimp only
      rw [decide_eq_true (by simp), cond_true, get0 (x := p) rfl, Option.bind_some]
      rcases perm_cases (p := p) 200000000 (by omega) (by decide) with ⟨hw, _⟩ | ⟨hw, _⟩
      · rw [hw, Option.bind_some, Bool.not_true, cond_false, hv]; rfl
      · rw [hw]; rfl
    rw [loopN, this]
    rfl
end
end Gar
open Gar in
theorem law30_PermTransitive_true (x0 : List (List Int)) (x1 : List Int) (o0 : Ev.Sh.ok (.sl (.sl (.int .i64))) x0) (o1 : Ev.Sh.ok (.sl (.int .i64)) x1) (n0 : x0.length ≤ 9223372036854775807) (n1 : x1.length ≤ 9223372036854775807) : ∃ n, F.law30_PermTransitive n x0 x1 = some true := by
  by_cases hb : x0.length ≤ 100000000
  case neg =>
    refine ⟨x0.length + 40 + 60, ?_⟩
    unfold F.law30_PermTransitive
    rw [awake30g, Option.bind_some, Bool.not_true, cond_false]
    obtain ⟨b, hb1, hb2⟩ := short_iff x0 (x0.length + 40 + 60) (by omega) n0
    rw [hb1, Option.bind_some]
    cases b with
    | false => rfl
    | true => have := (hb2 rfl).1; omega
  refine ⟨200000000, ?_⟩
  unfold F.law30_PermTransitive
  rw [awake30, Option.bind_some, Bool.not_true, cond_false]
  obtain ⟨b, hb1, hb2⟩ := short_iff x0 200000000 (by omega) (by omega)
  rw [hb1, Option.bind_some]
  cases b with
  | false => rfl
  | true =>
    obtain ⟨hl, hp⟩ := hb2 rfl
    rw [Bool.not_true, cond_false]
    by_cases hq : 30 < (x1.length : Int)
    · rw [decide_eq_true hq]; rfl
    rw [decide_eq_false hq, cond_false]
    have tr_same : ∀ {a b : Bool} {P : Prop}, (a = true ↔ P) → (b = true ↔ P) → a = b := fun h1 h2 => by rw [Bool.eq_iff_iff, h1, h2]
    obtain ⟨t, ht1, ht2⟩ := ptrans (l := x0) (by omega) (fun p hpm => by have := hp p hpm; omega)
    obtain ⟨t', ht3, ht4⟩ := rtrans (l := x0) (by omega) (fun p hpm => by have := hp p hpm; omega)
    obtain rfl := tr_same ht2 ht4
    rw [ht1, Option.bind_some, plainL x0 _ (by omega) (by omega), Option.bind_some, ht3, Option.bind_some, beq_self_eq_true, Bool.not_true, cond_false]
    obtain ⟨r, hr, hc⟩ := moved_loop (l := x0) (q := x1) hl hp (by omega)
    rw [hr, Option.bind_some]
    rcases hc with rfl | ⟨v, ⟨rfl, rfl⟩ | ⟨f', g', fs, h1, h2, h3, rfl⟩⟩
    · rfl
    · dsimp only
      rw [ht1, Option.bind_some, beq_self_eq_true]
    · dsimp only
      have hfl : fs.length ≤ 30 := by rw [h3, lf_len] at hl; exact hl
      obtain ⟨u, hu1, hu2⟩ := ptrans (l := lf x1.length (cj f' g' fs)) (by simp [lf, cj]; omega) (fun p hpm => by
        unfold lf at hpm
        obtain ⟨f, _, rfl⟩ := List.mem_map.1 hpm
        rw [li_len]; omega)
      rw [hu1, Option.bind_some]
      have : u = t := by
        refine tr_same hu2 (ht2.trans ?_)
        rw [h3]
        by_cases h0 : 0 < x1.length ∧ fs ≠ []
        · rw [tr_iff h0.1 h0.2 h2, tr_iff h0.1 (fun e => h0.2 (by simpa [cj] using e)) (cj_pms h1 h2), cj_all h1 h2 h0.1]
        · have none : ∀ fs' : List (Nat → Nat), (fs' = [] ↔ fs = []) → ¬ Tr (lf x1.length fs') := fun fs' he h => by
            obtain ⟨p0, k1, k2, _⟩ := tr_ok h
            by_cases e : fs' = []
            · rw [e] at k1; cases k1
            · obtain ⟨f, tl, rfl⟩ := List.exists_cons_of_ne_nil e
              have : p0 = li x1.length f := (Option.some.inj k1).symm
              rw [this, li_len] at k2
              exact h0 ⟨k2, fun h => e (he.2 h)⟩
          exact ⟨fun h => absurd h (none _ Iff.rfl), fun h => absurd h (none _ (by simp [cj]))⟩
      rw [this, beq_self_eq_true]
end Go.Proofs.Ytmlkiafidahnbaa
