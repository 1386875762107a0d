/- FORM: the normal form of a braid. -/
import Derived.Test.YtkeaonceaaafcaaPGset
import Derived.Test.YtkeaonceaaafcaaPBraid
set_option linter.unusedVariables false
set_option linter.unusedSimpArgs false
namespace Go.Proofs.Ytkeaonceaaafcaa
open Ev
namespace Gar
section
variable {N : Nat}
/-- A normal form of the braid b: valid but for its numbers. -/
structure NV (N : Nat) (p : Int) (qs : List Pr) (b : List Int) : Prop where
  pms : Pms N qs
  lw : LWi N qs
  noId : ∀ q ∈ qs, q.1 ≠ fun k => k
  noDl : ∀ q ∈ qs, q.1 ≠ dl N
  ns : ∀ H, Wd N (dl N) H → NS N H p (fsts qs) b
  lo : -(b.length : Int) ≤ p
  hi : p + (qs.length : Int) ≤ b.length
theorem ds_all {f g : Nat → Nat} (h : Pm N f g) (hd : ∀ j, 1 ≤ j → j < N → ds f j) : f = dl N := by
  have h1 : (fun k => f (dl N k)) = fun k => k := by
    have hp : Pm N (fun k => f (dl N k)) (fun k => dl N (g k)) := ⟨fun k hk => by rw [dl_pm.fix k hk, h.fix k hk], fun k => by rw [h.gf, dl_dl], fun k => by rw [dl_dl, h.fg]⟩
    refine hp.noDs fun j j1 j2 j3 => ?_
    have := hd (N - j) (by omega) (by omega)
    unfold ds at this j3
    dsimp only at j3
    rw [dl_lt j2, dl_lt (show j - 1 < N by omega), show N - 1 - j = N - j - 1 by omega, show N - 1 - (j - 1) = N - j by omega] at j3
    omega
  funext k
  have := congrFun h1 (dl N k)
  rwa [dl_dl] at this
theorem dl_of_next {a b : Pr} (ha : Pm N a.1 a.2) (hL : LWp N a b) (hb : b.1 = dl N) : a.1 = dl N := by
  have h1 : a.2 = dl N := ds_all ha.symm fun j j1 j2 => hL j j1 j2 (by rw [hb]; exact dl_ds j1 j2)
  rw [h1] at ha
  exact ha.symm.uniq dl_pm
theorem noDl_of {qs : List Pr} (h : Pms N qs) (hL : LWi N qs) (h0 : ∀ q, qs[0]? = some q → q.1 ≠ dl N) : ∀ q ∈ qs, q.1 ≠ dl N := by
  have key : ∀ (k : Nat) (q : Pr), qs[k]? = some q → q.1 ≠ dl N := by
    intro k
    induction k with
    | zero => exact h0
    | succ k ih =>
      intro q hq he
      have hlt := (List.getElem?_eq_some_iff.1 hq).1
      have ka : qs[k]? = some (qs[k]'(by omega)) := List.getElem?_eq_getElem _
      exact ih _ ka (dl_of_next (h _ (List.getElem_mem _)) (hL k _ q ka hq) he)
  intro q hq
  obtain ⟨k, hk⟩ := List.mem_iff_getElem?.1 hq
  exact key k q hk
theorem Pms.drop1 {q : Pr} {qs : List Pr} (h : Pms N (q :: qs)) : Pms N qs := fun x hx => h x (by simp [hx])
theorem LWi.tail {q : Pr} {qs : List Pr} (h : LWi N (q :: qs)) : LWi N qs := fun i a b ha hb => h (i + 1) a b (by simpa using ha) (by simpa using hb)
/-- Half twists at the front are counted. -/
theorem front_eq {qs : List Pr} (h : Pms N qs) (hL : LWi N qs) (hI : ∀ q ∈ qs, q.1 ≠ fun k => k) (n : Nat) (hN : N ≤ 10) (hl : qs.length ≤ 1000) (hn : 3000 ≤ n) (p : Int) (hp : -10000 ≤ p ∧ p ≤ 10000) :
    ∃ p' qs', loopN n (F.garside_Form_b3 n (li N (dl N))) (p, ls N qs) = some (p', ls N qs') ∧ Pms N qs' ∧ LWi N qs' ∧ (∀ q ∈ qs', q.1 ≠ fun k => k) ∧ (∀ q ∈ qs', q.1 ≠ dl N) ∧ p' + (qs'.length : Int) = p + qs.length ∧ p ≤ p' ∧ (∀ H b, Wd N (dl N) H → NS N H p (fsts qs) b → NS N H p' (fsts qs') b) := by
  have key : ∀ (m : Nat) (qs : List Pr) (k : Nat) (p : Int), qs.length = m → m < k → Pms N qs → LWi N qs → (∀ q ∈ qs, q.1 ≠ fun k => k) → qs.length ≤ 1000 → -10000 ≤ p → p + qs.length ≤ 11000 → ∃ p' qs', loopN k (F.garside_Form_b3 n (li N (dl N))) (p, ls N qs) = some (p', ls N qs') ∧ Pms N qs' ∧ LWi N qs' ∧ (∀ q ∈ qs', q.1 ≠ fun k => k) ∧ (∀ q ∈ qs', q.1 ≠ dl N) ∧ p' + (qs'.length : Int) = p + qs.length ∧ p ≤ p' ∧ (∀ H b, Wd N (dl N) H → NS N H p (fsts qs) b → NS N H p' (fsts qs') b) := by
    intro m
    induction m with
    | zero =>
      intro qs k p hm hk a1 a2 a3 a4 a5 a6
      obtain ⟨k, rfl⟩ : ∃ k', k = k' + 1 := ⟨k - 1, by omega⟩
      obtain rfl := List.eq_nil_of_length_eq_zero hm
      refine ⟨p, [], ?_, a1, a2, a3, by simp, rfl, Int.le_refl _, fun H b _ h => h⟩
      simp only [loopN]
      unfold F.garside_Form_b3
      dsimp only
      rw [ls_len, decide_eq_false (by simp), cond_false]; rfl
    | succ m ih =>
      intro qs k p hm hk a1 a2 a3 a4 a5 a6
      obtain ⟨k, rfl⟩ : ∃ k', k = k' + 1 := ⟨k - 1, by omega⟩
      cases qs with
      | nil => simp at hm
      | cons q qs =>
      have hq := a1 q (by simp)
      obtain ⟨r, e1, e2⟩ := equalP (a := li N q.1) (b := li N (dl N)) n (by rw [li_len]; omega) (by rw [li_len]; omega)
      have hb : F.garside_Form_b3 n (li N (dl N)) (p, ls N (q :: qs)) = cond r (some (.inl (p + 1, ls N qs))) (some (.inr (p, ls N (q :: qs)))) := by
        unfold F.garside_Form_b3
        dsimp only
        simp only [List.length_cons] at a4 a6
        rw [ls_len, List.length_cons, decide_eq_true (by omega), cond_true, show Ev.get (ls N (q :: qs)) 0 = some (li N q.1) from get_at (k := 0) rfl (ls_at (q := q) (by simp)), Option.bind_some, e1, Option.bind_some, chk_ok (by omega) (by omega), Option.bind_some, cut_ok (by omega) (by omega) (by omega), Option.bind_some]
        rfl
      simp only [loopN, hb]
      have a4' := a4; have a6' := a6
      simp only [List.length_cons] at hm a4' a6'
      cases r with
      | true =>
        have hqd : q.1 = dl N := li_eq hq.fix dl_pm.fix (e2.1 rfl)
        obtain ⟨p', qs', b1, b2, b3, b4, b5, b6, b7, b8⟩ := ih qs k (p + 1) (by omega) (by omega) a1.drop1 a2.tail (fun x hx => a3 x (by simp [hx])) (by omega) (by omega) (by omega)
        refine ⟨p', qs', by simpa using b1, b2, b3, b4, b5, by rw [b6, List.length_cons]; omega, by omega, fun H b hH hNS => b8 H b hH ?_⟩
        have : fsts (q :: qs) = dl N :: fsts qs := by unfold fsts; rw [List.map_cons, hqd]
        rw [this] at hNS
        exact hNS.twist hH
      | false =>
        refine ⟨p, q :: qs, by simp, a1, a2, a3, noDl_of a1 a2 fun x hx he => ?_, rfl, Int.le_refl _, fun H b _ h => h⟩
        simp only [List.getElem?_cons_zero] at hx
        injection hx with hx
        subst hx
        have := e2.2 (by rw [he]); cases this
  exact key _ qs n p rfl (by omega) h hL hI hl hp.1 (by omega)
/-- All factors are turned around. -/
theorem turns_eq {qs : List Pr} (h : Pms N qs) (n : Nat) (hN : N ≤ 10) (hl : qs.length ≤ 1000) (hn : 3000 ≤ n) :
    loopN n (F.garside_Form_b2 n (ls N qs)) (0, ls N qs) = some ((qs.length : Int), ls N (qs.map fun q => (tn N q.1, tn N q.2))) := by
  have := count_loop (body := F.garside_Form_b2 n (ls N qs)) (fun k => ((k : Int), (ls N (qs.map fun q => (tn N q.1, tn N q.2))).take k ++ (ls N qs).drop k)) qs.length (r := ((qs.length : Int), ls N (qs.map fun q => (tn N q.1, tn N q.2)))) (fun k hk => by
    unfold F.garside_Form_b2
    dsimp only
    have ka : qs[k]? = some (qs[k]'hk) := List.getElem?_eq_getElem _
    have hlT : ((ls N (qs.map fun q => (tn N q.1, tn N q.2))).take k).length = k := by rw [List.length_take, ls_len, List.length_map]; omega
    rw [ls_len, decide_eq_true (by omega), cond_true]
    rw [get_at (k := k) (x := li N (qs[k]'hk).1) rfl (by rw [List.getElem?_append_right (by omega), hlT, Nat.sub_self, List.getElem?_drop, Nat.add_zero]; exact ls_at ka), Option.bind_some]
    rw [turn_eq (h _ (List.getElem_mem _)) n (by omega) (by omega), Option.bind_some, chk_ok (by omega) (by omega), Option.bind_some]
    congr 3
    apply List.ext_getElem?
    intro j
    rw [show (k : Int).toNat = k by omega, List.getElem?_set]
    by_cases e : k = j
    · subst e
      rw [if_pos rfl, if_pos (by rw [List.length_append, hlT, List.length_drop, ls_len]; omega)]
      rw [List.getElem?_append_left (by rw [List.length_take, ls_len, List.length_map]; omega), List.getElem?_take_of_lt (by omega), ls_at (q := (tn N (qs[k]'hk).1, tn N (qs[k]'hk).2)) (by rw [List.getElem?_map, ka]; rfl)]
    · rw [if_neg e]
      have hlT2 : ((ls N (qs.map fun q => (tn N q.1, tn N q.2))).take (k + 1)).length = k + 1 := by rw [List.length_take, ls_len, List.length_map]; omega
      by_cases e2 : j < k
      · rw [List.getElem?_append_left (by omega), List.getElem?_append_left (by omega), List.getElem?_take_of_lt e2, List.getElem?_take_of_lt (by omega)]
      · rw [List.getElem?_append_right (by omega), List.getElem?_append_right (by omega), hlT, hlT2, List.getElem?_drop, List.getElem?_drop]
        congr 1; omega) (by
    unfold F.garside_Form_b2
    dsimp only
    rw [ls_len, decide_eq_false (by omega), cond_false, List.take_of_length_le (by rw [ls_len, List.length_map]; omega), List.drop_of_length_le (by rw [ls_len]; omega), List.append_nil]) n (by omega)
  simpa using this
/-- One letter: the last part. -/
theorem letter_eq {qs : List Pr} {f g : Nat → Nat} (h : Pms N qs) (hf : Pm N f g) (n : Nat) (hN : 1 ≤ N ∧ N ≤ 10) (hl : qs.length ≤ 900) (hn : 300000000 ≤ n) {p : Int} (hp : -10000 ≤ p ∧ p ≤ 10000) {k i : Nat} (hk : k ≤ 1000) (h1 : 1 ≤ i) (h2 : i < N) (q : Bool) :
    ∃ p' qs', F.garside_Form_j1 n (li N (dl N)) (k : Int) (li N f) (i : Int) q p (ls N qs) = some (.inl (((k + 1 : Nat) : Int), p', ls N qs')) ∧ Pms N qs' ∧ LWi N qs' ∧ (∀ q ∈ qs', q.1 ≠ fun k => k) ∧ (∀ q ∈ qs', q.1 ≠ dl N) ∧ p' + (qs'.length : Int) ≤ p + qs.length + 1 ∧ p ≤ p' ∧ (∀ H b, Wd N (dl N) H → NS N H p (fsts qs ++ [fun k => f (tr i k)]) b → NS N H p' (fsts qs') b) := by
  have hf2 := hf.ex h1 h2
  have hP : Pms N (qs ++ [((fun k => f (tr i k)), fun k => tr i (g k))]) := fun x hx => by
    rcases List.mem_append.1 hx with a | a
    · exact h x a
    · simp only [List.mem_singleton] at a; subst a; exact hf2
  obtain ⟨q1, a1, a2, a3, a4, a5, a6⟩ := settle_eq hP n hN (by simp; omega) hn
  simp only [List.length_append, List.length_cons, List.length_nil] at a3
  obtain ⟨p', q2, b1, b2, b3, b4, b5, b6, b7, b8⟩ := front_eq a2 a4 a5 n hN.2 (by omega) (by omega) p hp
  refine ⟨p', q2, ?_, b2, b3, b4, b5, by omega, b7, fun H b hH hNS => b8 H b hH (a6 H p b ?_)⟩
  · unfold F.garside_Form_j1
    have hk1 : ((i : Int) - 1).toNat = i - 1 := by omega
    have hk2 : (i : Int).toNat = i := by omega
    rw [chk_ok (by omega) (by omega)]
    simp only [Option.bind_some]
    rw [get_li (by omega) (by omega)]
    simp only [Option.bind_some]
    rw [get_li (f := f) (z := (i : Int) - 1) (by omega) (by omega)]
    simp only [Option.bind_some]
    rw [hk1, hk2]
    have e3 : ∃ x, Ev.get ((li N f).set (i - 1) ((f i : Nat) : Int)) (i : Int) = some x := ⟨_, get_ok (by omega) (by rw [List.length_set, li_len]; omega)⟩
    obtain ⟨x, e3⟩ := e3
    rw [e3]
    simp only [Option.bind_some]
    rw [li_sw h1 h2, ls_len, lim_ok (by omega), Option.bind_some]
    have e4 : ls N qs ++ [li N fun k => f (tr i k)] = ls N (qs ++ [((fun k => f (tr i k)), fun k => tr i (g k))]) := by unfold ls; simp
    rw [e4, a1, Option.bind_some, b1, Option.bind_some]
    dsimp only
    rw [chk_ok (by omega) (by omega), Option.bind_some]; rfl
  · unfold fsts at hNS ⊢
    simpa using hNS
theorem form_eq {s : Int} {w : List Int} (hv : okB s w = true) (n : Nat) (hn : 300000000 ≤ n) : ∃ p qs, F.garside_Form n s w = some (s, p, ls s.toNat qs, 0) ∧ NV s.toNat p qs w := by
  obtain ⟨h1, h2, h3, h4⟩ := okB_iff.1 hv
  obtain ⟨N, rfl⟩ : ∃ N : Nat, s = (N : Int) := ⟨s.toNat, by omega⟩
  rw [show ((N : Int)).toNat = N by omega]
  unfold F.garside_Form
  rw [braidValid n (by omega), Option.bind_some, hv, Bool.not_true, cond_false, halfTwist_eq n (by omega) (by omega), Option.bind_some]
  obtain ⟨r, hr1, hr2⟩ := loop_spec (body := F.garside_Form_b0 n (N : Int) w (li N (dl N)))
    (fun s => ∃ k p qs, s = (((k : Nat) : Int), p, ls N qs) ∧ k ≤ w.length ∧ NV N p qs (w.take k))
    (fun s => w.length - s.1.toNat)
    (fun r => ∃ k p qs, r = (k, p, ls N qs) ∧ NV N p qs w)
    (fun s ⟨k, p, qs, e, hk, hV⟩ => by
      subst e
      have hlo := hV.lo; have hhi := hV.hi
      rw [List.length_take, Nat.min_eq_left hk] at hlo hhi
      unfold F.garside_Form_b0
      dsimp only
      by_cases hlt : k < w.length
      · have ht : w.take (k + 1) = w.take k ++ [w[k]] := by rw [List.take_add_one, List.getElem?_eq_getElem hlt]; rfl
        have hx := h4 w[k] (List.getElem_mem hlt)
        rw [decide_eq_true (by omega), cond_true, get_nat, List.getElem?_eq_getElem hlt, Option.bind_some, identity_eq n (by omega) (by omega), Option.bind_some]
        generalize w[k] = x at ht hx
        rw [chk_ok (by omega) (by omega), Option.bind_some]
        have hlen1 : ((w.take (k + 1)).length : Int) = (k : Int) + 1 := by rw [List.length_take, Nat.min_eq_left (by omega)]; omega
        left
        by_cases hneg : x < 0
        · obtain ⟨i, rfl⟩ : ∃ i : Nat, x = -(i : Int) := ⟨(-x).toNat, by omega⟩
          rw [decide_eq_true hneg, cond_true, chk_ok (by omega) (by omega), Option.bind_some, turns_eq hV.pms n (by omega) (by omega) (by omega), Option.bind_some]
          dsimp only
          rw [clone_li n (by omega), Option.bind_some, chk_ok (by omega) (by omega), Option.bind_some]
          have ei : (N : Int) - max (-(i : Int)) (- -(i : Int)) = ((N - i : Nat) : Int) := by omega
          rw [ei]
          have hP : Pms N (qs.map fun q => (tn N q.1, tn N q.2)) := fun q hq => by
            obtain ⟨q0, h0, rfl⟩ := List.mem_map.1 hq
            exact (hV.pms q0 h0).tn
          obtain ⟨p', q2, b1, b2, b3, b4, b5, b6, b7, b8⟩ := letter_eq (f := dl N) hP dl_pm n ⟨by omega, by omega⟩ (by rw [List.length_map]; omega) hn (p := p - 1) (by omega) (k := k) (by omega) (i := N - i) (by omega) (by omega) true
          rw [b1]
          rw [List.length_map] at b6
          refine ⟨_, rfl, ⟨k + 1, p', q2, rfl, by omega, ⟨b2, b3, b4, b5, fun H hH => b8 H _ hH ?_, by rw [hlen1]; omega, by rw [hlen1]; omega⟩⟩, by dsimp only; omega⟩
          have := (hV.ns H hH).down hH (i := i) (by omega) (by omega)
          rw [ht]
          unfold fsts at this ⊢
          simpa [List.map_map, Function.comp_def] using this
        · obtain ⟨i, rfl⟩ : ∃ i : Nat, x = (i : Int) := ⟨x.toNat, by omega⟩
          rw [decide_eq_false hneg, cond_false, show max (i : Int) (-(i : Int)) = (i : Int) by omega]
          obtain ⟨p', q2, b1, b2, b3, b4, b5, b6, b7, b8⟩ := letter_eq (f := fun k => k) hV.pms (Pm.id N) n ⟨by omega, by omega⟩ (by omega) hn (p := p) (by omega) (k := k) (by omega) (i := i) (by omega) (by omega) false
          rw [b1]
          refine ⟨_, rfl, ⟨k + 1, p', q2, rfl, by omega, ⟨b2, b3, b4, b5, fun H hH => b8 H _ hH ?_, by rw [hlen1]; omega, by rw [hlen1]; omega⟩⟩, by dsimp only; omega⟩
          rw [ht]
          exact (hV.ns H hH).up (by omega) (by omega)
      · rw [decide_eq_false (by omega), cond_false]
        right
        refine ⟨_, rfl, _, p, qs, rfl, ?_⟩
        rw [List.take_of_length_le (by omega)] at hV
        exact hV) n (0, 0, ([] : List (List Int))) ⟨0, 0, [], rfl, by omega, ⟨fun q hq => by simp at hq, fun i a b ha => by simp at ha, fun q hq => by simp at hq, fun q hq => by simp at hq, fun H _ => NS.nil, by simp, by simp⟩⟩ (by dsimp only; omega)
  obtain ⟨k, p, qs, rfl, hV⟩ := hr2
  exact ⟨p, qs, by rw [hr1, Option.bind_some], hV⟩
theorem form_bad {s : Int} {w : List Int} (hv : okB s w = false) (n : Nat) (hn : w.length < n) : F.garside_Form n s w = some (0, 0, [], 1) := by
  unfold F.garside_Form
  rw [braidValid n hn, Option.bind_some, hv]; rfl
end
end Gar
end Go.Proofs.Ytkeaonceaaafcaa
