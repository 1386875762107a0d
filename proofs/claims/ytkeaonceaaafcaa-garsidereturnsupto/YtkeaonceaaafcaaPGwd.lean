/- Words of permutations, as the program and the reference write them; the word of a normal form. -/
import Derived.Test.YtkeaonceaaafcaaPGhomB
set_option linter.unusedVariables false
set_option linter.unusedSimpArgs false
namespace Go.Proofs.Ytkeaonceaaafcaa
open Ev
namespace Gar
section
variable {N : Nat}
/-- The descents, ascending. -/
def dsl (N : Nat) (f : Nat → Nat) : List Nat := (List.range N).filter fun i => decide (1 ≤ i ∧ f i < f (i - 1))
theorem mem_dsl {f : Nat → Nat} {i : Nat} : i ∈ dsl N f ↔ i < N ∧ 1 ≤ i ∧ ds f i := by
  unfold dsl ds
  rw [List.mem_filter, List.mem_range, decide_eq_true_eq]
theorem dsl_succ (f : Nat → Nat) (k : Nat) : dsl (k + 1) f = dsl k f ++ if 1 ≤ k ∧ f k < f (k - 1) then [k] else [] := by
  unfold dsl
  rw [List.range_succ, List.filter_append]
  congr 1
  by_cases h : 1 ≤ k ∧ f k < f (k - 1)
  · rw [if_pos h, List.filter_cons, if_pos (decide_eq_true h)]; rfl
  · rw [if_neg h, List.filter_cons, if_neg (fun e => h (of_decide_eq_true e))]; rfl
theorem dsl_len (f : Nat → Nat) : ∀ k, (dsl k f).length ≤ k := fun k => by
  unfold dsl
  have := List.length_filter_le (fun i => decide (1 ≤ i ∧ f i < f (i - 1))) (List.range k)
  rwa [List.length_range] at this
theorem dsl_least {f : Nat → Nat} {i : Nat} {t : List Nat} (h : dsl N f = i :: t) : ∀ j, 1 ≤ j → j < i → ¬ ds f j := by
  intro j h1 h2 h3
  have hp : (dsl N f).Pairwise (· < ·) := List.Pairwise.filter _ List.pairwise_lt_range
  have hi : i ∈ dsl N f := by rw [h]; simp
  have hj : j ∈ dsl N f := mem_dsl.2 ⟨by have := (mem_dsl.1 hi).1; omega, h1, h3⟩
  rw [h] at hp hj
  rcases List.mem_cons.1 hj with e | e
  · omega
  · have := List.rel_of_pairwise_cons hp e; omega
theorem letters_eq (f : Nat → Nat) (n : Nat) (hl : N ≤ 100) (hn : N < n) : F.ref34_Letters n (li N f) = some (pos (dsl N f)) := by
  unfold F.ref34_Letters
  have := count_loop (body := F.ref34_Letters_b0 n (li N f)) (fun k => (pos (dsl (k + 1) f), ((k + 1 : Nat) : Int))) (N - 1) (r := (pos (dsl (N - 1 + 1) f), ((N - 1 + 1 : Nat) : Int))) (fun k hk => by
    have hle := dsl_len f (k + 1)
    unfold F.ref34_Letters_b0
    dsimp only
    rw [li_len, decide_eq_true (by omega), cond_true, chk_ok (by omega) (by omega), Option.bind_some, get_li (by omega) (by omega), Option.bind_some, get_li (by omega) (by omega), Option.bind_some, dsl_succ f (k + 1), show (((k + 1 : Nat) : Int) - 1).toNat = k by omega, show ((k + 1 : Nat) : Int).toNat = k + 1 by omega, show k + 1 - 1 = k by omega]
    by_cases hd : f (k + 1) < f k
    · rw [decide_eq_true (by omega), cond_true, lim_ok (by simp [pos]; omega), Option.bind_some, chk_ok (by omega) (by omega), if_pos ⟨by omega, hd⟩, pos_app]
      rfl
    · rw [decide_eq_false (by omega), cond_false, chk_ok (by omega) (by omega), if_neg (fun e => hd e.2), List.append_nil]
      rfl) (by
    unfold F.ref34_Letters_b0
    dsimp only
    rw [li_len, decide_eq_false (by omega), cond_false]) n (by omega)
  have e0 : (pos (dsl (0 + 1) f), ((0 + 1 : Nat) : Int)) = (([] : List Int), (1 : Int)) := rfl
  rw [e0] at this
  rw [this, Option.bind_some]
  cases N with
  | zero => rfl
  | succ N => rfl
/-- The word that takes the least descent first. -/
inductive Lw (N : Nat) : (Nat → Nat) → List Nat → Prop
  | nil : Lw N (fun k => k) []
  | cons {f : Nat → Nat} {i : Nat} {w : List Nat} : 1 ≤ i → i < N → ds f i → (∀ j, 1 ≤ j → j < i → ¬ ds f j) → Lw N (fun k => f (tr i k)) w → Lw N f (i :: w)
theorem Lw.wd {f : Nat → Nat} {w : List Nat} (h : Lw N f w) : Wd N f w := by
  induction h with
  | nil => exact .nil
  | cons h1 h2 h3 _ _ ih => exact .cons h1 h2 h3 ih
theorem Lw.uniq {f : Nat → Nat} {w w' : List Nat} (h : Lw N f w) (h' : Lw N f w') : w = w' := by
  induction h generalizing w' with
  | nil =>
    generalize e : (fun k : Nat => k) = f at h'
    cases h' with
    | nil => rfl
    | cons h1 h2 h3 _ _ => subst e; exact absurd h3 (id_ds h1)
  | @cons f i w h1 h2 h3 h4 h5 ih =>
    cases h' with
    | nil => exact absurd h3 (id_ds h1)
    | @cons _ i' w' k1 k2 k3 k4 k5 =>
      have : i = i' := by
        rcases Nat.lt_trichotomy i i' with h | h | h
        · exact absurd h3 (k4 i h1 h)
        · exact h
        · exact absurd k3 (h4 i' k1 h)
      subst this
      rw [ih k5]
theorem refWord_eq {f g : Nat → Nat} (h : Pm N f g) (n : Nat) (hN : N ≤ 100) (hn : N * N + N < n) : ∃ w, F.ref34_Word n (li N f) = some (pos w) ∧ Lw N f w := by
  unfold F.ref34_Word
  have hiN := inv_lst_le (N := N) f
  have hNN : N * N ≤ 100 * 100 := Nat.mul_le_mul hN hN
  obtain ⟨r, hr1, hr2⟩ := loop_spec (body := F.ref34_Word_b0 n) (fun s => ∃ u f' g', s = (pos u, li N f') ∧ Pm N f' g' ∧ u.length + inv (lst N f') = inv (lst N f) ∧ ∀ w, Lw N f' w → Lw N f (u ++ w)) (fun s => inv (lst N f) - s.1.length)
    (fun r => ∃ u, r.1 = pos u ∧ Lw N f u) (fun s ⟨u, f', g', e1, e2, e3, e4⟩ => by
      subst e1
      unfold F.ref34_Word_b0
      dsimp only
      rw [letters_eq f' n hN (by omega), Option.bind_some]
      cases hd : dsl N f' with
      | nil =>
        right
        refine ⟨_, rfl, u, rfl, ?_⟩
        have hid : f' = fun k => k := e2.noDs fun i i1 i2 i3 => by
          have : i ∈ dsl N f' := mem_dsl.2 ⟨i2, i1, i3⟩
          rw [hd] at this; simp at this
        have := e4 [] (hid ▸ .nil)
        simpa using this
      | cons i t =>
        obtain ⟨i2, i1, i3⟩ := mem_dsl.1 (show i ∈ dsl N f' by rw [hd]; simp)
        have hle := dsl_least hd
        have hdec := inv_tr i1 i2 i3
        have hul : (pos u).length = u.length := by simp [pos]
        left
        refine ⟨(pos (u ++ [i]), li N (fun k => f' (tr i k))), ?_, ⟨u ++ [i], _, _, rfl, e2.ex i1 i2, by simp; omega, fun w hw => ?_⟩, ?_⟩
        · rw [decide_eq_true (by simp [pos] <;> omega), cond_true, Option.bind_some, show Ev.get (pos (i :: t)) 0 = some (i : Int) from rfl, Option.bind_some, lim_ok (by simp [pos]; omega), Option.bind_some, chk_ok (by omega) (by omega), Option.bind_some, get_li (by omega) (by omega), Option.bind_some, Option.bind_some, get_li (by omega) (by omega), Option.bind_some, Option.bind_some]
          rw [get_at (k := i) (by omega) (x := (f' i : Int)) (by rw [List.getElem?_set_ne (by omega)]; exact li_at i2), Option.bind_some]
          rw [show ((i : Int) - 1).toNat = i - 1 by omega, Int.toNat_natCast, li_sw i1 i2, pos_app]
          rfl
        · rw [List.append_assoc]
          exact e4 _ (.cons i1 i2 i3 hle hw)
        · simp [pos]; omega) n (([] : List Int), li N f) ⟨[], f, g, rfl, h, by simp, fun w hw => hw⟩ (by dsimp only [List.length_nil]; omega)
  obtain ⟨u, hu1, hu2⟩ := hr2
  rw [lim_ok (by simp [li_len]; omega), Option.bind_some, List.nil_append, hr1, Option.bind_some]
  obtain ⟨r1, r2⟩ := r
  dsimp only at hu1 ⊢
  exact ⟨u, by rw [hu1], hu2⟩
theorem garLetters_eq {f g : Nat → Nat} (h : Pm N f g) (n : Nat) (hN : N ≤ 100) (hn : (N + 1) * (N * N) + N + 1 < n) : ∃ w, F.garside_letters n (li N f) = some (pos w) ∧ Lw N f w := by
  unfold F.garside_letters
  have hiN := inv_lst_le (N := N) f
  have hNN : N * N ≤ 100 * 100 := Nat.mul_le_mul hN hN
  have hmul := Nat.mul_le_mul_left (N + 1) hiN
  rw [clone_li n (by omega), Option.bind_some]
  obtain ⟨r, hr1, hr2⟩ := loop_spec (body := F.garside_letters_b0 n (li N f)) (fun s => ∃ (u : List Nat) (v : Nat) (f' g' : Nat → Nat), s = (pos u, (v : Int), li N f') ∧ Pm N f' g' ∧ 1 ≤ v ∧ v ≤ N + 1 ∧ u.length + inv (lst N f') = inv (lst N f) ∧ (∀ j : Nat, 1 ≤ j → j < v → j < N → ¬ ds f' j) ∧ ∀ w, Lw N f' w → Lw N f (u ++ w))
    (fun s => (N + 1) * (inv (lst N f) - s.1.length) + (N + 1 - s.2.1.toNat))
    (fun r => ∃ u, r.1 = pos u ∧ Lw N f u) (fun s ⟨u, v, f', g', e1, e2, e3, e3', e4, e5, e6⟩ => by
      subst e1
      have hul : (pos u).length = u.length := by simp [pos]
      unfold F.garside_letters_b0
      dsimp only
      rw [li_len]
      by_cases hv : v < N
      · rw [decide_eq_true (by omega), cond_true, chk_ok (by omega) (by omega), Option.bind_some, get_li (by omega) (by omega), Option.bind_some, get_li (by omega) (by omega), Option.bind_some]
        rw [show ((v : Int) - 1).toNat = v - 1 by omega, Int.toNat_natCast]
        left
        by_cases hd : f' (v - 1) < f' v
        · rw [decide_eq_true (by omega), cond_true, chk_ok (by omega) (by omega), Option.bind_some]
          refine ⟨_, rfl, ⟨u, v + 1, f', g', rfl, e2, by omega, by omega, e4, fun j j1 j2 j3 => ?_, e6⟩, by dsimp only; omega⟩
          by_cases hjv : j = v
          · subst hjv; unfold ds; omega
          · exact e5 j j1 (by omega) j3
        · have hne : f' (v - 1) ≠ f' v := fun e => by have := e2.inj e; omega
          have hds : ds f' v := by unfold ds; omega
          have hdec := inv_tr e3 hv hds
          refine ⟨(pos (u ++ [v]), ((max 1 (v - 1) : Nat) : Int), li N (fun k => f' (tr v k))), ?_, ⟨u ++ [v], max 1 (v - 1), _, _, rfl, e2.ex e3 hv, by omega, by omega, by simp; omega, fun j j1 j2 j3 => ?_, fun w hw => ?_⟩, ?_⟩
          · rw [decide_eq_false (by omega), cond_false, Option.bind_some, Option.bind_some, Option.bind_some, get_li (by omega) (by omega), Option.bind_some, Option.bind_some, show ((v : Int) - 1).toNat = v - 1 by omega]
            rw [get_at (k := v) (by omega) (x := (f' v : Int)) (by rw [List.getElem?_set_ne (by omega)]; exact li_at hv), Option.bind_some, lim_ok (by simp [pos]; omega), Option.bind_some, Option.bind_some]
            rw [li_sw e3 hv, pos_app, show max 1 ((v : Int) - 1) = ((max 1 (v - 1) : Nat) : Int) by omega]
            rfl
          · have := e5 j j1 (by omega) j3
            unfold ds at this ⊢
            dsimp only
            rwa [tr_o (by omega) (by omega), tr_o (by omega) (by omega)]
          · rw [List.append_assoc]
            exact e6 _ (.cons e3 hv hds (fun j j1 j2 => e5 j j1 j2 (by omega)) hw)
          · dsimp only
            have e7 : inv (lst N f) - (pos u).length = inv (lst N f) - (pos (u ++ [v])).length + 1 := by simp [pos]; omega
            rw [e7, Nat.mul_add, Nat.mul_one]
            omega
      · rw [decide_eq_false (by omega), cond_false]
        right
        refine ⟨_, rfl, u, rfl, ?_⟩
        have hid : f' = fun k => k := e2.noDs fun i i1 i2 i3 => e5 i i1 (by omega) i2 i3
        have := e6 [] (hid ▸ .nil)
        simpa using this) n (([] : List Int), 1, li N f) ⟨[], 1, f, g, rfl, h, by omega, by omega, by simp, fun j j1 j2 => by omega, fun w hw => hw⟩ (by dsimp only [List.length_nil, Nat.sub_zero]; omega)
  obtain ⟨u, hu1, hu2⟩ := hr2
  rw [hr1, Option.bind_some]
  obtain ⟨r1, r2, r3⟩ := r
  dsimp only at hu1 ⊢
  exact ⟨u, by rw [hu1], hu2⟩
/-- The word of a list of factors. -/
inductive Lwl (N : Nat) : List (Nat → Nat) → List Nat → Prop
  | nil : Lwl N [] []
  | cons {f fs w v} : Lw N f w → Lwl N fs v → Lwl N (f :: fs) (w ++ v)
theorem Lwl.wl {fs : List (Nat → Nat)} {v : List Nat} (h : Lwl N fs v) : Wl N fs v := by
  induction h with
  | nil => exact .nil
  | cons h _ ih => exact .cons h.wd ih
theorem Lwl.uniq {fs : List (Nat → Nat)} {v v' : List Nat} (h : Lwl N fs v) (h' : Lwl N fs v') : v = v' := by
  induction h generalizing v' with
  | nil => cases h'; rfl
  | cons h _ ih =>
    cases h' with
    | cons k1 k2 => rw [h.uniq k1, ih k2]
theorem Lwl.snoc {fs : List (Nat → Nat)} {v : List Nat} (h : Lwl N fs v) {f : Nat → Nat} {w : List Nat} (hw : Lw N f w) : Lwl N (fs ++ [f]) (v ++ w) := by
  induction h with
  | nil => have := Lwl.cons hw (.nil (N := N)); rwa [List.append_nil] at this
  | cons h _ ih => rw [List.append_assoc]; exact .cons h ih
theorem Lwl.len {fs : List (Nat → Nat)} {v : List Nat} (h : Lwl N fs v) : v.length ≤ fs.length * (N * N) := by
  induction h with
  | nil => simp
  | @cons f fs w v h _ ih =>
    have h1 := h.wd.len
    have h2 := inv_lst_le (N := N) f
    rw [List.length_append, List.length_cons, Nat.succ_mul]; omega
theorem pwn_len (u : List Int) (m : Nat) : (pwn u m).length = m * u.length := by
  induction m with
  | zero => simp [pwn]
  | succ m ih => show (pwn u m ++ u).length = _; rw [List.length_append, ih, Nat.succ_mul]
theorem negLoop (u : List Nat) (l : List Int) (n : Nat) (h1 : u.length < n) (h2 : l.length + u.length ≤ 1000000) (h3 : ∀ x ∈ u, x ≤ 1000) : loopN n (F.ref34_Whole_b2 n (pos u)) (l, (u.length : Int) - 1) = some (l ++ neg (pos u), -1) := by
  have hlen : (pos u).length = u.length := by simp [pos]
  have hnl : (neg (pos u)).length = u.length := by simp [neg, pos]
  have := count_loop (body := F.ref34_Whole_b2 n (pos u)) (fun k => (l ++ (neg (pos u)).take k, ((u.length : Int) - 1 - (k : Int)))) u.length (r := (l ++ neg (pos u), (u.length : Int) - 1 - (u.length : Int))) (fun k hk => by
    have hx : (pos u)[u.length - 1 - k]? = some (((u[u.length - 1 - k]'(by omega) : Nat)) : Int) := by
      unfold pos; rw [List.getElem?_map, List.getElem?_eq_getElem (by omega)]; rfl
    have hu := h3 _ (List.getElem_mem (show u.length - 1 - k < u.length by omega))
    have hx2 : (neg (pos u))[k]? = some (-((u[u.length - 1 - k]'(by omega) : Nat) : Int)) := by
      unfold neg
      rw [List.getElem?_reverse (by rw [List.length_map, hlen]; omega), List.getElem?_map, List.length_map, hlen, hx]; rfl
    generalize u[u.length - 1 - k]'(by omega) = x at hx hx2 hu
    unfold F.ref34_Whole_b2
    dsimp only
    rw [decide_eq_true (by omega), cond_true, get_at (k := u.length - 1 - k) (by omega) hx, Option.bind_some, chk_ok (by omega) (by omega), Option.bind_some, lim_ok (by simp; omega), Option.bind_some, chk_ok (by omega) (by omega), Option.bind_some, List.take_add_one, hx2, ← List.append_assoc, show (0 : Int) - (x : Int) = -(x : Int) by omega, show (u.length : Int) - 1 - (k : Int) - 1 = (u.length : Int) - 1 - ((k + 1 : Nat) : Int) by omega]
    rfl) (by
    unfold F.ref34_Whole_b2
    dsimp only
    rw [decide_eq_false (by omega), cond_false, List.take_of_length_le (by omega)]) n h1
  have e : ((l ++ (neg (pos u)).take 0, (u.length : Int) - 1 - ((0 : Nat) : Int))) = (l, (u.length : Int) - 1) := by simp
  rw [e, show (u.length : Int) - 1 - (u.length : Int) = -1 by omega] at this
  exact this
theorem whole_eq {qs : List Pr} (hq : Pms N qs) (p : Int) (n : Nat) (hN : 1 ≤ N ∧ N ≤ 10) (hp : -1000 ≤ p ∧ p ≤ 1000) (hl : qs.length ≤ 1000) (hn : 3000 < n) : ∃ H v, F.ref34_Whole n (N : Int) p (ls N qs) = some (pw H p ++ pos v) ∧ Lw N (dl N) H ∧ Lwl N (fsts qs) v := by
  have hNN : N * N ≤ 10 * 10 := Nat.mul_le_mul hN.2 hN.2
  obtain ⟨H, hH1, hH2⟩ := refWord_eq (dl_pm (N := N)) n (by omega) (by omega)
  have hHl : H.length ≤ 100 := by have := hH2.wd.len; have := inv_lst_le (N := N) (dl N); omega
  have hHr : ∀ x ∈ H, x ≤ 1000 := fun x hx => by have := hH2.wd.rng x hx; omega
  have hpl : (pos H).length = H.length := by simp [pos]
  have hnl : (neg (pos H)).length = H.length := by simp [neg, pos]
  unfold F.ref34_Whole
  rw [half_eq n (by omega) (by omega), Option.bind_some, hH1, Option.bind_some]
  -- the positive powers
  have l0 : loopN n (F.ref34_Whole_b0 n p (pos H)) (([] : List Int), 0) = some (pwn (pos H) p.toNat, (p.toNat : Int)) := by
    have := count_loop (body := F.ref34_Whole_b0 n p (pos H)) (fun k => (pwn (pos H) k, (k : Int))) p.toNat (r := (pwn (pos H) p.toNat, (p.toNat : Int))) (fun k hk => by
      unfold F.ref34_Whole_b0
      dsimp only
      have := Nat.mul_le_mul (show k ≤ 1000 by omega) hHl
      rw [decide_eq_true (by omega), cond_true, lim_ok (by rw [pwn_len, hpl]; omega), Option.bind_some, chk_ok (by omega) (by omega)]
      rfl) (by
      unfold F.ref34_Whole_b0
      dsimp only
      rw [decide_eq_false (by omega), cond_false]) n (by omega)
    exact this
  have l1 : ∃ z : Int, loopN n (F.ref34_Whole_b1 n (pos H)) (pwn (pos H) p.toNat, p) = some (pw H p, z) := by
    by_cases h0 : 0 ≤ p
    · refine ⟨p, ?_⟩
      obtain ⟨m, rfl⟩ : ∃ m, n = m + 1 := ⟨n - 1, by omega⟩
      have e : F.ref34_Whole_b1 (m + 1) (pos H) (pwn (pos H) p.toNat, p) = some (.inr (pwn (pos H) p.toNat, p)) := by
        unfold F.ref34_Whole_b1
        dsimp only
        rw [decide_eq_false (by omega), cond_false]
      rw [loopN, e]
      unfold pw
      rw [if_pos h0]
      rfl
    · refine ⟨0, ?_⟩
      have := count_loop (body := F.ref34_Whole_b1 n (pos H)) (fun k => (pwn (neg (pos H)) k, p + (k : Int))) (-p).toNat (r := (pwn (neg (pos H)) (-p).toNat, p + ((-p).toNat : Int))) (fun k hk => by
        unfold F.ref34_Whole_b1
        dsimp only
        have hm := Nat.mul_le_mul (show k ≤ 1000 by omega) hHl
        rw [decide_eq_true (by omega), cond_true, hpl, chk_ok (by omega) (by omega), Option.bind_some, negLoop H _ n (by omega) (by rw [pwn_len, hnl]; omega) hHr, Option.bind_some]
        dsimp only
        rw [chk_ok (by omega) (by omega), Option.bind_some, show p + (k : Int) + 1 = p + ((k + 1 : Nat) : Int) by omega]
        rfl) (by
        unfold F.ref34_Whole_b1
        dsimp only
        rw [decide_eq_false (by omega), cond_false]) n (by omega)
      have e1 : pwn (pos H) p.toNat = [] := by rw [show p.toNat = 0 by omega]; rfl
      have e2 : (pwn (neg (pos H)) 0, p + ((0 : Nat) : Int)) = (pwn (pos H) p.toNat, p) := by rw [e1]; simp [pwn]
      rw [e2, show p + ((-p).toNat : Int) = 0 by omega] at this
      rw [this]
      unfold pw
      rw [if_neg h0]
  obtain ⟨z, l1⟩ := l1
  have hpwl : (pw H p).length ≤ 100000 := by
    unfold pw
    split
    · have := Nat.mul_le_mul (show p.toNat ≤ 1000 by omega) hHl; rw [pwn_len, hpl]; omega
    · have := Nat.mul_le_mul (show (-p).toNat ≤ 1000 by omega) hHl; rw [pwn_len, hnl]; omega
  obtain ⟨r, r1, r2⟩ := loop_spec (body := F.ref34_Whole_b3 n (ls N qs)) (fun s => ∃ k v, s = (pw H p ++ pos v, ((k : Nat) : Int)) ∧ k ≤ qs.length ∧ Lwl N (fsts (qs.take k)) v) (fun s => qs.length - s.2.toNat)
    (fun r => ∃ v, r.1 = pw H p ++ pos v ∧ Lwl N (fsts qs) v) (fun s ⟨k, v, e1, e2, e3⟩ => by
      subst e1
      have hv := e3.len
      have hv2 : (fsts (qs.take k)).length * (N * N) ≤ 1000 * (10 * 10) := Nat.mul_le_mul (by simp [fsts]; omega) hNN
      unfold F.ref34_Whole_b3
      dsimp only
      rw [ls_len]
      by_cases hk : k < qs.length
      · have ka : qs[k]? = some (qs[k]'hk) := List.getElem?_eq_getElem _
        have hpm := hq _ (List.getElem_mem hk)
        have ht : fsts (qs.take (k + 1)) = fsts (qs.take k) ++ [(qs[k]'hk).1] := by
          rw [List.take_add_one, ka]; unfold fsts; rw [List.map_append]; rfl
        generalize qs[k]'hk = q at ka hpm ht
        obtain ⟨w, w1, w2⟩ := refWord_eq hpm n (by omega) (by omega)
        have hwl : w.length ≤ 100 := by have := w2.wd.len; have := inv_lst_le (N := N) q.1; omega
        left
        rw [decide_eq_true (by omega), cond_true, get_at rfl (ls_at ka), Option.bind_some, w1, Option.bind_some, lim_ok (by rw [List.length_append]; simp only [pos, List.length_map]; omega), Option.bind_some, chk_ok (by omega) (by omega), Option.bind_some]
        refine ⟨_, rfl, ⟨k + 1, v ++ w, ?_, by omega, ?_⟩, by dsimp only; omega⟩
        · rw [pos_app, List.append_assoc, Int.natCast_add]; rfl
        · rw [ht]; exact e3.snoc w2
      · right
        rw [decide_eq_false (by omega), cond_false]
        refine ⟨_, rfl, v, rfl, ?_⟩
        rw [List.take_of_length_le (by omega)] at e3
        exact e3) n (pw H p, 0) ⟨0, [], by simp [pos], by omega, .nil⟩ (by dsimp only; omega)
  obtain ⟨v, hv1, hv2⟩ := r2
  refine ⟨H, v, ?_, hH2, hv2⟩
  rw [l0, Option.bind_some]
  dsimp only
  rw [l1, Option.bind_some]
  dsimp only
  rw [r1, Option.bind_some]
  obtain ⟨ra, rb⟩ := r
  dsimp only at hv1 ⊢
  rw [hv1]
end
end Gar
end Go.Proofs.Ytkeaonceaaafcaa
