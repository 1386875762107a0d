/- Joined: PEq, PAart. -/
import Derived.Test.YtlkmcbgkohpmiaaPBraid
import Derived.Test.YtlkmcbgkohpmiaaPGact
/- Lists that are compared element by element. -/
set_option linter.unusedVariables false
set_option linter.unusedSimpArgs false
namespace Go.Proofs.Ytlkmcbgkohpmiaa
open Ev
theorem eqList {α : Type} [DecidableEq α] {body : Int → Option (Int ⊕ (Int ⊕ Bool))} {a b : List α} (n : Nat) (hl : a.length = b.length) (hn : a.length < n)
    (step : ∀ (k : Nat) (x y : α), a[k]? = some x → b[k]? = some y → (x = y ∧ body (k : Int) = some (.inl ((k + 1 : Nat) : Int))) ∨ (x ≠ y ∧ body (k : Int) = some (.inr (.inr false))))
    (last : body (a.length : Int) = some (.inr (.inl (a.length : Int)))) :
    ((loopN n body 0).bind fun o => match o with | .inl _ => some true | .inr b => some b) = some (decide (a = b)) := by
  obtain ⟨r, hr, hq⟩ := loop_spec (body := body) (fun v => ∃ k : Nat, v = (k : Int) ∧ k ≤ a.length ∧ (a = b ↔ a.drop k = b.drop k)) (fun v => a.length - v.toNat)
    (fun r => match r with | .inl _ => a = b | .inr c => c = decide (a = b)) (fun v ⟨k, hv, hk, hI⟩ => by
      subst hv
      by_cases hlt : k < a.length
      · have ha : a[k]? = some (a[k]'hlt) := List.getElem?_eq_getElem _
        have hb : b[k]? = some (b[k]'(by omega)) := List.getElem?_eq_getElem _
        have da := (List.getElem_cons_drop hlt).symm
        have db := (List.getElem_cons_drop (show k < b.length by omega)).symm
        rcases step k _ _ ha hb with ⟨h1, h2⟩ | ⟨h1, h2⟩
        · refine .inl ⟨_, h2, ⟨k + 1, rfl, by omega, ?_⟩, by omega⟩
          rw [hI, da, db, h1]
          exact ⟨fun h => (List.cons.inj h).2, fun h => by rw [h]⟩
        · refine .inr ⟨_, h2, ?_⟩
          show false = decide (a = b)
          rw [decide_eq_false]
          intro h
          rw [hI, da, db] at h
          exact h1 (List.cons.inj h).1
      · obtain rfl : k = a.length := by omega
        refine .inr ⟨_, last, ?_⟩
        show a = b
        rw [hI, List.drop_length, hl, List.drop_length]) n 0 ⟨0, rfl, Nat.zero_le _, by simp⟩ (by simpa using hn)
  rw [hr, Option.bind_some]
  cases r with
  | inl v => simp only at hq ⊢; rw [decide_eq_true hq]
  | inr c => simp only at hq ⊢; rw [hq]
end Go.Proofs.Ytlkmcbgkohpmiaa

/- The action of braids on words, as the program and the reference of layer 35 compute it. -/
set_option linter.unusedVariables false
set_option linter.unusedSimpArgs false
namespace Go.Proofs.Ytlkmcbgkohpmiaa
open Ev
namespace Gar
/-! Valid words. -/
def wV (w : List Int) (r : Int) : Bool := w.all fun x => decide (1 ≤ r) && (decide (x ≠ 0) && (decide (x ≤ r) && decide (-r ≤ x)))
theorem wV_iff {w : List Int} {r : Int} : wV w r = true ↔ ∀ x ∈ w, 1 ≤ r ∧ x ≠ 0 ∧ x ≤ r ∧ -r ≤ x := by
  simp only [wV, List.all_eq_true, Bool.and_eq_true, decide_eq_true_eq]
theorem wV_drop {w : List Int} {r : Int} {k : Nat} {x : Int} (h : w[k]? = some x) : wV (w.drop k) r = (decide (1 ≤ r) && (decide (x ≠ 0) && (decide (x ≤ r) && decide (-r ≤ x))) && wV (w.drop (k + 1)) r) := by
  obtain ⟨hk, rfl⟩ := List.getElem?_eq_some_iff.1 h
  unfold wV
  rw [drop_step hk, List.all_cons]
/-- A loop that asks a question of each letter. -/
theorem allLoop {body : Int → Option (Int ⊕ (Int ⊕ Bool))} {w : List Int} {q : List Int → Bool} (h0 : q [] = true) (n : Nat) (hn : w.length < n)
    (step : ∀ (k : Nat) (x : Int), w[k]? = some x → (q (w.drop k) = q (w.drop (k + 1)) ∧ body (k : Int) = some (.inl ((k + 1 : Nat) : Int))) ∨ (q (w.drop k) = false ∧ body (k : Int) = some (.inr (.inr false))))
    (last : body (w.length : Int) = some (.inr (.inl (w.length : Int)))) :
    ((loopN n body 0).bind fun o => match o with | .inl _ => some true | .inr b => some b) = some (q w) := by
  obtain ⟨r, hr, hq⟩ := loop_spec (body := body) (fun v => ∃ k : Nat, v = (k : Int) ∧ k ≤ w.length ∧ q w = q (w.drop k)) (fun v => w.length - v.toNat)
    (fun r => match r with | .inl _ => q w = true | .inr b => b = q w) (fun v ⟨k, hv, hk, hI⟩ => by
      subst hv
      by_cases hlt : k < w.length
      · rcases step k _ (List.getElem?_eq_getElem hlt) with ⟨h1, h2⟩ | ⟨h1, h2⟩
        · exact .inl ⟨_, h2, ⟨k + 1, rfl, by omega, by rw [hI, h1]⟩, by omega⟩
        · exact .inr ⟨_, h2, by show false = _; rw [hI, h1]⟩
      · obtain rfl : k = w.length := by omega
        exact .inr ⟨_, last, by show q w = true; rw [hI, List.drop_length, h0]⟩) n 0 ⟨0, rfl, Nat.zero_le _, by rw [List.drop_zero]⟩ (by simpa using hn)
  rw [hr, Option.bind_some]
  cases r with
  | inl v => simp only at hq ⊢; rw [hq]
  | inr b => simp only at hq ⊢; rw [hq]
theorem wordValid {w : List Int} {r : Int} (hr : -1000000 ≤ r ∧ r ≤ 1000000) (hl : w.length ≤ 100000000) (n : Nat) (hn : w.length < n) : F.word_Valid n w r = some (wV w r) := by
  unfold F.word_Valid
  refine allLoop (q := fun v => wV v r) (by rfl) n hn (fun k x hx => ?_) ?_
  · have hk := (List.getElem?_eq_some_iff.1 hx).1
    rw [wV_drop hx]
    unfold F.word_Valid_b0
    dsimp only
    rw [decide_eq_true (show (k : Int) < (w.length : Int) by omega), cond_true, get_at rfl hx, Option.bind_some]
    by_cases c0 : r < 1
    · right; rw [decide_eq_true c0, cond_true, decide_eq_false (show ¬ 1 ≤ r by omega)]; exact ⟨rfl, rfl⟩
    rw [decide_eq_false c0, cond_false, decide_eq_true (show 1 ≤ r by omega)]
    by_cases c1 : x = 0
    · right; rw [decide_eq_true c1, cond_true, decide_eq_false (show ¬ x ≠ 0 from fun h => h c1)]; exact ⟨rfl, rfl⟩
    rw [decide_eq_false c1, cond_false, decide_eq_true (show x ≠ 0 from c1)]
    by_cases c2 : r < x
    · right; rw [decide_eq_true c2, cond_true, decide_eq_false (show ¬ x ≤ r by omega)]; exact ⟨rfl, rfl⟩
    rw [decide_eq_false c2, cond_false, decide_eq_true (show x ≤ r by omega), chk_ok (by omega) (by omega), Option.bind_some]
    by_cases c3 : x < -r
    · right; rw [decide_eq_true c3, cond_true, decide_eq_false (show ¬ -r ≤ x by omega)]; exact ⟨rfl, rfl⟩
    left
    rw [decide_eq_false c3, cond_false, decide_eq_true (show -r ≤ x by omega), chk_ok (by omega) (by omega)]
    exact ⟨by simp, rfl⟩
  · unfold F.word_Valid_b0
    dsimp only
    rw [decide_eq_false (by omega)]; rfl
theorem refWordValid {w : List Int} {r : Int} (hr : 1 ≤ r ∧ r ≤ 1000000) (hl : w.length ≤ 100000000) (n : Nat) (hn : w.length < n) : F.ref21_Valid n w r = some (wV w r) := by
  unfold F.ref21_Valid
  refine allLoop (q := fun v => wV v r) (by rfl) n hn (fun k x hx => ?_) ?_
  · have hk := (List.getElem?_eq_some_iff.1 hx).1
    rw [wV_drop hx]
    unfold F.ref21_Valid_b0
    dsimp only
    rw [decide_eq_true (show (k : Int) < (w.length : Int) by omega), cond_true, get_at rfl hx, Option.bind_some, Option.bind_some, Option.bind_some, decide_eq_true (show 1 ≤ r by omega)]
    by_cases c1 : x = 0
    · right; rw [decide_eq_true c1, cond_true, decide_eq_false (show ¬ x ≠ 0 from fun h => h c1)]; exact ⟨rfl, rfl⟩
    rw [decide_eq_false c1, cond_false, decide_eq_true (show x ≠ 0 from c1)]
    by_cases c2 : r < x
    · right; rw [decide_eq_true c2, cond_true, decide_eq_false (show ¬ x ≤ r by omega)]; exact ⟨rfl, rfl⟩
    rw [decide_eq_false c2, cond_false, decide_eq_true (show x ≤ r by omega), chk_ok (by omega) (by omega), Option.bind_some]
    by_cases c3 : x < -r
    · right; rw [decide_eq_true c3, cond_true, decide_eq_false (show ¬ -r ≤ x by omega)]; exact ⟨rfl, rfl⟩
    left
    rw [decide_eq_false c3, cond_false, decide_eq_true (show -r ≤ x by omega), chk_ok (by omega) (by omega)]
    exact ⟨by simp, rfl⟩
  · unfold F.ref21_Valid_b0
    dsimp only
    rw [decide_eq_false (by omega)]; rfl
/-! A reduced word as a stack. -/
theorem Irdc.pre {u v : List Int} (h : Irdc (u ++ v)) : Irdc u := by
  induction u with
  | nil => trivial
  | cons a u ih =>
    cases u with
    | nil => trivial
    | cons b t => exact ⟨h.1, ih h.2⟩
theorem Irdc.snoc {u : List Int} {a x : Int} (h : Irdc (u ++ [a])) (hx : a ≠ -x) : Irdc (u ++ [a] ++ [x]) := by
  induction u with
  | nil => exact ⟨hx, trivial⟩
  | cons b u ih =>
    cases u with
    | nil => exact ⟨h.1, hx, trivial⟩
    | cons c t => exact ⟨h.1, ih h.2⟩
theorem push1 {st : List Int} (h : Irdc st) (x : Int) : (st = [] ∧ ird (st ++ [x]) = [x]) ∨ ∃ u a, st = u ++ [a] ∧ ((a = -x ∧ ird (st ++ [x]) = u) ∨ (a ≠ -x ∧ ird (st ++ [x]) = st ++ [x])) := by
  rcases List.eq_nil_or_concat st with rfl | ⟨u, a, rfl⟩
  · exact .inl ⟨rfl, rfl⟩
  · right
    rw [List.concat_eq_append] at h ⊢
    refine ⟨u, a, rfl, ?_⟩
    by_cases e : a = -x
    · left
      refine ⟨e, ?_⟩
      have := ird_cancel u [] a x e
      rw [List.append_assoc]
      rw [List.append_nil] at this
      rw [show [a] ++ [x] = a :: x :: [] from rfl, this, ird_of h.pre]
    · exact .inr ⟨e, ird_of (h.snoc e)⟩
theorem wordPush {st w : List Int} (hst : Irdc st) (hs : Sm w) (hl : st.length + w.length ≤ 100000000) (n : Nat) (hn : w.length < n) : F.word_push n st w = some (ird (st ++ w)) := by
  unfold F.word_push
  have := count_loop (body := F.word_push_b0 n w) (fun k => (ird (st ++ w.take k), (k : Int))) w.length (r := (ird (st ++ w), (w.length : Int))) (fun k hk => by
    have hx : w[k]? = some (w[k]'hk) := List.getElem?_eq_getElem _
    have hb := hs _ (List.getElem_mem hk)
    generalize w[k]'hk = x at hx hb
    have hS := ird_rdc (st ++ w.take k)
    have hlen := ird_le (st ++ w.take k)
    rw [List.length_append, List.length_take] at hlen
    have hnext : ird (st ++ w.take (k + 1)) = ird (ird (st ++ w.take k) ++ [x]) := by
      rw [ird_rdapp, List.take_add_one, hx, ← List.append_assoc]; rfl
    rw [hnext]
    generalize ird (st ++ w.take k) = S at hS hlen
    unfold F.word_push_b0
    dsimp only
    rw [decide_eq_true (by omega), cond_true, get_at rfl hx, Option.bind_some, chk_ok (by omega) (by omega), Option.bind_some]
    rcases push1 hS x with ⟨rfl, e⟩ | ⟨u, a, rfl, h⟩
    · rw [decide_eq_false (by simp), cond_false, lim_ok (by simp), Option.bind_some, chk_ok (by omega) (by omega), e]
      rfl
    · rw [List.length_append, List.length_singleton] at hlen
      rw [List.length_append, List.length_singleton, decide_eq_true (by omega), cond_true, get_at (k := u.length) (x := a) (by omega) (by simp), Option.bind_some, chk_ok (by omega) (by omega), Option.bind_some]
      rcases h with ⟨e, e2⟩ | ⟨e, e2⟩
      · rw [decide_eq_true e, cond_true, cut_ok (by omega) (by omega) (by omega), Option.bind_some, chk_ok (by omega) (by omega), e2]
        have : (((u.length + 1 : Nat) : Int) - 1).toNat = u.length := by omega
        rw [this, List.take_left]
        rfl
      · rw [decide_eq_false e, cond_false, lim_ok (by simp; omega), Option.bind_some, chk_ok (by omega) (by omega), e2]
        rfl) (by
    unfold F.word_push_b0
    dsimp only
    rw [decide_eq_false (by omega), cond_false, List.take_length]) n hn
  have e : loopN n (F.word_push_b0 n w) (st, 0) = some (ird (st ++ w), (w.length : Int)) := by
    have e0 : (ird (st ++ w.take 0), ((0 : Nat) : Int)) = (st, 0) := by rw [List.take_zero, List.append_nil, ird_of hst]; rfl
    rw [← e0]; exact this
  rw [e]; rfl
theorem wordReduce {w : List Int} (hs : Sm w) (hl : w.length ≤ 1000000) (n : Nat) (hn : w.length < n) : F.word_Reduce n w = some (ird w) := by
  unfold F.word_Reduce
  rw [pos_ok (by omega) (by omega), Option.bind_some, wordPush (st := []) trivial hs (by simp; omega) n hn]
  rfl
/-! The images for a letter. -/
theorem actC1 {s : Nat} {x : Int} (hs : 1 ≤ s ∧ s ≤ 10) (hx : x ≠ 0 ∧ -(s : Int) < x ∧ x < s) (w : List Int) (n : Nat) (hn : 1000 < n) : F.artin_Act_c1 n x (s : Int) w = some (imgs s x) := by
  unfold F.artin_Act_c1
  rw [pos_ok (by omega) (by omega), Option.bind_some]
  have := count_loop (body := F.artin_Act_c1_b0 n (s : Int)) (fun k => ((k : Int), (acts s []).take k ++ List.replicate (s - k) ([] : List Int))) s (r := ((s : Int), acts s [])) (fun k hk => by
    unfold F.artin_Act_c1_b0
    dsimp only
    have hlen : ((acts s []).take k ++ List.replicate (s - k) ([] : List Int)).length = s := by rw [List.length_append, List.length_take, acts_len, List.length_replicate]; omega
    rw [Int.toNat_natCast, List.length_replicate, decide_eq_true (by omega), cond_true, chk_ok (by omega) (by omega), Option.bind_some, get_ok (by omega) (by rw [hlen]; omega), Option.bind_some, Option.bind_some, Int.toNat_natCast]
    have h1 : (acts s []).take (k + 1) = (acts s []).take k ++ [[((k : Int) + 1)]] := by
      rw [List.take_add_one, acts_at hk]; rfl
    rw [h1, show s - k = (s - (k + 1)) + 1 by omega, List.replicate_succ, List.set_append_right _ _ (by rw [List.length_take, acts_len]; omega), List.length_take, acts_len, show k - min k s = 0 by omega, List.set_cons_zero, List.append_assoc]
    rfl) (by
    unfold F.artin_Act_c1_b0
    dsimp only
    rw [Int.toNat_natCast, List.length_replicate, decide_eq_false (by omega), cond_false, Nat.sub_self, List.replicate_zero, List.append_nil, List.take_of_length_le (by rw [acts_len]; omega)]) n (by omega)
  have e : loopN n (F.artin_Act_c1_b0 n (s : Int)) (0, List.replicate (s : Int).toNat ([] : List Int)) = some ((s : Int), acts s []) := by
    rw [Int.toNat_natCast]
    exact this
  rw [e, Option.bind_some]
  dsimp only
  by_cases hp : 0 < x
  · obtain ⟨i, rfl⟩ : ∃ i : Nat, x = (i : Int) := ⟨x.toNat, by omega⟩
    rw [decide_eq_true hp, cond_true, chk_ok (by omega) (by omega), Option.bind_some, chk_ok (by omega) (by omega), Option.bind_some, chk_ok (by omega) (by omega), Option.bind_some, get_ok (by omega) (by rw [acts_len]; omega), Option.bind_some, get_ok (by omega) (by rw [List.length_set, acts_len]; omega), Option.bind_some, Int.toNat_natCast, show ((i : Int) - 1).toNat = i - 1 by omega]
    rw [set_imgs (x := (i : Int)) hx (i := i) (by omega) _ _ ?_ ?_]
    · unfold gimg; rw [if_pos (by omega), if_pos hp]
    · unfold gimg; rw [if_neg (by omega), if_pos (by omega), if_pos hp, show ((i + 1 : Nat) : Int) - 1 = (i : Int) by omega]
  · obtain ⟨i, rfl⟩ : ∃ i : Nat, x = -(i : Int) := ⟨(-x).toNat, by omega⟩
    rw [decide_eq_false hp, cond_false, chk_ok (by omega) (by omega), Option.bind_some, Int.neg_neg, chk_ok (by omega) (by omega), Option.bind_some, chk_ok (by omega) (by omega), Option.bind_some, Option.bind_some, chk_ok (by omega) (by omega), Option.bind_some, Option.bind_some, get_ok (by omega) (by rw [acts_len]; omega), Option.bind_some, get_ok (by omega) (by rw [List.length_set, acts_len]; omega), Option.bind_some, Int.toNat_natCast, show ((i : Int) - 1).toNat = i - 1 by omega]
    rw [set_imgs (x := -(i : Int)) hx (i := i) (by omega) _ _ ?_ ?_]
    · unfold gimg; rw [if_pos (by omega), if_neg hp]
    · unfold gimg; rw [if_neg (by omega), if_pos (by omega), if_neg hp, show ((i + 1 : Nat) : Int) - 1 = (i : Int) by omega, show ((i + 1 : Nat) : Int) = (i : Int) + 1 by omega]
theorem refLetters {s : Nat} {x : Int} (hs : 1 ≤ s ∧ s ≤ 10) (hx : x ≠ 0 ∧ -(s : Int) < x ∧ x < s) (n : Nat) (hn : 1000 < n) : F.ref35_letters n (s : Int) x = some (imgs s x) := by
  unfold F.ref35_letters
  have := count_loop (body := F.ref35_letters_b0 n (s : Int) x) (fun k => ((imgs s x).take k, (k : Int) + 1)) s (r := (imgs s x, (s : Int) + 1)) (fun k hk => by
    have hg : (imgs s x).take (k + 1) = (imgs s x).take k ++ [gimg x (k + 1)] := by rw [List.take_add_one, imgs_at hk]; rfl
    have hl : ((imgs s x).take k).length ≤ 10 := by rw [List.length_take]; omega
    rw [hg]
    unfold F.ref35_letters_b0
    dsimp only
    rw [decide_eq_true (by omega), cond_true]
    have fin : ∀ img : List Int, img = gimg x (k + 1) → ((lim (((imgs s x).take k).length + ([img] : List (List Int)).length)).bind fun u => (chk ((k : Int) + 1 + 1)).bind fun z => (some (.inl ((imgs s x).take k ++ [img], z)) : Option ((List (List Int) × Int) ⊕ (List (List Int) × Int)))) = some (.inl ((imgs s x).take k ++ [gimg x (k + 1)], ((k + 1 : Nat) : Int) + 1)) := fun img h => by
      subst h
      rw [lim_ok (by simp only [List.length_singleton]; omega), Option.bind_some, chk_ok (by omega) (by omega)]; rfl
    by_cases hp : 0 < x
    · rw [decide_eq_true hp, cond_true]
      by_cases c1 : (k : Int) + 1 = x
      · rw [decide_eq_true c1, cond_true, chk_ok (by omega) (by omega), Option.bind_some, chk_ok (by omega) (by omega), Option.bind_some]
        unfold F.ref35_letters_j1
        rw [decide_eq_true hp, cond_true, chk_ok (by omega) (by omega), Option.bind_some, decide_eq_false (by omega), cond_false]
        unfold F.ref35_letters_j2
        rw [decide_eq_false (by omega), cond_false]
        unfold F.ref35_letters_j3
        rw [decide_eq_false (by omega), cond_false]
        unfold F.ref35_letters_j4
        rw [cond_false]
        refine fin _ ?_
        unfold gimg; rw [if_pos (by omega), if_pos hp, ← c1]
        simp
      · rw [decide_eq_false c1, cond_false]
        unfold F.ref35_letters_j1
        rw [decide_eq_true hp, cond_true, chk_ok (by omega) (by omega), Option.bind_some]
        by_cases c2 : (k : Int) + 1 = x + 1
        · rw [decide_eq_true c2, cond_true]
          unfold F.ref35_letters_j2
          rw [decide_eq_false (by omega), cond_false]
          unfold F.ref35_letters_j3
          rw [decide_eq_false (by omega), cond_false]
          unfold F.ref35_letters_j4
          rw [cond_false]
          refine fin _ ?_
          unfold gimg; rw [if_neg (by omega), if_pos (by omega), if_pos hp, show ((k + 1 : Nat) : Int) - 1 = x by omega]
        · rw [decide_eq_false c2, cond_false]
          unfold F.ref35_letters_j2
          rw [decide_eq_false (by omega), cond_false]
          unfold F.ref35_letters_j3
          rw [decide_eq_false (by omega), cond_false]
          unfold F.ref35_letters_j4
          rw [cond_false]
          refine fin _ ?_
          unfold gimg; rw [if_neg (by omega), if_neg (by omega)]; simp
    · rw [decide_eq_false hp, cond_false]
      unfold F.ref35_letters_j1
      rw [decide_eq_false hp, cond_false]
      unfold F.ref35_letters_j2
      rw [decide_eq_true (by omega), cond_true, chk_ok (by omega) (by omega), Option.bind_some]
      by_cases c1 : (k : Int) + 1 = -x
      · rw [decide_eq_true c1, cond_true, Option.bind_some, chk_ok (by omega) (by omega), Option.bind_some]
        unfold F.ref35_letters_j3
        rw [decide_eq_true (by omega), cond_true, chk_ok (by omega) (by omega), Option.bind_some, chk_ok (by omega) (by omega), Option.bind_some, decide_eq_false (by omega)]
        unfold F.ref35_letters_j4
        rw [cond_false]
        refine fin _ ?_
        unfold gimg; rw [if_pos (by omega), if_neg hp, show ((k + 1 : Nat) : Int) = -x by omega]
      · rw [decide_eq_false c1, cond_false]
        unfold F.ref35_letters_j3
        rw [decide_eq_true (by omega), cond_true, chk_ok (by omega) (by omega), Option.bind_some, chk_ok (by omega) (by omega), Option.bind_some]
        by_cases c2 : (k : Int) + 1 = -x + 1
        · rw [decide_eq_true c2]
          unfold F.ref35_letters_j4
          rw [cond_true, chk_ok (by omega) (by omega), Option.bind_some, chk_ok (by omega) (by omega), Option.bind_some, chk_ok (by omega) (by omega), Option.bind_some, Option.bind_some, Option.bind_some, chk_ok (by omega) (by omega), Option.bind_some]
          refine fin _ ?_
          unfold gimg; rw [if_neg (by omega), if_pos (by omega), if_neg hp, show ((k + 1 : Nat) : Int) - 1 = -x by omega, show ((k + 1 : Nat) : Int) = -x + 1 by omega]
        · rw [decide_eq_false c2]
          unfold F.ref35_letters_j4
          rw [cond_false]
          refine fin _ ?_
          unfold gimg; rw [if_neg (by omega), if_neg (by omega)]; simp) (by
    unfold F.ref35_letters_b0
    dsimp only
    rw [decide_eq_false (by omega), cond_false, List.take_of_length_le (by simp [imgs])]) n (by omega)
  have e : loopN n (F.ref35_letters_b0 n (s : Int) x) (([] : List (List Int)), 1) = some (imgs s x, (s : Int) + 1) := this
  rw [e]; rfl
/-! The substitution of one letter, with a stack. -/
theorem wordSubst {s : Nat} {x : Int} (hs : 1 ≤ s ∧ s ≤ 10) (hx : x ≠ 0 ∧ -(s : Int) < x ∧ x < s) {w : List Int} (hw : ∀ y ∈ w, Lr s y) (hl : w.length ≤ 20000) (n : Nat) (hn : 1000000 ≤ n) : F.word_Substitute n w (imgs s x) = some (ird (isub x w), 0) := by
  have hil : (imgs s x).length = s := by simp [imgs]
  have hsm : ∀ {k : Nat}, 1 ≤ k → k ≤ s → Sm (gimg x k) := fun {k} h1 h2 y hy => by
    have := gimg_lr hx h1 h2 y hy
    unfold Lr at this; omega
  unfold F.word_Substitute
  have h0 := count_loop (body := F.word_Substitute_b0 n w (imgs s x)) (fun k => (k : Int)) w.length (r := .inl (w.length : Int)) (fun k hk => by
    have ka : w[k]? = some (w[k]'hk) := List.getElem?_eq_getElem _
    have hb := hw _ (List.getElem_mem hk)
    generalize w[k]'hk = y at ka hb
    unfold Lr at hb
    unfold F.word_Substitute_b0
    dsimp only
    rw [decide_eq_true (by omega), cond_true, get_at rfl ka, Option.bind_some, hil, wordValid (by omega) (by simp) n (by simp; omega), Option.bind_some, wV_iff.2 (fun z hz => by rw [List.mem_singleton] at hz; subst hz; omega), Bool.not_true, cond_false, chk_ok (by omega) (by omega)]
    rfl) (by
    unfold F.word_Substitute_b0
    dsimp only
    rw [decide_eq_false (by omega), cond_false]) n (by omega)
  have e0 : loopN n (F.word_Substitute_b0 n w (imgs s x)) 0 = some (.inl (w.length : Int)) := h0
  rw [e0, Option.bind_some]
  have := count_loop (body := F.word_Substitute_b1 n w (imgs s x)) (fun k => ((k : Int), ird (isub x (w.take k)))) w.length (r := ((w.length : Int), ird (isub x w))) (fun k hk => by
    have ka : w[k]? = some (w[k]'hk) := List.getElem?_eq_getElem _
    have hb := hw _ (List.getElem_mem hk)
    generalize w[k]'hk = y at ka hb
    have ht : ird (isub x (w.take (k + 1))) = ird (ird (isub x (w.take k)) ++ iimg x y) := by
      rw [ird_rdapp, List.take_add_one, ka]
      unfold isub
      rw [List.flatMap_append]
      simp
    have hl1 := isub_len x (w.take k)
    have hl2 := gimg_len x y.toNat
    have hl3 := gimg_len x (-y).toNat
    have hl4 := ird_le (isub x (w.take k))
    have hS := ird_rdc (isub x (w.take k))
    rw [List.length_take] at hl1
    unfold Lr at hb
    rw [ht]
    generalize ird (isub x (w.take k)) = S at hl4 hS
    unfold F.word_Substitute_b1
    dsimp only
    rw [decide_eq_true (by omega), cond_true, get_at rfl ka, Option.bind_some]
    by_cases hp : 0 < y
    · rw [decide_eq_true hp, cond_true, chk_ok (by omega) (by omega), Option.bind_some, get_at (k := y.toNat - 1) (by omega) (imgs_at (by omega)), Option.bind_some, Nat.sub_add_cancel (by omega), wordPush hS (hsm (by omega) (by omega)) (by omega) n (by omega), Option.bind_some, chk_ok (by omega) (by omega)]
      unfold iimg
      rw [if_pos hp]
      rfl
    · rw [decide_eq_false hp, cond_false, chk_ok (by omega) (by omega), Option.bind_some, chk_ok (by omega) (by omega), Option.bind_some, get_at (k := (-y).toNat - 1) (by omega) (imgs_at (by omega)), Option.bind_some, Nat.sub_add_cancel (by omega)]
      have hi : iimg x y = neg (gimg x (-y).toNat) := by unfold iimg; rw [if_neg hp]
      rw [hi]
      have hG := hsm (k := (-y).toNat) (by omega) (by omega)
      generalize gimg x (-y).toNat = G at hl3 hG
      have inner := count_loop (body := F.word_Substitute_b2 n G) (fun k => (k, ird (S ++ (neg G).take k))) G.length (r := ird (S ++ neg G)) (fun k hk => by
        have hr : G.reverse[k]? = some (G.reverse[k]'(by simpa using hk)) := List.getElem?_eq_getElem _
        have hz := hG _ (List.mem_reverse.1 (List.getElem_mem (show k < G.reverse.length by simpa using hk)))
        have hz2 : (neg G)[k]? = some (-(G.reverse[k]'(by simpa using hk))) := by
          unfold neg
          rw [← List.map_reverse, List.getElem?_map, hr]; rfl
        generalize G.reverse[k]'(by simpa using hk) = z at hr hz hz2
        unfold F.word_Substitute_b2
        dsimp only
        have hle := ird_le (S ++ (neg G).take k)
        rw [List.length_append, List.length_take, neg_len] at hle
        rw [decide_eq_true hk, cond_true, hr, Option.bind_some, chk_ok (by omega) (by omega), Option.bind_some, wordPush (ird_rdc _) (fun q hq => by rw [List.mem_singleton] at hq; subst hq; omega) (by simp only [List.length_singleton]; omega) n (by simp only [List.length_singleton]; omega), Option.bind_some, ird_rdapp, List.take_add_one, hz2, ← List.append_assoc]
        rfl) (by
        unfold F.word_Substitute_b2
        dsimp only
        rw [decide_eq_false (Nat.lt_irrefl _), cond_false, List.take_of_length_le (by rw [neg_len]; omega)]) n (by omega)
      have e : loopN n (F.word_Substitute_b2 n G) (0, S) = some (ird (S ++ neg G)) := by
        have e1 : (0, ird (S ++ (neg G).take 0)) = (0, S) := by rw [List.take_zero, List.append_nil, ird_of hS]
        rw [← e1]; exact inner
      rw [e, Option.bind_some]
      rw [chk_ok (by omega) (by omega)]
      rfl) (by
    unfold F.word_Substitute_b1
    dsimp only
    rw [decide_eq_false (by omega), cond_false, List.take_length]) n (by omega)
  have e : loopN n (F.word_Substitute_b1 n w (imgs s x)) (0, ([] : List Int)) = some ((w.length : Int), ird (isub x w)) := this
  rw [e]; rfl
/-! The action of a word of letters. -/
def fact : List Int → List Int → List Int
  | [], u => u
  | x :: w, u => fact w (ird (isub x u))
def afull : List Int → List Int → Bool
  | [], u => decide (20000 < u.length)
  | x :: w, u => decide (20000 < u.length) || afull w (ird (isub x u))
theorem loop_inl {S R : Type} {m : Nat} {body : S → Option (S ⊕ R)} {s s' : S} (h : body s = some (.inl s')) : loopN (m + 1) body s = loopN m body s' := by simp only [loopN, h, Option.bind_some]
theorem loop_inr {S R : Type} {m : Nat} {body : S → Option (S ⊕ R)} {s : S} {r : R} (h : body s = some (.inr r)) : loopN (m + 1) body s = some r := by simp only [loopN, h, Option.bind_some]
theorem afull_true {w u : List Int} (h : 20000 < u.length) : afull w u = true := by
  cases w with
  | nil => exact decide_eq_true h
  | cons x w => show (decide _ || _) = true; rw [decide_eq_true h]; rfl
theorem afull_cons {x : Int} {w u : List Int} (h : ¬ 20000 < u.length) : afull (x :: w) u = afull w (ird (isub x u)) := by
  show (decide (20000 < u.length) || _) = _
  rw [decide_eq_false h, Bool.false_or]
theorem isub_ird_lr {s : Nat} {x : Int} (hx : x ≠ 0 ∧ -(s : Int) < x ∧ x < s) {u : List Int} (hu : ∀ y ∈ u, Lr s y) : ∀ y ∈ ird (isub x u), Lr s y := fun y hy => isub_lr hx hu y (ird_mem y hy)
theorem actLoop {s : Nat} (hs : 1 ≤ s ∧ s ≤ 10) {w : List Int} (hw : Rg s w) (hl : w.length ≤ 1000) (n : Nat) (hn : 1000000 ≤ n) : ∀ (v : List Int) (k : Nat) (u : List Int) (m : Nat), w.drop k = v → k + v.length = w.length → v.length < m → (∀ y ∈ u, Lr s y) → u.length ≤ 20000 →
    loopN m (F.artin_Act_b0 n (s : Int) w) (u, (k : Int)) = some (if afull v u = true then .inr ([], 5) else .inl (fact v u, (w.length : Int)))
  | [], k, u, m, hd, hk, hm, hu, hul => by
    obtain ⟨m, rfl⟩ : ∃ m', m = m' + 1 := ⟨m - 1, by omega⟩
    simp only [List.length_nil, Nat.add_zero] at hk
    subst hk
    have hb : F.artin_Act_b0 n (s : Int) w (u, (w.length : Int)) = some (.inr (.inl (u, (w.length : Int)))) := by
      unfold F.artin_Act_b0
      dsimp only
      rw [decide_eq_false (by omega), cond_false]
    rw [loop_inr hb, show afull [] u = false from decide_eq_false (by omega)]
    rfl
  | x :: v, k, u, m, hd, hk, hm, hu, hul => by
    obtain ⟨m, rfl⟩ : ∃ m', m = m' + 1 := ⟨m - 1, by omega⟩
    simp only [List.length_cons] at hk hm
    have hx : w[k]? = some x := by
      have := congrArg (·[0]?) hd
      simpa using this
    have hd' : w.drop (k + 1) = v := by
      rw [← List.drop_drop, hd]; rfl
    have hxr := hw x (List.mem_of_getElem? hx)
    rw [afull_cons (by omega)]
    by_cases hf : 20000 < (ird (isub x u)).length
    · have hb : F.artin_Act_b0 n (s : Int) w (u, (k : Int)) = some (.inr (.inr ([], 5))) := by
        unfold F.artin_Act_b0
        dsimp only
        rw [decide_eq_true (by omega), cond_true, get_at rfl hx, Option.bind_some, actC1 hs hxr _ n (by omega), Option.bind_some, wordSubst hs hxr hu hul n hn, Option.bind_some]
        dsimp only
        rw [decide_eq_true rfl, Bool.not_true, cond_false, decide_eq_true (by omega), cond_true]
      rw [loop_inr hb, afull_true hf]; rfl
    · have hb : F.artin_Act_b0 n (s : Int) w (u, (k : Int)) = some (.inl (ird (isub x u), ((k + 1 : Nat) : Int))) := by
        unfold F.artin_Act_b0
        dsimp only
        rw [decide_eq_true (by omega), cond_true, get_at rfl hx, Option.bind_some, actC1 hs hxr _ n (by omega), Option.bind_some, wordSubst hs hxr hu hul n hn, Option.bind_some]
        dsimp only
        rw [decide_eq_true rfl, Bool.not_true, cond_false, decide_eq_false (by omega), cond_false, chk_ok (by omega) (by omega)]
        rfl
      rw [loop_inl hb, actLoop hs hw hl n hn v (k + 1) _ m hd' (by omega) (by omega) (isub_ird_lr hxr hu) (by omega)]
      rfl
theorem ird_sm {u : List Int} {s : Nat} (hu : ∀ y ∈ u, Lr s y) : ∀ y ∈ ird u, Lr s y := fun y hy => hu y (ird_mem y hy)
theorem lr_sm {u : List Int} {s : Nat} (hs : s ≤ 10) (hu : ∀ y ∈ u, Lr s y) : Sm u := fun y hy => by have := hu y hy; unfold Lr at this; omega
/-- THE PROGRAM'S ACTION. -/
theorem artinAct {s : Nat} {w u : List Int} (hv : okB (s : Int) w = true) (hu : ∀ y ∈ u, Lr s y) (hl : u.length ≤ 100000) (n : Nat) (hn : 1000000 ≤ n) : F.artin_Act n (s : Int) w u = some (if afull w (ird u) = true then ([], 5) else (fact w (ird u), 0)) := by
  obtain ⟨a1, a2, a3, a4⟩ := okB_iff.1 hv
  have hw : Rg s w := fun x hx => a4 x hx
  unfold F.artin_Act
  rw [braidValid n (by omega), hv, Option.bind_some, Bool.not_true, cond_false, wordValid (by omega) (by omega) n (by omega), wV_iff.2 (fun y hy => by have := hu y hy; unfold Lr at this; omega), Option.bind_some, Bool.not_true, cond_false, wordReduce (lr_sm (by omega) hu) (by omega) n (by omega), Option.bind_some]
  by_cases hf : 20000 < (ird u).length
  · rw [decide_eq_true (by omega), cond_true]
    rw [afull_true hf]; rfl
  · rw [decide_eq_false (by omega), cond_false]
    have := actLoop (by omega) hw (by omega) n hn w 0 (ird u) n rfl (by omega) (by omega) (ird_sm hu) (by omega)
    have e : loopN n (F.artin_Act_b0 n (s : Int) w) (ird u, 0) = _ := this
    rw [e, Option.bind_some]
    cases afull w (ird u) <;> rfl
theorem refLoop {s : Nat} (hs : 1 ≤ s ∧ s ≤ 10) {w : List Int} (hw : Rg s w) (hl : w.length ≤ 1000) (n : Nat) (hn : 10000000000 ≤ n) : ∀ (v : List Int) (k : Nat) (u : List Int) (m : Nat), w.drop k = v → k + v.length = w.length → v.length + 1 < m → (∀ y ∈ u, Lr s y) →
    loopN m (F.ref35_Act_b0 n (s : Int) w) (u, (k : Int)) = some (if afull v u = true then .inr ([], false) else .inl (fact v u, (w.length : Int) + 1))
  | [], k, u, m, hd, hk, hm, hu => by
    obtain ⟨m, rfl⟩ : ∃ m', m = m' + 1 + 1 := ⟨m - 2, by simp at hm; omega⟩
    simp only [List.length_nil, Nat.add_zero] at hk
    subst hk
    by_cases hf : 20000 < u.length
    · have hb : F.ref35_Act_b0 n (s : Int) w (u, (w.length : Int)) = some (.inr (.inr ([], false))) := by
        unfold F.ref35_Act_b0
        dsimp only
        rw [decide_eq_true (by omega), cond_true, decide_eq_true (by omega), cond_true]
      rw [loop_inr hb, afull_true hf]; rfl
    · have hb : F.ref35_Act_b0 n (s : Int) w (u, (w.length : Int)) = some (.inl (u, (w.length : Int) + 1)) := by
        unfold F.ref35_Act_b0
        dsimp only
        rw [decide_eq_true (by omega), cond_true, decide_eq_false (by omega), cond_false, decide_eq_false (by omega), cond_false, chk_ok (by omega) (by omega)]; rfl
      have hb2 : F.ref35_Act_b0 n (s : Int) w (u, (w.length : Int) + 1) = some (.inr (.inl (u, (w.length : Int) + 1))) := by
        unfold F.ref35_Act_b0
        dsimp only
        rw [decide_eq_false (by omega), cond_false]
      rw [loop_inl hb, loop_inr hb2, show afull [] u = false from decide_eq_false hf]; rfl
  | x :: v, k, u, m, hd, hk, hm, hu => by
    obtain ⟨m, rfl⟩ : ∃ m', m = m' + 1 := ⟨m - 1, by omega⟩
    simp only [List.length_cons] at hk hm
    have hx : w[k]? = some x := by
      have := congrArg (·[0]?) hd
      simpa using this
    have hd' : w.drop (k + 1) = v := by
      rw [← List.drop_drop, hd]; rfl
    have hxr := hw x (List.mem_of_getElem? hx)
    by_cases hf : 20000 < u.length
    · have hb : F.ref35_Act_b0 n (s : Int) w (u, (k : Int)) = some (.inr (.inr ([], false))) := by
        unfold F.ref35_Act_b0
        dsimp only
        rw [decide_eq_true (by omega), cond_true, decide_eq_true (by omega), cond_true]
      rw [loop_inr hb, afull_true hf]; rfl
    · have hb : F.ref35_Act_b0 n (s : Int) w (u, (k : Int)) = some (.inl (ird (isub x u), ((k + 1 : Nat) : Int))) := by
        unfold F.ref35_Act_b0
        dsimp only
        rw [decide_eq_true (by omega), cond_true, decide_eq_false (by omega), cond_false, decide_eq_true (by omega), cond_true, get_at rfl hx, Option.bind_some, refLetters hs hxr n (by omega), Option.bind_some, subst_eq hs hxr hu (by omega) n hn, Option.bind_some, chk_ok (by omega) (by omega)]
        rfl
      rw [loop_inl hb, refLoop hs hw hl n hn v (k + 1) _ m hd' (by omega) (by omega) (isub_ird_lr hxr hu), afull_cons hf]
      rfl
/-- THE REFERENCE'S ACTION. -/
theorem refAct {s : Nat} {w u : List Int} (hv : okB (s : Int) w = true) (hu : ∀ y ∈ u, Lr s y) (hl : u.length ≤ 70000) (n : Nat) (hn : 10000000000 ≤ n) : F.ref35_Act n (s : Int) w u = some (if afull w (ird u) = true then ([], false) else (fact w (ird u), true)) := by
  obtain ⟨a1, a2, a3, a4⟩ := okB_iff.1 hv
  have hw : Rg s w := fun x hx => a4 x hx
  unfold F.ref35_Act
  rw [reduce_eq (lr_sm (by omega) hu) hl n hn, Option.bind_some]
  have := refLoop (by omega) hw (by omega) n hn w 0 (ird u) n rfl (by omega) (by omega) (ird_sm hu)
  have e : loopN n (F.ref35_Act_b0 n (s : Int) w) (ird u, 0) = _ := this
  rw [e, Option.bind_some]
  cases afull w (ird u) <;> rfl
end Gar
end Go.Proofs.Ytlkmcbgkohpmiaa
