/- The action of a braid on words, as the reference computes it. -/
import Derived.Test.YtkeaonceaaafcaaPGint
import Derived.Test.YtkeaonceaaafcaaPLoop
set_option linter.unusedVariables false
set_option linter.unusedSimpArgs false
namespace Go.Proofs.Ytkeaonceaaafcaa
open Ev
namespace Gar
theorem cut_take (w : List Int) (i : Nat) : (w.drop (0 : Int).toNat).take ((i : Int).toNat - (0 : Int).toNat) = w.take i := by
  rw [show (0 : Int).toNat = 0 from rfl, List.drop_zero, Nat.sub_zero, Int.toNat_natCast]
theorem cut_drop (w : List Int) (i : Nat) : (w.drop (i : Int).toNat).take ((w.length : Int).toNat - (i : Int).toNat) = w.drop i := by
  rw [Int.toNat_natCast, Int.toNat_natCast, List.take_of_length_le (by rw [List.length_drop]; omega)]
theorem irdc_of {l : List Int} (h : ∀ (k : Nat) (a b : Int), l[k]? = some a → l[k + 1]? = some b → a ≠ -b) : Irdc l := by
  induction l with
  | nil => trivial
  | cons a l ih =>
    cases l with
    | nil => trivial
    | cons b t => exact ⟨h 0 a b rfl rfl, ih fun k c d hc hd => h (k + 1) c d (by simpa using hc) (by simpa using hd)⟩
/-- Letters within bounds. -/
def Sm (w : List Int) : Prop := ∀ y ∈ w, -1000 ≤ y ∧ y ≤ 1000
theorem redStep (n : Nat) {l : List Int} {v : Nat} (hs : Sm l) (hl : l.length ≤ 100000) :
    (∃ a b, v + 1 < l.length ∧ l[v]? = some a ∧ l[v + 1]? = some b ∧ a = -b ∧ F.ref21_Reduce_b0 n (l, (v : Int)) = some (.inl (l.take v ++ l.drop (v + 2), 0))) ∨
    (∃ a b, v + 1 < l.length ∧ l[v]? = some a ∧ l[v + 1]? = some b ∧ a ≠ -b ∧ F.ref21_Reduce_b0 n (l, (v : Int)) = some (.inl (l, ((v + 1 : Nat) : Int)))) ∨
    (l.length ≤ v + 1 ∧ F.ref21_Reduce_b0 n (l, (v : Int)) = some (.inr (l, (v : Int)))) ∨ 200000 ≤ v := by
  by_cases hv : 200000 ≤ v
  · exact .inr (.inr (.inr hv))
  unfold F.ref21_Reduce_b0
  dsimp only
  rw [chk_ok (by omega) (by omega), Option.bind_some]
  by_cases hlt : v + 1 < l.length
  · have ga := List.getElem?_eq_getElem (show v < l.length by omega)
    have gb := List.getElem?_eq_getElem hlt
    have ba := hs _ (List.getElem_mem (show v < l.length by omega))
    have bb := hs _ (List.getElem_mem hlt)
    generalize l[v]'(by omega) = a at ga ba
    generalize l[v + 1]'hlt = b at gb bb
    rw [decide_eq_true (by omega), cond_true, get_at rfl ga, Option.bind_some, Option.bind_some, get_at (by omega) gb, Option.bind_some, chk_ok (z := -b) (by omega) (by omega), Option.bind_some]
    by_cases e : a = -b
    · left
      refine ⟨a, b, hlt, ga, gb, e, ?_⟩
      rw [decide_eq_true e, cond_true, cut_ok (by omega) (by omega) (by omega), Option.bind_some, cut_take, lim_ok (by simp; omega), Option.bind_some, chk_ok (by omega) (by omega), Option.bind_some, cut_ok (by omega) (by omega) (by omega), Option.bind_some, show (v : Int) + 2 = ((v + 2 : Nat) : Int) by omega, cut_drop, lim_ok (by simp; omega)]
      rfl
    · right; left
      refine ⟨a, b, hlt, ga, gb, e, ?_⟩
      rw [decide_eq_false e, cond_false]
      rfl
  · right; right; left
    refine ⟨by omega, ?_⟩
    rw [decide_eq_false (by omega), cond_false]
theorem reduce_eq {w : List Int} (hs : Sm w) (hl : w.length ≤ 70000) (n : Nat) (hn : 10000000000 ≤ n) : F.ref21_Reduce n w = some (ird w) := by
  unfold F.ref21_Reduce
  rw [lim_ok (by simp; omega), Option.bind_some, List.nil_append]
  obtain ⟨r, r1, r2⟩ := loop_spec (body := F.ref21_Reduce_b0 n) (fun s => ∃ v : Nat, s.2 = (v : Int) ∧ Sm s.1 ∧ s.1.length ≤ w.length ∧ v ≤ w.length ∧ IE s.1 w ∧ ∀ (k : Nat) (a b : Int), k < v → s.1[k]? = some a → s.1[k + 1]? = some b → a ≠ -b)
    (fun s => s.1.length * 70001 + (70000 - s.2.toNat)) (fun r => r.1 = ird w) (fun s ⟨v, h1, h2, h3, h4, h5, h6⟩ => by
      obtain ⟨l, v'⟩ := s
      dsimp only at h1 h2 h3 h5 h6
      subst h1
      rcases redStep n (v := v) h2 (by omega) with ⟨a, b, c1, c2, c3, c4, c5⟩ | ⟨a, b, c1, c2, c3, c4, c5⟩ | ⟨c1, c2⟩ | c
      · left
        refine ⟨_, c5, ⟨0, rfl, fun y hy => ?_, ?_, by omega, ?_, fun k a b hk => absurd hk (by omega)⟩, ?_⟩
        · rcases List.mem_append.1 hy with h | h
          · exact h2 y (List.mem_of_mem_take h)
          · exact h2 y (List.mem_of_mem_drop h)
        · dsimp only; rw [List.length_append, List.length_take, List.length_drop]; omega
        · dsimp only
          have e : l = l.take v ++ a :: b :: l.drop (v + 2) := by
            refine (List.take_append_drop v l).symm.trans (congrArg (l.take v ++ ·) ?_)
            obtain ⟨i1, e1⟩ := List.getElem?_eq_some_iff.1 c2
            obtain ⟨i2, e2⟩ := List.getElem?_eq_some_iff.1 c3
            rw [← List.getElem_cons_drop i1, ← List.getElem_cons_drop i2, e1, e2]
          have hc : IE (l.take v ++ a :: b :: l.drop (v + 2)) (l.take v ++ l.drop (v + 2)) := ird_cancel _ _ a b c4
          rw [← e] at hc
          exact hc.symm.trans h5
        · dsimp only
          rw [List.length_append, List.length_take, List.length_drop]
          omega
      · left
        refine ⟨_, c5, ⟨v + 1, rfl, h2, h3, by omega, h5, fun k x y hk hx hy => ?_⟩, by dsimp only; omega⟩
        by_cases hkv : k < v
        · exact h6 k x y hkv hx hy
        · obtain rfl : k = v := by omega
          rw [c2] at hx; rw [c3] at hy
          injection hx with hx
          injection hy with hy
          subst hx; subst hy
          exact c4
      · right
        refine ⟨_, c2, ?_⟩
        dsimp only
        have hr : Irdc l := irdc_of fun k a b ha hb => by
          have := (List.getElem?_eq_some_iff.1 hb).1
          exact h6 k a b (by omega) ha hb
        have : ird l = ird w := h5
        rw [← this, ird_of hr]
      · omega) n (w, 0) ⟨0, rfl, hs, Nat.le_refl _, by omega, .refl _, fun k a b hk => absurd hk (by omega)⟩ (by dsimp only; omega)
  rw [r1, Option.bind_some]
  obtain ⟨a, b⟩ := r
  dsimp only at r2 ⊢
  rw [r2]
theorem neg_sm {w : List Int} (h : Sm w) : Sm (neg w) := fun y hy => by
  unfold neg at hy
  rw [List.mem_reverse, List.mem_map] at hy
  obtain ⟨z, h1, rfl⟩ := hy
  have := h z h1
  omega
theorem neg_len (w : List Int) : (neg w).length = w.length := by simp [neg]
theorem inverse_eq {w : List Int} (hs : Sm w) (hl : w.length ≤ 70000) (n : Nat) (hn : 10000000000 ≤ n) : F.ref21_Inverse n w = some (ird (neg w)) := by
  unfold F.ref21_Inverse
  have := count_loop (body := F.ref21_Inverse_b0 n w) (fun k => ((neg w).take k, ((w.length : Int) - 1 - (k : Int)))) w.length (r := (neg w, (w.length : Int) - 1 - (w.length : Int))) (fun k hk => by
    have hx : w[w.length - 1 - k]? = some (w[w.length - 1 - k]'(by omega)) := List.getElem?_eq_getElem _
    have hb := hs _ (List.getElem_mem (show w.length - 1 - k < w.length by omega))
    have hx2 : (neg w)[k]? = some (-(w[w.length - 1 - k]'(by omega))) := by
      unfold neg
      rw [List.getElem?_reverse (by rw [List.length_map]; omega), List.getElem?_map, List.length_map, hx]; rfl
    generalize w[w.length - 1 - k]'(by omega) = x at hx hx2 hb
    unfold F.ref21_Inverse_b0
    dsimp only
    rw [decide_eq_true (by omega), cond_true, get_at (k := w.length - 1 - k) (by omega) hx, Option.bind_some, chk_ok (by omega) (by omega), Option.bind_some, lim_ok (by simp; omega), Option.bind_some, chk_ok (by omega) (by omega), Option.bind_some, List.take_add_one, hx2, show (w.length : Int) - 1 - (k : Int) - 1 = (w.length : Int) - 1 - ((k + 1 : Nat) : Int) by omega]
    rfl) (by
    unfold F.ref21_Inverse_b0
    dsimp only
    rw [decide_eq_false (by omega), cond_false, List.take_of_length_le (by rw [neg_len]; omega)]) n (by omega)
  have e : ((neg w).take 0, (w.length : Int) - 1 - ((0 : Nat) : Int)) = (([] : List Int), (w.length : Int) - 1) := by simp
  rw [e] at this
  rw [chk_ok (by omega) (by omega), Option.bind_some, this, Option.bind_some]
  dsimp only
  rw [reduce_eq (neg_sm hs) (by rw [neg_len]; omega) n hn]
  rfl
/-! The substitution of one letter. -/
def imgs (s : Nat) (x : Int) : List (List Int) := (List.range s).map fun k => gimg x (k + 1)
theorem imgs_at {s : Nat} {x : Int} {k : Nat} (h : k < s) : (imgs s x)[k]? = some (gimg x (k + 1)) := by simp [imgs, h]
theorem gimg_len (x : Int) (k : Nat) : (gimg x k).length ≤ 3 := by
  unfold gimg
  split
  · split <;> simp
  · split
    · split <;> simp
    · simp
theorem iimg_len (x y : Int) : (iimg x y).length ≤ 3 := by
  unfold iimg
  split
  · exact gimg_len _ _
  · rw [neg_len]; exact gimg_len _ _
theorem isub_len (x : Int) (w : List Int) : (isub x w).length ≤ 3 * w.length := by
  unfold isub
  induction w with
  | nil => simp
  | cons y w ih =>
    rw [List.flatMap_cons, List.length_append, List.length_cons]
    have := iimg_len x y; omega
theorem gimg_neg_rdc {x : Int} (hx : x ≠ 0) {k : Nat} (hk : 1 ≤ k) : Irdc (neg (gimg x k)) := by
  unfold gimg
  split
  · split
    · simp only [neg, List.map_cons, List.map_nil, List.reverse_cons, List.reverse_nil, List.nil_append, List.cons_append, Irdc]
      refine ⟨?_, ?_, trivial⟩ <;> omega
    · trivial
  · split
    · split
      · trivial
      · simp only [neg, List.map_cons, List.map_nil, List.reverse_cons, List.reverse_nil, List.nil_append, List.cons_append, Irdc]
        refine ⟨?_, ?_, trivial⟩ <;> omega
    · trivial
theorem subst_eq {s : Nat} {x : Int} (hs : 1 ≤ s ∧ s ≤ 10) (hx : x ≠ 0 ∧ -(s : Int) < x ∧ x < s) {w : List Int} (hw : ∀ y ∈ w, Lr s y) (hl : w.length ≤ 20000) (n : Nat) (hn : 10000000000 ≤ n) : F.ref21_Substitute n w (imgs s x) = some (ird (isub x w)) := by
  unfold F.ref21_Substitute
  have hsm : ∀ {k : Nat}, 1 ≤ k → k ≤ s → Sm (gimg x k) := fun {k} h1 h2 y hy => by
    have := gimg_lr hx h1 h2 y hy
    unfold Lr at this; omega
  have := count_loop (body := F.ref21_Substitute_b0 n w (imgs s x)) (fun k => (isub x (w.take k), (k : Int))) w.length (r := (isub x w, (w.length : Int))) (fun k hk => by
    have ka : w[k]? = some (w[k]'hk) := List.getElem?_eq_getElem _
    have hb := hw _ (List.getElem_mem hk)
    generalize w[k]'hk = y at ka hb
    have ht : isub x (w.take (k + 1)) = isub x (w.take k) ++ iimg x y := by
      rw [List.take_add_one, ka]
      unfold isub
      rw [List.flatMap_append]
      simp
    have hl1 := isub_len x (w.take k)
    have hl2 := gimg_len x y.toNat
    have hl3 := gimg_len x (-y).toNat
    rw [List.length_take] at hl1
    unfold Lr at hb
    unfold F.ref21_Substitute_b0
    dsimp only
    rw [decide_eq_true (by omega), cond_true, get_at rfl ka, Option.bind_some, ht]
    by_cases hp : 0 < y
    · rw [decide_eq_true hp, cond_true, Option.bind_some, chk_ok (by omega) (by omega), Option.bind_some, get_at (k := y.toNat - 1) (by omega) (imgs_at (by omega)), Option.bind_some, Nat.sub_add_cancel (by omega), lim_ok (by omega), Option.bind_some, chk_ok (by omega) (by omega)]
      unfold iimg
      rw [if_pos hp]
      rfl
    · rw [decide_eq_false hp, cond_false, Option.bind_some, chk_ok (by omega) (by omega), Option.bind_some, chk_ok (by omega) (by omega), Option.bind_some, get_at (k := (-y).toNat - 1) (by omega) (imgs_at (by omega)), Option.bind_some, Nat.sub_add_cancel (by omega), inverse_eq (hsm (by omega) (by omega)) (by omega) n hn, Option.bind_some, ird_of (gimg_neg_rdc hx.1 (by omega)), neg_len, lim_ok (by omega), Option.bind_some, chk_ok (by omega) (by omega)]
      unfold iimg
      rw [if_neg hp]
      rfl) (by
    unfold F.ref21_Substitute_b0
    dsimp only
    rw [decide_eq_false (by omega), cond_false, List.take_length]) n (by omega)
  have e : loopN n (F.ref21_Substitute_b0 n w (imgs s x)) (([] : List Int), 0) = some (isub x w, (w.length : Int)) := this
  rw [e, Option.bind_some]
  dsimp only
  have hlen := isub_len x w
  rw [reduce_eq (fun y hy => by
    have := isub_lr hx hw y hy
    unfold Lr at this; omega) (by omega) n hn]
  rfl
/-! The action. -/
def acts (s : Nat) (w : List Int) : List (List Int) := (List.range s).map fun j => iact w (j + 1)
theorem acts_len (s : Nat) (w : List Int) : (acts s w).length = s := by simp [acts]
theorem acts_at {s : Nat} {w : List Int} {k : Nat} (h : k < s) : (acts s w)[k]? = some (iact w (k + 1)) := by simp [acts, h]
theorem actInit {s : Nat} (hs : s ≤ 10) (n : Nat) (hn : 10000000000 ≤ n) : loopN n (F.ref34_Action_b0 n (s : Int)) (([] : List (List Int)), 0) = some (acts s [], (s : Int)) := by
  have := count_loop (body := F.ref34_Action_b0 n (s : Int)) (fun k => (acts k [], (k : Int))) s (r := (acts s [], (s : Int))) (fun k hk => by
    unfold F.ref34_Action_b0
    dsimp only
    rw [decide_eq_true (by omega), cond_true, chk_ok (by omega) (by omega), Option.bind_some, lim_ok (by rw [acts_len]; simp; omega), Option.bind_some]
    unfold acts
    rw [List.range_succ, List.map_append]
    rfl) (by
    unfold F.ref34_Action_b0
    dsimp only
    rw [decide_eq_false (by omega), cond_false]) n (by omega)
  exact this
theorem identRows {s : Nat} (hs : s ≤ 10) (n : Nat) (hn : 10000000000 ≤ n) : loopN n (F.ref34_Action_b3 n (s : Int)) (0, List.replicate s ([] : List Int)) = some ((s : Int), acts s []) := by
  have := count_loop (body := F.ref34_Action_b3 n (s : Int)) (fun k => ((k : Int), acts k [] ++ List.replicate (s - k) ([] : List Int))) s (r := ((s : Int), acts s [])) (fun k hk => by
    have e : List.replicate (s - k) ([] : List Int) = [] :: List.replicate (s - (k + 1)) [] := by
      rw [show s - k = s - (k + 1) + 1 by omega]; rfl
    unfold F.ref34_Action_b3
    dsimp only
    rw [decide_eq_true (by omega), cond_true, chk_ok (by omega) (by omega), Option.bind_some, e, get_at (k := k) (x := []) rfl (by rw [List.getElem?_append_right (by rw [acts_len]; omega), acts_len, Nat.sub_self]; rfl), Option.bind_some, Option.bind_some, Int.toNat_natCast, List.set_append_right _ _ (by rw [acts_len]; omega), acts_len, Nat.sub_self]
    have e2 : acts (k + 1) [] = acts k [] ++ [[(k : Int) + 1]] := by
      unfold acts
      rw [List.range_succ, List.map_append]
      rfl
    rw [e2, List.append_assoc]
    rfl) (by
    unfold F.ref34_Action_b3
    dsimp only
    rw [decide_eq_false (by omega), cond_false, Nat.sub_self]
    simp) n (by omega)
  exact this
theorem set_imgs {s : Nat} {x : Int} (hx : x ≠ 0 ∧ -(s : Int) < x ∧ x < s) {i : Nat} (hi : i = x.natAbs) (A B : List Int) (hA : A = gimg x i) (hB : B = gimg x (i + 1)) : ((acts s []).set (i - 1) A).set i B = imgs s x := by
  subst hA; subst hB
  apply List.ext_getElem?
  intro k
  by_cases hk : k < s
  · rw [imgs_at hk, List.getElem?_set]
    by_cases h1 : i = k
    · subst h1
      rw [if_pos rfl, if_pos (by rw [List.length_set, acts_len]; exact hk)]
    · rw [if_neg h1, List.getElem?_set]
      by_cases h2 : i - 1 = k
      · rw [if_pos h2, if_pos (by rw [acts_len]; omega), show k + 1 = i by omega]
      · rw [if_neg h2, acts_at hk]
        unfold gimg
        rw [if_neg (by omega), if_neg (by omega)]
        rfl
  · rw [List.getElem?_eq_none (by rw [List.length_set, List.length_set, acts_len]; omega), List.getElem?_eq_none (by simp [imgs]; omega)]
theorem actRow {s : Nat} (hs : 1 ≤ s ∧ s ≤ 10) {x : Int} (hx : x ≠ 0 ∧ -(s : Int) < x ∧ x < s) {w : List Int} (hw : Rg s w) (hl : ∀ j, 1 ≤ j → j ≤ s → (iact w j).length ≤ 20000) (n : Nat) (hn : 10000000000 ≤ n) (v : Int) (hv : -100000 ≤ v ∧ v ≤ 100000) (b : Bool) :
    (F.ref34_Action_j4 n (s : Int) 20000 (acts s w) v b (imgs s x) = some (.inl (acts s (x :: w), v - 1)) ∧ ∀ j, 1 ≤ j → j ≤ s → (iact (x :: w) j).length ≤ 20000) ∨ F.ref34_Action_j4 n (s : Int) 20000 (acts s w) v b (imgs s x) = some (.inr (.inr [])) := by
  have hstep : ∀ k, k < s → (iact (x :: w) (k + 1)).length ≤ 20000 → F.ref34_Action_b5 n (s : Int) 20000 (acts s w) (imgs s x) (acts k (x :: w), (k : Int)) = some (.inl (acts (k + 1) (x :: w), ((k + 1 : Nat) : Int))) := fun k hk hle => by
    unfold F.ref34_Action_b5
    dsimp only
    rw [decide_eq_true (by omega), cond_true, get_at rfl (acts_at hk), Option.bind_some, subst_eq hs hx (iact_lr hw (by omega) (by omega)) (hl _ (by omega) (by omega)) n hn, Option.bind_some]
    have e : ird (isub x (iact w (k + 1))) = iact (x :: w) (k + 1) := rfl
    rw [e, decide_eq_false (by omega), cond_false, lim_ok (by rw [acts_len]; simp; omega), Option.bind_some, chk_ok (by omega) (by omega)]
    have e2 : acts (k + 1) (x :: w) = acts k (x :: w) ++ [iact (x :: w) (k + 1)] := by
      unfold acts
      rw [List.range_succ, List.map_append]
      rfl
    rw [e2]
    rfl
  have hstop : ∀ k, k < s → ¬ (iact (x :: w) (k + 1)).length ≤ 20000 → F.ref34_Action_b5 n (s : Int) 20000 (acts s w) (imgs s x) (acts k (x :: w), (k : Int)) = some (.inr (.inr [])) := fun k hk hle => by
    unfold F.ref34_Action_b5
    dsimp only
    rw [decide_eq_true (by omega), cond_true, get_at rfl (acts_at hk), Option.bind_some, subst_eq hs hx (iact_lr hw (by omega) (by omega)) (hl _ (by omega) (by omega)) n hn, Option.bind_some]
    have e : ird (isub x (iact w (k + 1))) = iact (x :: w) (k + 1) := rfl
    rw [e, decide_eq_true (by omega), cond_true]
  have hend : F.ref34_Action_b5 n (s : Int) 20000 (acts s w) (imgs s x) (acts s (x :: w), (s : Int)) = some (.inr (.inl (acts s (x :: w), (s : Int)))) := by
    unfold F.ref34_Action_b5
    dsimp only
    rw [decide_eq_false (by omega), cond_false]
  have e0 : (acts 0 (x :: w), ((0 : Nat) : Int)) = (([] : List (List Int)), (0 : Int)) := rfl
  unfold F.ref34_Action_j4
  by_cases hall : ∀ k, k < s → (iact (x :: w) (k + 1)).length ≤ 20000
  · left
    have := count_loop (body := F.ref34_Action_b5 n (s : Int) 20000 (acts s w) (imgs s x)) (fun k => (acts k (x :: w), (k : Int))) s (fun k hk => hstep k hk (hall k hk)) hend n (by omega)
    rw [e0] at this
    refine ⟨?_, fun j j1 j2 => ?_⟩
    · rw [this, Option.bind_some]
      dsimp only
      rw [chk_ok (by omega) (by omega)]
      rfl
    · have := hall (j - 1) (by omega)
      rwa [Nat.sub_add_cancel j1] at this
  · right
    obtain ⟨k0, hk0⟩ := Classical.not_forall.1 hall
    have hex : ∃ k, k < s ∧ ¬ (iact (x :: w) (k + 1)).length ≤ 20000 := ⟨k0, Classical.not_imp.1 hk0⟩
    obtain ⟨k, ⟨h1, h2⟩, h3⟩ := count_until.least hex
    have := count_loop (body := F.ref34_Action_b5 n (s : Int) 20000 (acts s w) (imgs s x)) (fun k => (acts k (x :: w), (k : Int))) k (fun j hj => hstep j (by omega) (Classical.byContradiction fun hc => h3 j hj ⟨by omega, hc⟩)) (hstop k h1 h2) n (by omega)
    rw [e0] at this
    rw [this, Option.bind_some]
theorem actStep {s : Nat} (hs : 1 ≤ s ∧ s ≤ 10) {u : List Int} (hu : Rg s u) {k : Nat} {x : Int} (hk : u[k]? = some x) (hkl : k ≤ 10000) (hl : ∀ j, 1 ≤ j → j ≤ s → (iact (u.drop (k + 1)) j).length ≤ 20000) (n : Nat) (hn : 10000000000 ≤ n) :
    (F.ref34_Action_b1 n (s : Int) u 20000 (acts s (u.drop (k + 1)), (k : Int)) = some (.inl (acts s (u.drop k), (k : Int) - 1)) ∧ ∀ j, 1 ≤ j → j ≤ s → (iact (u.drop k) j).length ≤ 20000) ∨ F.ref34_Action_b1 n (s : Int) u 20000 (acts s (u.drop (k + 1)), (k : Int)) = some (.inr (.inr [])) := by
  have hd : u.drop k = x :: u.drop (k + 1) := by
    obtain ⟨h1, h2⟩ := List.getElem?_eq_some_iff.1 hk
    rw [← List.getElem_cons_drop h1, h2]
  have hx := hu x (List.mem_of_getElem? hk)
  have hR : Rg s (u.drop (k + 1)) := fun y hy => hu y (List.mem_of_mem_drop hy)
  have hrow := fun b => actRow hs hx hR hl n hn (k : Int) (by omega) b
  have hj : ∀ b, F.ref34_Action_j2 n (s : Int) u 20000 (acts s (u.drop (k + 1))) (k : Int) (x.natAbs : Int) b = F.ref34_Action_j4 n (s : Int) 20000 (acts s (u.drop (k + 1))) (k : Int) (decide (0 < x)) (imgs s x) := fun b => by
    unfold F.ref34_Action_j2
    rw [pos_ok (by omega) (by omega), Option.bind_some, Int.toNat_natCast, identRows hs.2 n hn, Option.bind_some]
    dsimp only
    rw [get_at rfl hk, Option.bind_some]
    have t1 : ((x.natAbs : Int) - 1).toNat = x.natAbs - 1 := by omega
    have t2 : ((x.natAbs : Int)).toNat = x.natAbs := by omega
    by_cases hp : 0 < x
    · rw [decide_eq_true hp, cond_true, chk_ok (by omega) (by omega), Option.bind_some, chk_ok (by omega) (by omega), Option.bind_some, chk_ok (by omega) (by omega), Option.bind_some, get_at (k := x.natAbs - 1) (by omega) (acts_at (by omega)), Option.bind_some, t1]
      obtain ⟨z, hz⟩ : ∃ z, ((acts s []).set (x.natAbs - 1) [(x.natAbs : Int), (x.natAbs : Int) + 1, 0 - (x.natAbs : Int)])[x.natAbs]? = some z := ⟨_, List.getElem?_eq_getElem (by rw [List.length_set, acts_len]; omega)⟩
      rw [get_at (k := x.natAbs) rfl hz, Option.bind_some, t2, set_imgs hx rfl]
      · unfold gimg; rw [if_pos rfl, if_pos hp, show (0 : Int) - (x.natAbs : Int) = -(x.natAbs : Int) by omega]
      · unfold gimg; rw [if_neg (by omega), if_pos rfl, if_pos hp, show ((x.natAbs + 1 : Nat) : Int) - 1 = (x.natAbs : Int) by omega]
    · rw [decide_eq_false hp, cond_false, chk_ok (by omega) (by omega), Option.bind_some, chk_ok (by omega) (by omega), Option.bind_some, get_at (k := x.natAbs - 1) (by omega) (acts_at (by omega)), Option.bind_some, Option.bind_some, chk_ok (by omega) (by omega), Option.bind_some, Option.bind_some, t1]
      obtain ⟨z, hz⟩ : ∃ z, ((acts s []).set (x.natAbs - 1) [(x.natAbs : Int) + 1])[x.natAbs]? = some z := ⟨_, List.getElem?_eq_getElem (by rw [List.length_set, acts_len]; omega)⟩
      rw [get_at (k := x.natAbs) rfl hz, Option.bind_some, t2, set_imgs hx rfl]
      · unfold gimg; rw [if_pos rfl, if_neg hp]
      · unfold gimg; rw [if_neg (by omega), if_pos rfl, if_neg hp, show ((x.natAbs + 1 : Nat) : Int) - 1 = (x.natAbs : Int) by omega, show (0 : Int) - ((x.natAbs : Int) + 1) = -((x.natAbs + 1 : Nat) : Int) by omega, show (x.natAbs : Int) + 1 = ((x.natAbs + 1 : Nat) : Int) by omega]
  have hb : F.ref34_Action_b1 n (s : Int) u 20000 (acts s (u.drop (k + 1)), (k : Int)) = F.ref34_Action_j4 n (s : Int) 20000 (acts s (u.drop (k + 1))) (k : Int) (decide (0 < x)) (imgs s x) := by
    unfold F.ref34_Action_b1
    dsimp only
    rw [decide_eq_true (by omega), cond_true, get_at rfl hk, Option.bind_some]
    by_cases hn0 : x < 0
    · rw [decide_eq_true hn0, cond_true, chk_ok (by omega) (by omega), Option.bind_some, show (0 : Int) - x = (x.natAbs : Int) by omega, hj]
    · rw [decide_eq_false hn0, cond_false]
      have := hj false
      rwa [show (x.natAbs : Int) = x by omega] at this
  rw [hb, hd]
  exact hrow _
theorem action_eq {s : Nat} (hs : 1 ≤ s ∧ s ≤ 10) {u : List Int} (hu : Rg s u) (hl : u.length ≤ 10000) (n : Nat) (hn : 10000000000 ≤ n) : ∃ r, F.ref34_Action n (s : Int) u 20000 = some r ∧ (r = [] ∨ r = acts s u) := by
  unfold F.ref34_Action
  rw [actInit hs.2 n hn, Option.bind_some]
  dsimp only
  rw [chk_ok (by omega) (by omega), Option.bind_some]
  obtain ⟨r, r1, r2⟩ := loop_spec (body := F.ref34_Action_b1 n (s : Int) u 20000) (fun t => ∃ k : Nat, t = (acts s (u.drop k), (k : Int) - 1) ∧ k ≤ u.length ∧ ∀ j, 1 ≤ j → j ≤ s → (iact (u.drop k) j).length ≤ 20000) (fun t => (t.2 + 1).toNat)
    (fun r => r = .inr [] ∨ ∃ z, r = .inl (acts s u, z)) (fun t ⟨k, h1, h2, h3⟩ => by
      subst h1
      cases k with
      | zero =>
        right
        refine ⟨.inl (acts s u, (0 : Int) - 1), ?_, .inr ⟨_, rfl⟩⟩
        unfold F.ref34_Action_b1
        dsimp only
        rfl
      | succ k =>
        have hk : u[k]? = some (u[k]'(by omega)) := List.getElem?_eq_getElem _
        rw [show ((k + 1 : Nat) : Int) - 1 = (k : Int) by omega]
        rcases actStep hs hu hk (by omega) h3 n hn with ⟨c1, c2⟩ | c
        · exact .inl ⟨_, c1, ⟨k, rfl, by omega, c2⟩, by dsimp only; omega⟩
        · exact .inr ⟨_, c, .inl rfl⟩) n (acts s [], (u.length : Int) - 1) ⟨u.length, by rw [List.drop_length], Nat.le_refl _, fun j _ _ => by rw [List.drop_length]; simp [iact]⟩ (by dsimp only; omega)
  rw [r1, Option.bind_some]
  rcases r2 with rfl | ⟨z, rfl⟩
  · exact ⟨_, rfl, .inl rfl⟩
  · exact ⟨_, rfl, .inr rfl⟩
end Gar
end Go.Proofs.Ytkeaonceaaafcaa
