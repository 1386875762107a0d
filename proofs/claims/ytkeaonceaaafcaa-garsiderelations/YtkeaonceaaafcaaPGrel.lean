/- The plain law of GarsideRelations. -/
import Derived.Test.YtkeaonceaaafcaaPGsame
import Derived.Test.YtkeaonceaaafcaaPGawake
set_option linter.unusedVariables false
set_option linter.unusedSimpArgs false
namespace Go.Proofs.Ytkeaonceaaafcaa
open Ev
namespace Gar
section
variable {N : Nat}
def Lt (N : Nat) (x : Int) : Prop := x ≠ 0 ∧ -(N : Int) < x ∧ x < N
theorem Lt.neg {x : Int} (h : Lt N x) : Lt N (-x) := by unfold Lt at *; omega
theorem comm_neg {x y : Int} (hx : Lt N x) (h : BE N [x, y] [y, x]) : BE N [-x, y] [y, -x] := by
  have h1 : BE N ([-x] ++ [x, y] ++ [-x]) ([-x] ++ [y, x] ++ [-x]) := h.app [-x] [-x]
  have h2 : BE N [-x, x, y, -x] [y, -x] := by
    have := BE.one (N := N) (x := -x) hx.neg [] [y, -x]
    rwa [Int.neg_neg] at this
  have h3 : BE N [-x, y, x, -x] [-x, y] := BE.one (N := N) hx [-x, y] []
  exact h3.symm.trans (h1.symm.trans h2)
theorem comm_any {x y : Int} (hx : Lt N x) (hy : Lt N y) (h : x.natAbs + 1 < y.natAbs ∨ y.natAbs + 1 < x.natAbs) : BE N [x, y] [y, x] := by
  have pp : ∀ i j : Nat, 1 ≤ i → i < N → 1 ≤ j → j < N → (i + 1 < j ∨ j + 1 < i) → BE N [(i : Int), (j : Int)] [(j : Int), (i : Int)] := by
    intro i j h1 h2 h3 h4 h5
    rcases h5 with h5 | h5
    · exact BE.far [] [] h1 h2 h3 h4 h5
    · exact (BE.far [] [] h3 h4 h1 h2 h5).symm
  have np : ∀ (x : Int) (j : Nat), Lt N x → 1 ≤ j → j < N → (x.natAbs + 1 < j ∨ j + 1 < x.natAbs) → BE N [x, (j : Int)] [(j : Int), x] := by
    intro x j hx h3 h4 h5
    unfold Lt at hx
    have := pp x.natAbs j (by omega) (by omega) h3 h4 h5
    rcases (show x < 0 ∨ 0 ≤ x by omega) with hn | hn
    · have e : (x.natAbs : Int) = -x := by omega
      rw [e] at this
      have := comm_neg (N := N) (x := -x) (by unfold Lt; omega) this
      rwa [Int.neg_neg] at this
    · have e : (x.natAbs : Int) = x := by omega
      rwa [e] at this
  have hy' := hy
  unfold Lt at hy'
  have := np x y.natAbs hx (by omega) (by omega) h
  rcases (show y < 0 ∨ 0 ≤ y by omega) with hn | hn
  · have e : (y.natAbs : Int) = -y := by omega
    rw [e] at this
    have := comm_neg (N := N) (x := -y) (y := x) (by unfold Lt; omega) this.symm
    rw [Int.neg_neg] at this
    exact this.symm
  · have e : (y.natAbs : Int) = y := by omega
    rwa [e] at this
theorem braid_any {x y : Int} (hx : Lt N x) (hy : Lt N y) (h1 : 0 < x) (h2 : 0 < y) (h : x - y = 1 ∨ y - x = 1) : BE N [x, y, x] [y, x, y] := by
  unfold Lt at hx hy
  rcases h with h | h
  · have := BE.braid (N := N) [] [] (i := y.toNat) (by omega) (by omega)
    have e1 : ((y.toNat : Nat) : Int) = y := by omega
    have e2 : ((y.toNat + 1 : Nat) : Int) = x := by omega
    rw [e1, e2] at this
    exact this.symm
  · have := BE.braid (N := N) [] [] (i := x.toNat) (by omega) (by omega)
    have e1 : ((x.toNat : Nat) : Int) = x := by omega
    have e2 : ((x.toNat + 1 : Nat) : Int) = y := by omega
    rw [e1, e2] at this
    exact this
end
/-- Braids that are all equal to the first. -/
def GoodL (s : Int) (w : List Int) (L : List (Int × List Int)) : Prop := ∀ q ∈ L, q.1 = s ∧ okB s q.2 = true ∧ BE s.toNat q.2 w
theorem GoodL.snoc {s : Int} {w : List Int} {L : List (Int × List Int)} (h : GoodL s w L) {c : List Int} (h1 : okB s c = true) (h2 : BE s.toNat c w) : GoodL s w (L ++ [(s, c)]) := fun q hq => by
  rcases List.mem_append.1 hq with hq | hq
  · exact h q hq
  · rw [List.mem_singleton] at hq; subst hq; exact ⟨rfl, h1, h2⟩
theorem relLoop {s : Int} {w : List Int} (hv : okB s w = true) {L : List (Int × List Int)} (h : GoodL s w L) (hL : L.length ≤ 3) (n : Nat) (hn : 300000000 ≤ n) {y : Int × Int × List (List Int) × Int} (hy : F.garside_Form n s w = some y) : F.law34_GarsideRelations_j4 n s w y L = some true := by
  unfold F.law34_GarsideRelations_j4
  obtain ⟨p, qs, h1, h2⟩ := form_eq hv n hn
  obtain ⟨a1, a2, a3, a4⟩ := okB_iff.1 hv
  have hlen := h2.len hv
  have hy' := hy
  rw [h1] at hy'
  injection hy' with hy'
  have := count_loop (body := F.law34_GarsideRelations_b6 n s w y L) (fun k => (k : Int)) L.length (r := .inl (L.length : Int)) (fun k hk => by
    obtain ⟨b1, b2, b3⟩ := h _ (List.getElem_mem hk)
    have ka : L[k]? = some (L[k]'hk) := List.getElem?_eq_getElem _
    generalize L[k]'hk = q at b1 b2 b3 ka
    obtain ⟨q1, q2⟩ := q
    dsimp only at b1 b2 b3
    subst b1
    unfold F.law34_GarsideRelations_b6
    dsimp only
    rw [decide_eq_true (by omega), cond_true, get_at rfl ka, Option.bind_some]
    dsimp only
    rw [form_be b2 hv n hn b3, hy, Option.bind_some, ← hy']
    dsimp only
    rw [decide_eq_true rfl, Bool.not_true, cond_false, lawEqual_t n (by rw [ls_len]; omega) (fun x hx => by rw [ls_row x hx]; omega) (by omega), Option.bind_some, Bool.not_true, cond_false, garSame_be hv b2 n hn b3.symm, Option.bind_some, Bool.not_true, cond_false, chk_ok (by omega) (by omega)]
    rfl) (by
    unfold F.law34_GarsideRelations_b6
    dsimp only
    rw [decide_eq_false (by omega), cond_false]) n (by omega)
  have e : loopN n (F.law34_GarsideRelations_b6 n s w y L) 0 = some (.inl (L.length : Int)) := this
  rw [e]
  rfl
theorem ok_mid {s : Int} {w m m' : List Int} {i : Nat} (hv : okB s w = true) (hl : w.length ≤ 40) (hi : i ≤ w.length) (hm : m.length ≤ 3) (hm' : Rg s.toNat m) (k : Nat) : okB s (w.take i ++ m ++ w.drop k) = true := by
  obtain ⟨a1, a2, a3, a4⟩ := okB_iff.1 hv
  refine okB_iff.2 ⟨a1, a2, ?_, fun x hx => ?_⟩
  · rw [List.length_append, List.length_append, List.length_take, List.length_drop]; omega
  · rcases List.mem_append.1 hx with hx | hx
    · rcases List.mem_append.1 hx with hx | hx
      · exact a4 x (List.mem_of_mem_take hx)
      · have := hm' x hx; omega
    · exact a4 x (List.mem_of_mem_drop hx)
theorem take_cut (w : List Int) (i : Nat) : (w.drop (0 : Int).toNat).take ((i : Int).toNat - (0 : Int).toNat) = w.take i := by
  rw [show (0 : Int).toNat = 0 from rfl, List.drop_zero, Nat.sub_zero, Int.toNat_natCast]
theorem drop_cut (w : List Int) (i : Nat) : (w.drop (i : Int).toNat).take ((w.length : Int).toNat - (i : Int).toNat) = w.drop i := by
  rw [Int.toNat_natCast, Int.toNat_natCast, List.take_of_length_le (by rw [List.length_drop]; omega)]
theorem concat_mid (w m : List Int) (i k : Nat) (n : Nat) (hl : w.length ≤ 40) (hm : m.length ≤ 3) (hn : 1000 < n) : F.slices_Concat_Lint_int n [(w.drop (0 : Int).toNat).take ((i : Int).toNat - (0 : Int).toNat), m, (w.drop (k : Int).toNat).take ((w.length : Int).toNat - (k : Int).toNat)] = some (w.take i ++ m ++ w.drop k) := by
  rw [take_cut, drop_cut, concat_all _ n (by
    simp only [List.flatten_cons, List.flatten_nil, List.append_nil, List.length_append, List.length_take, List.length_drop]; omega) (by simp) hn]
  simp
theorem split_one {w : List Int} {i : Nat} {x : Int} (h : w[i]? = some x) : w.drop i = x :: w.drop (i + 1) := by
  obtain ⟨hk, e⟩ := List.getElem?_eq_some_iff.1 h
  rw [← e, List.getElem_cons_drop]
section
variable {s : Int} {w : List Int} (hv : okB s w = true) (hl : w.length ≤ 40) (n : Nat) (hn : 300000000 ≤ n) {y : Int × Int × List (List Int) × Int} (hy : F.garside_Form n s w = some y)
include hv hl hn hy
theorem rel5 {a z : Int} {i : Nat} (hi : i + 2 < w.length) (ha : Int.tmod a z = (i : Int)) {L : List (Int × List Int)} (h : GoodL s w L) (hL : L.length ≤ 2) {x t : Int} (hx : w[i]? = some x) (ht : w[i + 1]? = some t) (v : Bool) (hvv : v = true → w[i + 2]? = some x ∧ 0 < x ∧ 0 < t ∧ (x - t = 1 ∨ t - x = 1)) : F.law34_GarsideRelations_j5 n s w a y z L x t v = some true := by
  obtain ⟨a1, a2, a3, a4⟩ := okB_iff.1 hv
  unfold F.law34_GarsideRelations_j5
  cases v with
  | false => rw [cond_false, relLoop hv h (by omega) n hn hy]
  | true =>
    obtain ⟨b1, b2, b3, b4⟩ := hvv rfl
    have xl : Lt s.toNat x := by have := a4 x (List.mem_of_getElem? hx); unfold Lt; omega
    have tl : Lt s.toNat t := by have := a4 t (List.mem_of_getElem? ht); unfold Lt; omega
    rw [cond_true, ha, cut_ok (by omega) (by omega) (by omega), Option.bind_some, chk_ok (by omega) (by omega), Option.bind_some, cut_ok (by omega) (by omega) (by omega), Option.bind_some, show (i : Int) + 3 = ((i + 3 : Nat) : Int) by omega, concat_mid w _ i (i + 3) n hl (by simp) (by omega), Option.bind_some, lim_ok (by simp only [List.length_singleton]; omega), Option.bind_some]
    refine relLoop hv (h.snoc (ok_mid (m' := []) hv hl (by omega) (by simp) (fun q hq => ?_) _) ?_) (by rw [List.length_append]; simp only [List.length_singleton]; omega) n hn hy
    · simp only [List.mem_cons, List.not_mem_nil, or_false] at hq
      unfold Lt at xl tl
      rcases hq with rfl | rfl | rfl
      · exact tl
      · exact xl
      · exact tl
    · have e : w = w.take i ++ [x, t, x] ++ w.drop (i + 3) := by
        conv => lhs; rw [← List.take_append_drop i w, split_one hx, split_one ht, split_one b1]
        simp
      have := ((braid_any xl tl b2 b3 b4).app (w.take i) (w.drop (i + 3))).symm
      rwa [← e] at this
theorem rel2 {a z : Int} {i : Nat} (hi : i ≤ w.length) (ha : Int.tmod a z = (i : Int)) {L : List (Int × List Int)} (h : GoodL s w L) (hL : L.length ≤ 2) : F.law34_GarsideRelations_j2 n s w a y z L = some true := by
  obtain ⟨a1, a2, a3, a4⟩ := okB_iff.1 hv
  unfold F.law34_GarsideRelations_j2
  rw [ha, chk_ok (by omega) (by omega), Option.bind_some]
  by_cases hlt : (i : Int) + 2 < (w.length : Int)
  · have g0 := List.getElem?_eq_getElem (show i < w.length by omega)
    have g1 := List.getElem?_eq_getElem (show i + 1 < w.length by omega)
    have g2 := List.getElem?_eq_getElem (show i + 2 < w.length by omega)
    have r0 := a4 _ (List.getElem_mem (show i < w.length by omega))
    have r1 := a4 _ (List.getElem_mem (show i + 1 < w.length by omega))
    generalize w[i]'(by omega) = x at g0 r0
    generalize w[i + 1]'(by omega) = t at g1 r1
    generalize w[i + 2]'(by omega) = u at g2
    rw [decide_eq_true hlt, cond_true, get_at rfl g0, Option.bind_some, chk_ok (by omega) (by omega), Option.bind_some, get_at (by omega) g1, Option.bind_some, Option.bind_some, get_at (by omega) g2, Option.bind_some]
    have hf := rel5 hv hl n hn hy (by omega) ha h hL g0 g1 false (fun e => absurd e (by decide))
    by_cases c1 : 0 < x
    · rw [decide_eq_true c1, cond_true]
      by_cases c2 : 0 < t
      · rw [decide_eq_true c2, cond_true]
        by_cases c3 : x = u
        · rw [decide_eq_true c3, cond_true, chk_ok (by omega) (by omega), Option.bind_some]
          by_cases c4 : x - t = 1
          · rw [decide_eq_true c4, cond_true]
            exact rel5 hv hl n hn hy (by omega) ha h hL g0 g1 true (fun _ => ⟨by rw [g2, c3], c1, c2, .inl c4⟩)
          · rw [decide_eq_false c4, cond_false, chk_ok (show -9223372036854775808 ≤ t - x by omega) (by omega), Option.bind_some]
            exact rel5 hv hl n hn hy (by omega) ha h hL g0 g1 _ (fun e => ⟨by rw [g2, c3], c1, c2, .inr (of_decide_eq_true e)⟩)
        · rw [decide_eq_false c3, cond_false, hf]
      · rw [decide_eq_false c2, cond_false, hf]
    · rw [decide_eq_false c1, cond_false, hf]
  · rw [decide_eq_false hlt, cond_false, relLoop hv h (by omega) n hn hy]
theorem rel3 {a z : Int} {i : Nat} (hi : i + 1 < w.length) (ha : Int.tmod a z = (i : Int)) {L : List (Int × List Int)} (h : GoodL s w L) (hL : L.length ≤ 1) {x t : Int} (hx : w[i]? = some x) (ht : w[i + 1]? = some t) (v : Bool) (hvv : v = true → x.natAbs + 1 < t.natAbs ∨ t.natAbs + 1 < x.natAbs) : F.law34_GarsideRelations_j3 n s w a y z L x t v = some true := by
  obtain ⟨a1, a2, a3, a4⟩ := okB_iff.1 hv
  unfold F.law34_GarsideRelations_j3
  cases v with
  | false => rw [cond_false, rel2 hv hl n hn hy (by omega) ha h (by omega)]
  | true =>
    have b := hvv rfl
    have xl : Lt s.toNat x := by have := a4 x (List.mem_of_getElem? hx); unfold Lt; omega
    have tl : Lt s.toNat t := by have := a4 t (List.mem_of_getElem? ht); unfold Lt; omega
    rw [cond_true, ha, cut_ok (by omega) (by omega) (by omega), Option.bind_some, chk_ok (by omega) (by omega), Option.bind_some, cut_ok (by omega) (by omega) (by omega), Option.bind_some, show (i : Int) + 2 = ((i + 2 : Nat) : Int) by omega, concat_mid w _ i (i + 2) n hl (by simp) (by omega), Option.bind_some, lim_ok (by simp only [List.length_singleton]; omega), Option.bind_some]
    refine rel2 hv hl n hn hy (by omega) ha (h.snoc (ok_mid (m' := []) hv hl (by omega) (by simp) (fun q hq => ?_) _) ?_) (by rw [List.length_append]; simp only [List.length_singleton]; omega)
    · simp only [List.mem_cons, List.not_mem_nil, or_false] at hq
      unfold Lt at xl tl
      rcases hq with rfl | rfl
      · exact tl
      · exact xl
    · have e : w = w.take i ++ [x, t] ++ w.drop (i + 2) := by
        conv => lhs; rw [← List.take_append_drop i w, split_one hx, split_one ht]
        simp
      have := ((comm_any xl tl b).app (w.take i) (w.drop (i + 2))).symm
      rwa [← e] at this
theorem rel0 {a z : Int} {i : Nat} (hi : i ≤ w.length) (ha : Int.tmod a z = (i : Int)) {L : List (Int × List Int)} (h : GoodL s w L) (hL : L.length ≤ 1) : F.law34_GarsideRelations_j0 n s w a y z L = some true := by
  obtain ⟨a1, a2, a3, a4⟩ := okB_iff.1 hv
  unfold F.law34_GarsideRelations_j0
  rw [ha, chk_ok (by omega) (by omega), Option.bind_some]
  by_cases hlt : (i : Int) + 1 < (w.length : Int)
  · have g0 := List.getElem?_eq_getElem (show i < w.length by omega)
    have g1 := List.getElem?_eq_getElem (show i + 1 < w.length by omega)
    have r0 := a4 _ (List.getElem_mem (show i < w.length by omega))
    have r1 := a4 _ (List.getElem_mem (show i + 1 < w.length by omega))
    generalize w[i]'(by omega) = x at g0 r0
    generalize w[i + 1]'(by omega) = t at g1 r1
    rw [decide_eq_true hlt, cond_true, get_at rfl g0, Option.bind_some, Option.bind_some, get_at (by omega) g1, Option.bind_some, chk_ok (by omega) (by omega), Option.bind_some, chk_ok (by omega) (by omega), Option.bind_some, chk_ok (by omega) (by omega), Option.bind_some]
    by_cases c : 1 < max x (-x) - max t (-t)
    · rw [decide_eq_true c, cond_true]
      exact rel3 hv hl n hn hy (by omega) ha h hL g0 g1 true (fun _ => .inr (by omega))
    · rw [decide_eq_false c, cond_false]
      exact rel3 hv hl n hn hy (by omega) ha h hL g0 g1 _ (fun e => .inl (by have := of_decide_eq_true e; omega))
  · rw [decide_eq_false hlt, cond_false, rel2 hv hl n hn hy hi ha h (by omega)]
theorem rel1 {a z l : Int} {i : Nat} (hi : i ≤ w.length) (ha : Int.tmod a z = (i : Int)) (v : Bool) (hvv : v = true → l ≠ 0 ∧ -s < l ∧ l < s) : F.law34_GarsideRelations_j1 n s w a l y z v = some true := by
  obtain ⟨a1, a2, a3, a4⟩ := okB_iff.1 hv
  have hnil : GoodL s w [] := fun q hq => by simp at hq
  unfold F.law34_GarsideRelations_j1
  cases v with
  | false => rw [cond_false, rel0 hv hl n hn hy hi ha hnil (by simp)]
  | true =>
    obtain ⟨b1, b2, b3⟩ := hvv rfl
    have xl : Lt s.toNat l := by unfold Lt; omega
    have xl' := xl.neg
    rw [cond_true, ha, cut_ok (by omega) (by omega) (by omega), Option.bind_some, chk_ok (by omega) (by omega), Option.bind_some, cut_ok (by omega) (by omega) (by omega), Option.bind_some, concat_mid w _ i i n hl (by simp) (by omega), Option.bind_some, lim_ok (by simp), Option.bind_some]
    refine rel0 hv hl n hn hy hi ha (hnil.snoc (ok_mid (m' := []) hv hl hi (by simp) (fun q hq => ?_) _) ?_) (by simp)
    · simp only [List.mem_cons, List.not_mem_nil, or_false] at hq
      unfold Lt at xl xl'
      rcases hq with rfl | rfl
      · exact xl
      · exact xl'
    · have := BE.one (N := s.toNat) xl (w.take i) (w.drop i)
      rw [List.take_append_drop] at this
      simpa using this
end
end Gar
theorem law34_GarsideRelations_true (x0 : Int × List Int) (z1 : Int) (z2 : Int) (o0 : Ev.Sh.ok (.pr (.int .i64) (.sl (.int .i64))) x0) (o1 : Ev.Sh.ok (.int .u8) z1) (o2 : Ev.Sh.ok (.int .i64) z2) : ∃ n, F.law34_GarsideRelations n x0.1 x0.2 z1 z2 = some true := by
  refine ⟨300000000, ?_⟩
  unfold F.law34_GarsideRelations
  rw [Gar.awake34, Option.bind_some, Bool.not_true, cond_false]
  by_cases hl : (40 : Int) < (x0.2.length : Int)
  · rw [decide_eq_true hl, cond_true]; rfl
  rw [decide_eq_false hl, cond_false, braidValid _ (by omega), Option.bind_some]
  by_cases hv : okB x0.1 x0.2 = true
  · rw [hv, Bool.not_true, cond_false]
    by_cases h2 : x0.1 < 2
    · rw [decide_eq_true h2, cond_true]; rfl
    rw [decide_eq_false h2, cond_false]
    obtain ⟨p, qs, h1, h3⟩ := Gar.form_eq hv 300000000 (by omega)
    obtain ⟨a1, a2, a3, a4⟩ := okB_iff.1 hv
    have hz1 : 0 ≤ z1 := by
      have h : IntKind.u8.wrap z1 = z1 := o1
      simp [IntKind.wrap, IntKind.signed, IntKind.bits] at h; omega
    have hz2 : -9223372036854775808 ≤ z2 ∧ z2 ≤ 9223372036854775807 := i64_of o2
    have hm1 := Int.tmod_lt_of_pos z1 (show (0 : Int) < (x0.2.length : Int) + 1 by omega)
    have hm2 := Int.tmod_nonneg ((x0.2.length : Int) + 1) hz1
    obtain ⟨i, hi⟩ : ∃ i : Nat, Int.tmod z1 ((x0.2.length : Int) + 1) = (i : Int) := ⟨(Int.tmod z1 ((x0.2.length : Int) + 1)).toNat, by omega⟩
    have key := fun (v : Bool) hvv => Gar.rel1 hv (by omega) 300000000 (by omega) h1 (a := z1) (l := z2) (i := i) (by omega) hi v hvv
    rw [h1, Option.bind_some]
    dsimp only
    rw [decide_eq_true rfl, Bool.not_true, cond_false, chk_ok (by omega) (by omega), Option.bind_some, nz_ok (by omega), Option.bind_some]
    by_cases c1 : z2 = 0
    · rw [decide_eq_true c1, Bool.not_true, cond_false]
      exact key false (fun h => absurd h (by decide))
    · rw [decide_eq_false c1, Bool.not_false, cond_true, chk_ok (by omega) (by omega), Option.bind_some]
      by_cases c2 : -x0.1 < z2
      · rw [decide_eq_true c2, cond_true]
        exact key _ (fun h => ⟨c1, c2, of_decide_eq_true h⟩)
      · rw [decide_eq_false c2, cond_false]
        exact key false (fun h => absurd h (by decide))
  · rw [Bool.not_eq_true] at hv
    rw [hv, Bool.not_false, cond_true]; rfl
end Go.Proofs.Ytkeaonceaaafcaa
