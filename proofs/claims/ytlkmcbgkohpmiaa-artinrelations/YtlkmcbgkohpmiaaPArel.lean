/- The plain law of ArtinRelations. -/
import Derived.Test.YtlkmcbgkohpmiaaPAimg
set_option linter.unusedVariables false
set_option linter.unusedSimpArgs false
namespace Go.Proofs.Ytlkmcbgkohpmiaa
open Ev
namespace Gar
theorem lists35 (L : List (List Int)) (n : Nat) (hl : L.length ≤ 100000) (hn : L.length < n) : F.law35_lists n L = some L := by
  unfold F.law35_lists
  have := count_loop (body := F.law35_lists_b0 n L) (fun k => (L.take k, (k : Int))) L.length (r := (L, (L.length : Int))) (fun k hk => by
    have ka : L[k]? = some (L[k]'hk) := List.getElem?_eq_getElem _
    unfold F.law35_lists_b0
    dsimp only
    rw [decide_eq_true (by omega), cond_true, get_at rfl ka, Option.bind_some, lim_ok (by simp; omega), Option.bind_some, chk_ok (by omega) (by omega), List.take_add_one, ka]
    rfl) (by
    unfold F.law35_lists_b0
    dsimp only
    rw [decide_eq_false (by omega), cond_false, List.take_length]) n hn
  have e : loopN n (F.law35_lists_b0 n L) (([] : List (List Int)), 0) = some (L, (L.length : Int)) := this
  rw [e, Option.bind_some]
theorem refLists {a b : List (List Int)} (n : Nat) (hn : a.length < n) (hr : ∀ x ∈ a, x.length ≤ 100000000) (hn2 : 100000000 < n) (hl : a.length ≤ 100000000) : F.ref01_Lists n a b = some (decide (a = b)) := by
  unfold F.ref01_Lists
  by_cases h : a.length = b.length
  · rw [decide_eq_true (by omega), Bool.not_true, cond_false]
    refine eqList n h hn (fun k x y hx hy => ?_) ?_
    · have hk := (List.getElem?_eq_some_iff.1 hx).1
      have hxl := hr x (List.mem_of_getElem? hx)
      unfold F.ref01_Lists_b0
      dsimp only
      rw [decide_eq_true (by omega), cond_true, get_at rfl hx, Option.bind_some, get_at rfl hy, Option.bind_some, refInts n (by omega) hxl, Option.bind_some]
      by_cases e : x = y
      · left; rw [decide_eq_true e, Bool.not_true, cond_false, chk_ok (by omega) (by omega)]; exact ⟨e, rfl⟩
      · right; rw [decide_eq_false e]; exact ⟨e, rfl⟩
    · unfold F.ref01_Lists_b0
      dsimp only
      rw [decide_eq_false (by omega)]; rfl
  · rw [decide_eq_false (by omega)]
    rw [decide_eq_false (fun e => h (by rw [e]))]; rfl
section
variable {N : Nat}
/-- A word that is a relation. -/
def RelW (N : Nat) (r : List Int) : Prop := Rg N r ∧ BE N r [] ∧ r.length ≤ 6
theorem RelW.nil : RelW N [] := ⟨fun x hx => absurd hx (by simp), .refl _, by simp⟩
theorem RelW.of {u v : List Int} (hu : Rg N u) (hv : Rg N v) (h : BE N u v) (hl : u.length ≤ 3) (hl2 : v.length ≤ 3) : RelW N (u ++ neg v) := by
  refine ⟨hu.app hv.neg, (h.right (neg v)).trans (BE.cancel hv), ?_⟩
  have : (neg v).length = v.length := by simp [neg]
  rw [List.length_append]; omega
theorem rg_of {l : List Int} (h : ∀ x ∈ l, 1 ≤ x ∧ x < (N : Int)) : Rg N l := fun x hx => by have := h x hx; omega
theorem rel0 {i : Nat} (h1 : 1 ≤ i) (h2 : i < N) : RelW N [(i : Int), -(i : Int)] ∧ RelW N [-(i : Int), (i : Int)] := by
  have hR : Rg N [(i : Int)] := rg_of (by simp; omega)
  refine ⟨RelW.of hR hR (.refl _) (by simp) (by simp), ?_⟩
  have := RelW.of hR.neg hR.neg (.refl _) (by simp [neg]) (by simp [neg])
  simpa [neg] using this
theorem rel1 {i : Nat} (h1 : 1 ≤ i) (h2 : i + 1 < N) : RelW N [(i : Int), (i : Int) + 1, (i : Int), -((i : Int) + 1), -(i : Int), -((i : Int) + 1)] ∧ RelW N [-(i : Int), -((i : Int) + 1), -(i : Int), (i : Int) + 1, (i : Int), (i : Int) + 1] := by
  have hu : Rg N [(i : Int), (i : Int) + 1, (i : Int)] := rg_of (by simp; omega)
  have hv : Rg N [(i : Int) + 1, (i : Int), (i : Int) + 1] := rg_of (by simp; omega)
  have hb : BE N [(i : Int), (i : Int) + 1, (i : Int)] [(i : Int) + 1, (i : Int), (i : Int) + 1] := BE.braid (N := N) [] [] (i := i) h1 h2
  refine ⟨?_, ?_⟩
  · have := RelW.of hu hv hb (by simp) (by simp)
    simpa [neg] using this
  · have := RelW.of hu.neg hv.neg (hb.neg hu hv) (by simp [neg]) (by simp [neg])
    simpa [neg] using this
theorem rel2 {i : Nat} (h1 : 1 ≤ i) (h2 : i + 2 < N) : RelW N [(i : Int), (i : Int) + 2, -(i : Int), -((i : Int) + 2)] ∧ RelW N [-(i : Int), -((i : Int) + 2), (i : Int), (i : Int) + 2] := by
  have hu : Rg N [(i : Int), (i : Int) + 2] := rg_of (by simp; omega)
  have hv : Rg N [(i : Int) + 2, (i : Int)] := rg_of (by simp; omega)
  have hb : BE N [(i : Int), (i : Int) + 2] [(i : Int) + 2, (i : Int)] := BE.far (N := N) [] [] (i := i) (j := i + 2) h1 (by omega) (by omega) h2 (by omega)
  refine ⟨?_, ?_⟩
  · have := RelW.of hu hv hb (by simp) (by simp)
    simpa [neg] using this
  · have := RelW.of hv.neg hu.neg (hb.symm.neg hv hu) (by simp [neg]) (by simp [neg])
    simpa [neg] using this
theorem relJ3 (hN : N ≤ 5) {w r : List Int} (hv : okB (N : Int) w = true) (hl : w.length ≤ 10) (hr : RelW N r) {a : Int} (ha : 0 ≤ a ∧ a < 256) : F.law35_ArtinRelations_j3 10000000000 (N : Int) w a r = some true := by
  obtain ⟨a1, a2, a3, a4⟩ := okB_iff.1 hv
  have hw : Rg N w := fun x hx => a4 x hx
  obtain ⟨r1, r2, r3⟩ := hr
  have t1 := Int.tmod_nonneg ((w.length : Int) + 1) ha.1
  have t2 := Int.tmod_lt_of_pos a (show 0 < (w.length : Int) + 1 by omega)
  unfold F.law35_ArtinRelations_j3
  obtain ⟨k, hk⟩ : ∃ k : Nat, Int.tmod a ((w.length : Int) + 1) = (k : Int) := ⟨(Int.tmod a ((w.length : Int) + 1)).toNat, by omega⟩
  rw [chk_ok (by omega) (by omega), Option.bind_some, nz_ok (by omega), Option.bind_some, hk, cut_ok (by omega) (by omega) (by omega), Option.bind_some, cut_ok (by omega) (by omega) (by omega), Option.bind_some, cut_take, cut_drop, List.nil_append, lim_ok (by simp; omega), Option.bind_some, lim_ok (by rw [List.length_take]; omega), Option.bind_some, lim_ok (by rw [List.length_append, List.length_take, List.length_drop]; omega), Option.bind_some]
  have hc : Rg N (w.take k ++ r ++ w.drop k) := fun x hx => by
    simp only [List.mem_append] at hx
    rcases hx with (h | h) | h
    · exact hw x (List.mem_of_mem_take h)
    · exact r1 x h
    · exact hw x (List.mem_of_mem_drop h)
  have hcl : (w.take k ++ r ++ w.drop k).length ≤ 16 := by rw [List.length_append, List.length_append, List.length_take, List.length_drop]; omega
  have hcv : okB (N : Int) (w.take k ++ r ++ w.drop k) = true := okB_iff.2 ⟨a1, a2, by omega, fun x hx => hc x hx⟩
  have hbe : BE N (w.take k ++ r ++ w.drop k) w := by
    have := r2.app (w.take k) (w.drop k)
    rwa [List.append_nil, List.take_append_drop] at this
  rw [artinImages hv _ (by omega), artinImages hcv _ (by omega), notFullA hN hw (by omega), notFullA hN hc hcl, rowsA_be hc hw hbe, if_neg (by decide), Option.bind_some, Option.bind_some]
  dsimp only
  have hL := rowsA_len N w
  rw [decide_eq_true rfl, cond_true, cond_true, lists35 _ _ (by omega) (by omega), Option.bind_some, Option.bind_some, refLists _ (by omega) (fun x hx => ?_) (by omega) (by omega), decide_eq_true rfl]
  · rfl
  · obtain ⟨k, h1, rfl⟩ := List.mem_map.1 hx
    have hk := List.mem_range.1 h1
    rw [fact_rev]
    have := iact_small hN hw.rev (by rw [List.length_reverse]; omega) (j := k + 1) (by omega) (by omega)
    omega
theorem negLoop {l : List Int} (hs : Sm l) (hl : l.length ≤ 100) : loopN 10000000000 (F.law35_ArtinRelations_b4 10000000000 l) (0, l) = some ((l.length : Int), l.map fun x => -x) := by
  have := count_loop (body := F.law35_ArtinRelations_b4 10000000000 l) (fun k => ((k : Int), (l.map fun x => -x).take k ++ l.drop k)) l.length (r := ((l.length : Int), l.map fun x => -x)) (fun k hk => by
    have hx : l[k]? = some (l[k]'hk) := List.getElem?_eq_getElem _
    have hb := hs _ (List.getElem_mem hk)
    have hd := (List.getElem_cons_drop hk).symm
    generalize l[k]'hk = x at hx hb hd
    have h1 : ((l.map fun x => -x).take k).length = k := by rw [List.length_take, List.length_map]; omega
    have h2 : ((l.map fun x => -x).take k ++ l.drop k)[k]? = some x := by rw [List.getElem?_append_right (by omega), h1, Nat.sub_self, hd]; rfl
    unfold F.law35_ArtinRelations_b4
    dsimp only
    rw [decide_eq_true (by omega), cond_true, get_at rfl h2, Option.bind_some, chk_ok (by omega) (by omega), Option.bind_some, Option.bind_some, chk_ok (by omega) (by omega), Option.bind_some, Int.toNat_natCast, List.set_append_right _ _ (by omega), h1, Nat.sub_self, hd, List.set_cons_zero, List.take_add_one, List.getElem?_map, hx, List.append_assoc]
    rfl) (by
    unfold F.law35_ArtinRelations_b4
    dsimp only
    rw [decide_eq_false (by omega), cond_false, List.drop_length, List.append_nil, List.take_of_length_le (by simp)]) 10000000000 (by omega)
  exact this
theorem relJ0 (hN : N ≤ 5) {w r : List Int} (hv : okB (N : Int) w = true) (hl : w.length ≤ 10) (hr : RelW N r) (hr' : RelW N (r.map fun x => -x)) {a c : Int} (ha : 0 ≤ a ∧ a < 256) : F.law35_ArtinRelations_j0 10000000000 (N : Int) w a c r = some true := by
  unfold F.law35_ArtinRelations_j0
  rw [nz_ok (by decide), Option.bind_some]
  by_cases h : Int.tmod c 2 = 1
  · have hs : Sm r := fun x hx => by have := hr.1 x hx; omega
    have h3 := hr.2.2
    rw [decide_eq_true h, cond_true, negLoop hs (by omega), Option.bind_some]
    exact relJ3 hN hv hl hr' ha
  · rw [decide_eq_false h, cond_false]
    exact relJ3 hN hv hl hr ha
theorem relJ2 (hN : N ≤ 5) {w : List Int} (hv : okB (N : Int) w = true) (hl : w.length ≤ 10) {a c : Int} (ha : 0 ≤ a ∧ a < 256) {i : Nat} (h1 : 1 ≤ i) (h2 : i < N) {b : Bool} (hb : b = true → i + 2 < N) : F.law35_ArtinRelations_j2 10000000000 (N : Int) w a c (i : Int) b = some true := by
  unfold F.law35_ArtinRelations_j2
  cases b with
  | false =>
    rw [cond_false]
    exact relJ0 hN hv hl RelW.nil RelW.nil ha
  | true =>
    have hi := hb rfl
    rw [cond_true, chk_ok (by omega) (by omega), Option.bind_some, chk_ok (by omega) (by omega), Option.bind_some, Option.bind_some, chk_ok (by omega) (by omega), Option.bind_some]
    refine relJ0 hN hv hl (rel2 h1 hi).1 ?_ ha
    simpa using (rel2 h1 hi).2
theorem relJ1 (hN : N ≤ 5) {w : List Int} (hv : okB (N : Int) w = true) (hl : w.length ≤ 10) {a c : Int} (ha : 0 ≤ a ∧ a < 256) {i : Nat} (h1 : 1 ≤ i) (h2 : i < N) {b : Bool} (hb : b = true → i + 1 < N) : F.law35_ArtinRelations_j1 10000000000 (N : Int) w a c (i : Int) b = some true := by
  unfold F.law35_ArtinRelations_j1
  cases b with
  | false =>
    rw [cond_false, nz_ok (by decide), Option.bind_some]
    by_cases h : Int.tmod c 3 = 2
    · rw [decide_eq_true h, cond_true, chk_ok (by omega) (by omega), Option.bind_some]
      exact relJ2 hN hv hl ha h1 h2 fun h => by have := of_decide_eq_true h; omega
    · rw [decide_eq_false h, cond_false]
      exact relJ2 hN hv hl ha h1 h2 fun h => by cases h
  | true =>
    have hi := hb rfl
    rw [cond_true, chk_ok (by omega) (by omega), Option.bind_some, Option.bind_some, chk_ok (by omega) (by omega), Option.bind_some, chk_ok (by omega) (by omega), Option.bind_some, Option.bind_some, chk_ok (by omega) (by omega), Option.bind_some]
    refine relJ0 hN hv hl (rel1 h1 hi).1 ?_ ha
    simpa using (rel1 h1 hi).2
end
theorem u8_rng {z : Int} (h : IntKind.u8.wrap z = z) : 0 ≤ z ∧ z < 256 := by
  simp [IntKind.wrap, IntKind.signed, IntKind.bits] at h
  omega
end Gar
open Gar in
theorem law35_ArtinRelations_true (x0 : Int × List Int) (z1 z2 z3 : Int) (o0 : Ev.Sh.ok (.pr (.int .i64) (.sl (.int .i64))) x0) (o1 : Ev.Sh.ok (.int .u8) z1) (o2 : Ev.Sh.ok (.int .u8) z2) (o3 : Ev.Sh.ok (.int .u8) z3) : ∃ n, F.law35_ArtinRelations n x0.1 x0.2 z1 z2 z3 = some true := by
  refine ⟨10000000000, ?_⟩
  obtain ⟨s, w⟩ := x0
  have h1 := u8_rng (show IntKind.u8.wrap z1 = z1 from o1)
  have h2 := u8_rng (show IntKind.u8.wrap z2 = z2 from o2)
  dsimp only
  unfold F.law35_ArtinRelations
  rw [awake35, Option.bind_some, Bool.not_true, cond_false, great_eq, Option.bind_some]
  by_cases hg : 14 < w.length ∨ (5 < s ∧ s ≤ 10)
  · rw [decide_eq_true hg]; rfl
  rw [decide_eq_false hg, cond_false]
  by_cases hl : 10 < w.length
  · rw [decide_eq_true (by omega)]; rfl
  rw [decide_eq_false (by omega), cond_false, braidValid _ (by omega), Option.bind_some]
  cases hv : okB s w with
  | false => rfl
  | true =>
    obtain ⟨a1, a2, a3, a4⟩ := okB_iff.1 hv
    obtain ⟨N, rfl⟩ : ∃ N : Nat, s = (N : Int) := ⟨s.toNat, by omega⟩
    rw [Bool.not_true, cond_false]
    by_cases hN : (N : Int) < 2
    · rw [decide_eq_true hN]; rfl
    rw [decide_eq_false hN, cond_false, chk_ok (by omega) (by omega), Option.bind_some, nz_ok (by omega), Option.bind_some]
    have t1 := Int.tmod_nonneg ((N : Int) - 1) h2.1
    have t2 := Int.tmod_lt_of_pos z2 (show 0 < (N : Int) - 1 by omega)
    obtain ⟨i, hi⟩ : ∃ i : Nat, Int.tmod z2 ((N : Int) - 1) + 1 = (i : Int) := ⟨(Int.tmod z2 ((N : Int) - 1) + 1).toNat, by omega⟩
    rw [hi, chk_ok (by omega) (by omega), Option.bind_some, nz_ok (by decide), Option.bind_some]
    by_cases hk : Int.tmod z3 3 = 0
    · rw [decide_eq_true hk, cond_true, chk_ok (by omega) (by omega), Option.bind_some]
      refine relJ0 (by omega) hv (by omega) (rel0 (by omega) (by omega)).1 ?_ h1
      simpa using (rel0 (N := N) (i := i) (by omega) (by omega)).2
    · rw [decide_eq_false hk, cond_false, Option.bind_some]
      by_cases hk2 : Int.tmod z3 3 = 1
      · rw [decide_eq_true hk2, cond_true, chk_ok (by omega) (by omega), Option.bind_some]
        exact relJ1 (by omega) hv (by omega) h1 (by omega) (by omega) fun h => by have := of_decide_eq_true h; omega
      · rw [decide_eq_false hk2, cond_false]
        exact relJ1 (by omega) hv (by omega) h1 (by omega) (by omega) fun h => by cases h
end Go.Proofs.Ytlkmcbgkohpmiaa
