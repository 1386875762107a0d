/- The plain law of PermClass. -/
import Derived.Test.YtmlkiafidahnbaaPPtype
import Derived.Test.YtmlkiafidahnbaaPPiter
set_option linter.unusedVariables false
set_option linter.unusedSimpArgs false
namespace Go.Proofs.Ytmlkiafidahnbaa
open Ev
namespace Gar
theorem equalL {a b : List Int} (n : Nat) (hn : a.length < n) (hl : a.length ≤ 100000000) : F.slices_Equal_Lint_int n a b = some (decide (a = b)) := refInts (a := a) (b := b) n hn hl
/-- A loop whose ways are those of another. -/
theorem loop_map {S R R' : Type} {b : S → Option (S ⊕ R)} {b' : S → Option (S ⊕ R')} (φ : R → R') (h : ∀ s, b' s = (b s).map (Sum.map id φ)) : ∀ (m : Nat) (s : S), loopN m b' s = (loopN m b s).map φ
  | 0, _ => rfl
  | m + 1, s => by
    rw [loopN, loopN, h]
    cases b s with
    | none => rfl
    | some o =>
      rcases o with s' | r
      · exact loop_map φ h m s'
      · rfl
def toC : (Int × Int) ⊕ Bool → (Int × Int) ⊕ ((List (List Int)) × Int)
  | .inl s => .inl s
  | .inr _ => .inr ([], 1)
theorem part_map (n : Nat) (l : List Int) (s : Int × Int) : F.perm_Class_b0 n l s = (F.ref30_Partition_b0 n l s).map (Sum.map id toC) := by
  obtain ⟨v, i⟩ := s
  unfold F.perm_Class_b0 F.ref30_Partition_b0
  dsimp only
  by_cases hi : i < (l.length : Int)
  · rw [decide_eq_true hi, cond_true, cond_true]
    cases hg : Ev.get l i with
    | none => rfl
    | some x =>
      simp only [Option.bind_some]
      by_cases h1 : x < 1
      · rw [decide_eq_true h1]; rfl
      rw [decide_eq_false h1, cond_false, cond_false]
      by_cases h2 : v < x
      · rw [decide_eq_true h2]; rfl
      rw [decide_eq_false h2, cond_false, cond_false]
      by_cases h3 : 0 < i
      · rw [decide_eq_true h3, cond_true, cond_true]
        cases hc : chk (i - 1) with
        | none => rfl
        | some z =>
          simp only [Option.bind_some]
          cases hg2 : Ev.get l z with
          | none => rfl
          | some y =>
            simp only [Option.bind_some]
            by_cases h4 : y < x
            · rw [decide_eq_true h4]; rfl
            rw [decide_eq_false h4, cond_false, cond_false]
            cases chk (v - x) with
            | none => rfl
            | some z2 =>
              simp only [Option.bind_some]
              cases chk (i + 1) with
              | none => rfl
              | some z3 => rfl
      · rw [decide_eq_false h3, cond_false, cond_false]
        cases chk (v - x) with
        | none => rfl
        | some z2 =>
          simp only [Option.bind_some]
          cases chk (i + 1) with
          | none => rfl
          | some z3 => rfl
  · rw [decide_eq_false hi]; rfl
theorem part_some (n : Nat) (l : List Int) {x : Int} (h0 : 0 ≤ x) (h1 : x ≤ 100) (hl : l.length ≤ 100) (hn : 100 < n) : ∃ r, loopN n (F.ref30_Partition_b0 n l) (x, 0) = some r ∧ ∀ b, r = .inr b → b = false := by
  obtain ⟨r, hr, hq⟩ := loop_spec (body := F.ref30_Partition_b0 n l) (fun s => 0 ≤ s.1 ∧ s.1 ≤ 100 ∧ 0 ≤ s.2 ∧ s.2 ≤ l.length) (fun s => l.length - s.2.toNat) (fun r => ∀ b, r = .inr b → b = false) (fun s hs => by
    obtain ⟨v, i⟩ := s
    obtain ⟨a1, a2, a3, a4⟩ := hs
    dsimp only at a1 a2 a3 a4
    unfold F.ref30_Partition_b0
    dsimp only
    by_cases hi : i < (l.length : Int)
    · rw [decide_eq_true hi, cond_true, get_ok a3 (by omega), Option.bind_some, Option.bind_some]
      generalize l[i.toNat]'(by omega) = y
      by_cases h1 : y < 1
      · rw [decide_eq_true h1]; exact .inr ⟨_, rfl, fun b hb => by cases hb; rfl⟩
      rw [decide_eq_false h1, cond_false]
      by_cases h2 : v < y
      · rw [decide_eq_true h2]; exact .inr ⟨_, rfl, fun b hb => by cases hb; rfl⟩
      rw [decide_eq_false h2, cond_false]
      by_cases h3 : 0 < i
      · rw [decide_eq_true h3, cond_true, Option.bind_some, chk_ok (by omega) (by omega), Option.bind_some, get_ok (by omega) (by omega), Option.bind_some]
        by_cases h4 : l[(i - 1).toNat]'(by omega) < y
        · rw [decide_eq_true h4]; exact .inr ⟨_, rfl, fun b hb => by cases hb; rfl⟩
        rw [decide_eq_false h4, cond_false, Option.bind_some, chk_ok (by omega) (by omega), Option.bind_some, chk_ok (by omega) (by omega), Option.bind_some]
        exact .inl ⟨_, rfl, ⟨by dsimp only; omega, by dsimp only; omega, by dsimp only; omega, by dsimp only; omega⟩, by dsimp only; omega⟩
      · rw [decide_eq_false h3, cond_false, Option.bind_some, chk_ok (by omega) (by omega), Option.bind_some, chk_ok (by omega) (by omega), Option.bind_some]
        exact .inl ⟨_, rfl, ⟨by dsimp only; omega, by dsimp only; omega, by dsimp only; omega, by dsimp only; omega⟩, by dsimp only; omega⟩
    · rw [decide_eq_false hi]; exact .inr ⟨_, rfl, fun b hb => by cases hb⟩) n (x, 0) ⟨h0, h1, by simp, by simp⟩ (by dsimp only; omega)
  exact ⟨r, hr, hq⟩
theorem isP_type {p : List Int} (h : IsP p) (hl : p.length ≤ 1000) (n : Nat) (hn : 1000 < n) : ∃ t, F.perm_Type n p = some t ∧ F.ref30_Type n p = some t ∧ t.length ≤ 1000000 := by
  obtain ⟨f, g, hp, e⟩ := h
  have h1 := type_eq hp hl n hn
  have h2 := refType_eq hp hl n hn
  rw [← e] at h1 h2
  refine ⟨_, h1, h2, ?_⟩
  have hc := cyc_dec hp p.length (Nat.le_refl _)
  have hle := cyc_len hp p.length (Nat.le_refl _)
  rw [(dsc_perm fun x hx => by
    obtain ⟨c, hc, rfl⟩ := List.mem_map.1 hx
    have := hle c hc
    omega : (dsc (lens (cyc p.length f p.length)) p.length).Perm _).length_eq]
  unfold lens
  rw [List.length_map]
  omega
/-- The lists of a type. -/
def flt (t : List Int → List Int) (cs : List Int) (L : List (List Int)) : List (List Int) := L.filter fun p => decide (t p = cs)
theorem class_fold (t : List Int → List Int) (cs : List Int) (L : List (List Int)) (ht : ∀ p ∈ L, F.perm_Type 200000000 p = some (t p) ∧ (t p).length ≤ 1000000) : ∀ acc : List (List Int), acc.length + L.length ≤ 2000 → foldX (F.perm_Class_b1 200000000 cs) acc L = some (.inl (acc ++ flt t cs L)) := by
  induction L with
  | nil => intro acc _; simp [foldX, flt]
  | cons p r ih =>
    intro acc ha
    rw [List.length_cons] at ha
    obtain ⟨h1, h2⟩ := ht p (by simp)
    unfold foldX
    by_cases e : t p = cs
    · have : F.perm_Class_b1 200000000 cs p acc = some (.inl (acc ++ [p])) := by
        unfold F.perm_Class_b1
        dsimp only
        rw [h1, Option.bind_some, equalL _ (by omega) (by omega), Option.bind_some, decide_eq_true e, cond_true, lim_ok (by simp; omega), Option.bind_some]
      rw [this, Option.bind_some, Sum.elim_inl, ih (fun q hq => ht q (by simp [hq])) (acc ++ [p]) (by simp; omega)]
      unfold flt
      rw [List.filter_cons, decide_eq_true e, if_pos rfl, List.append_assoc]; rfl
    · have : F.perm_Class_b1 200000000 cs p acc = some (.inl acc) := by
        unfold F.perm_Class_b1
        dsimp only
        rw [h1, Option.bind_some, equalL _ (by omega) (by omega), Option.bind_some, decide_eq_false e, cond_false]
      rw [this, Option.bind_some, Sum.elim_inl, ih (fun q hq => ht q (by simp [hq])) acc (by omega)]
      unfold flt
      rw [List.filter_cons, decide_eq_false e, if_neg (by simp)]
theorem refClass_loop (t : List Int → List Int) (cs : List Int) (L : List (List Int)) (hL : L.length ≤ 1001) (ht : ∀ p ∈ L, F.ref30_Type 200000000 p = some (t p) ∧ (t p).length ≤ 1000000) : ∃ v, loopN 200000000 (F.ref30_Class_b0 200000000 cs L) (([] : List (List Int)), 0) = some (flt t cs L, v) := by
  have := count_loop (body := F.ref30_Class_b0 200000000 cs L) (fun k => (flt t cs (L.take k), (k : Int))) L.length (r := (flt t cs L, (L.length : Int))) (fun k hk => by
    have ka : L[k]? = some (L[k]'hk) := List.getElem?_eq_getElem _
    obtain ⟨h1, h2⟩ := ht (L[k]'hk) (List.getElem_mem _)
    have htk : flt t cs (L.take (k + 1)) = flt t cs (L.take k) ++ if t (L[k]'hk) = cs then [L[k]'hk] else [] := by
      unfold flt
      rw [List.take_add_one, ka, List.filter_append]
      congr 1
      by_cases e : t (L[k]'hk) = cs <;> simp [List.filter_cons, e]
    have hfl : (flt t cs (L.take k)).length ≤ 1001 := by
      unfold flt
      refine Nat.le_trans (List.length_filter_le _ _) ?_
      rw [List.length_take]; omega
    unfold F.ref30_Class_b0
    dsimp only
    rw [decide_eq_true (by omega), cond_true, get_at rfl ka, Option.bind_some, h1, Option.bind_some, refInts _ (by omega) (by omega), Option.bind_some, htk]
    by_cases e : t (L[k]'hk) = cs
    · rw [decide_eq_true e, cond_true, Option.bind_some, lim_ok (by simp; omega), Option.bind_some, chk_ok (by omega) (by omega), Option.bind_some, if_pos e]
      rfl
    · rw [decide_eq_false e, cond_false, chk_ok (by omega) (by omega), Option.bind_some, if_neg e, List.append_nil]
      rfl) (by
    unfold F.ref30_Class_b0
    dsimp only
    rw [decide_eq_false (by omega), cond_false, List.take_length]) 200000000 (by omega)
  exact ⟨_, this⟩
theorem plain_eq (L : List (List Int)) (n : Nat) (hl : L.length ≤ 100000) (hn : L.length < n) : F.law30_plain n L = some L := by
  unfold F.law30_plain
  have := count_loop (body := F.law30_plain_b0 n L) (fun k => (L.take k, (k : Int))) L.length (r := (L, (L.length : Int))) (fun k hk => by
    have ka : L[k]? = some (L[k]'hk) := List.getElem?_eq_getElem _
    unfold F.law30_plain_b0
    dsimp only
    rw [decide_eq_true (by omega), cond_true, get_at rfl ka, Option.bind_some, lim_ok (by simp; omega), Option.bind_some, chk_ok (by omega) (by omega), List.take_add_one, ka]
    rfl) (by
    unfold F.law30_plain_b0
    dsimp only
    rw [decide_eq_false (by omega), cond_false, List.take_length]) n hn
  have e : loopN n (F.law30_plain_b0 n L) (([] : List (List Int)), 0) = some (L, (L.length : Int)) := this
  rw [e, Option.bind_some]
theorem class_j0 (x : Int) (cs : List Int) (hc : cs.length ≤ 30) (hx : ¬ (6 < x ∧ x ≤ 8)) : F.law30_PermClass_j0 200000000 x cs = some true := by
  unfold F.law30_PermClass_j0 F.perm_Class
  by_cases h1 : x < 1
  · rw [decide_eq_true h1, cond_true, Option.bind_some, cond_true]; rfl
  rw [decide_eq_false h1, cond_false]
  by_cases h2 : 8 < x
  · rw [decide_eq_true h2, cond_true, Option.bind_some, cond_false]; rfl
  rw [decide_eq_false h2, cond_false]
  obtain ⟨r, hr, hq⟩ := part_some 200000000 cs (x := x) (by omega) (by omega) (by omega) (by decide)
  rw [loop_map toC (part_map 200000000 cs), hr, Option.map_some, Option.bind_some]
  rcases r with ⟨v, i⟩ | b
  · dsimp only [toC]
    by_cases hv : v = 0
    · rw [decide_eq_true hv, Bool.not_true, cond_false]
      obtain ⟨N, rfl⟩ : ∃ N : Nat, x = (N : Int) := ⟨x.toNat, by omega⟩
      obtain ⟨L, hL, h3, h4, h5, h6⟩ := all_eq (N := N) (by omega)
      have hP : ∀ p ∈ L, IsP p := fun p hp => by
        obtain ⟨r, r1, r2⟩ := permValid (p := p) 200000000 (by have := h4 p hp; omega) (by have := h4 p hp; omega)
        rw [(h5 p hp).1] at r1
        exact r2.1 (Option.some.inj r1).symm
      have htp : ∀ p ∈ L, F.perm_Type 200000000 p = some ((F.perm_Type 200000000 p).getD []) ∧ F.ref30_Type 200000000 p = some ((F.perm_Type 200000000 p).getD []) ∧ ((F.perm_Type 200000000 p).getD []).length ≤ 1000000 := fun p hp => by
        obtain ⟨t, t1, t2, t3⟩ := isP_type (hP p hp) (by have := h4 p hp; omega) 200000000 (by decide)
        rw [t1]
        exact ⟨rfl, t2, t3⟩
      rw [h6, class_fold (fun p => (F.perm_Type 200000000 p).getD []) cs L (fun p hp => ⟨(htp p hp).1, (htp p hp).2.2⟩) [] (by simp; omega), Option.bind_some]
      obtain ⟨w, hw⟩ := refClass_loop (fun p => (F.perm_Type 200000000 p).getD []) cs L h3 (fun p hp => ⟨(htp p hp).2.1, (htp p hp).2.2⟩)
      generalize hfl : flt (fun p => (F.perm_Type 200000000 p).getD []) cs L = R at hw
      have hRl : R.length ≤ 1001 := by rw [← hfl]; exact Nat.le_trans (List.length_filter_le _ _) h3
      have hRm : ∀ p ∈ R, p.length ≤ 10 := fun p hp => by rw [← hfl] at hp; exact h4 p ((List.mem_filter.1 hp).1)
      show (some (R, (0 : Int))).bind _ = _
      rw [Option.bind_some, cond_false]
      unfold F.law30_PermClass_j1
      have hp : F.ref30_Partition 200000000 cs (N : Int) = some true := by
        unfold F.ref30_Partition
        rw [hr, Option.bind_some]
        show some (decide (v = 0)) = _
        rw [decide_eq_true hv]
      have hcl : F.ref30_Class 200000000 (N : Int) cs = some R := by
        unfold F.ref30_Class
        rw [hL, Option.bind_some, hw, Option.bind_some]
      rw [cond_false, hp, Option.bind_some, Bool.not_true, cond_false, decide_eq_true rfl, cond_true, plain_eq R _ (by omega) (by omega), Option.bind_some, hcl, Option.bind_some, refLists _ (by omega) (fun p h => by have := hRm p h; omega) (by decide) (by omega), decide_eq_true rfl]
      rfl
    · have hp : F.ref30_Partition 200000000 cs x = some false := by
        unfold F.ref30_Partition
        rw [hr, Option.bind_some]
        show some (decide (v = 0)) = _
        rw [decide_eq_false hv]
      rw [decide_eq_false hv, Bool.not_false, cond_true, Option.bind_some, cond_false]
      unfold F.law30_PermClass_j1
      rw [cond_false, hp]
      rfl
  · have hp : F.ref30_Partition 200000000 cs x = some b := by
      unfold F.ref30_Partition
      rw [hr, Option.bind_some]
    have hb : b = false := hq b rfl
    subst hb
    dsimp only [toC]
    rw [Option.bind_some, cond_false]
    unfold F.law30_PermClass_j1
    rw [cond_false, hp]
    rfl
end Gar
open Gar in
theorem law30_PermClass_true (x0 : Int) (x1 : List Int) (o0 : Ev.Sh.ok (.int .i64) x0) (o1 : Ev.Sh.ok (.sl (.int .i64)) x1) : ∃ n, F.law30_PermClass n x0 x1 = some true := by
  refine ⟨200000000, ?_⟩
  unfold F.law30_PermClass
  rw [awake30, Option.bind_some, Bool.not_true, cond_false]
  by_cases h1 : 6 < x0
  · rw [decide_eq_true h1, cond_true]
    by_cases h2 : x0 ≤ 8
    · rw [decide_eq_true h2]; rfl
    · rw [decide_eq_false h2, cond_false]
      by_cases h3 : 30 < (x1.length : Int)
      · rw [decide_eq_true h3]; rfl
      · rw [decide_eq_false h3, cond_false]; exact class_j0 x0 x1 (by omega) (by omega)
  · rw [decide_eq_false h1, cond_false]
    by_cases h3 : 30 < (x1.length : Int)
    · rw [decide_eq_true h3]; rfl
    · rw [decide_eq_false h3, cond_false]; exact class_j0 x0 x1 (by omega) (by omega)
end Go.Proofs.Ytmlkiafidahnbaa
