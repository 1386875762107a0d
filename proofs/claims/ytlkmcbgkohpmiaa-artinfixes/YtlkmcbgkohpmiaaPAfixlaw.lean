/- Joined: PAfix, PAfixlaw. -/
import Derived.Test.YtlkmcbgkohpmiaaPAtriv
/- The plain law of ArtinFixes: what every braid leaves, and where it leads the generators. -/
set_option linter.unusedVariables false
set_option linter.unusedSimpArgs false
namespace Go.Proofs.Ytlkmcbgkohpmiaa
open Ev
namespace Gar
/-! The product of all generators. -/
def upl (a k : Nat) : List Int := (List.range k).map fun t => ((a + t : Nat) : Int)
theorem upl_mem {a k : Nat} {y : Int} (h : y ∈ upl a k) : (a : Int) ≤ y ∧ y < (a : Int) + k := by
  unfold upl at h
  rw [List.mem_map] at h
  obtain ⟨t, h1, rfl⟩ := h
  have := List.mem_range.1 h1
  omega
theorem upl_add (a k m : Nat) : upl a (k + m) = upl a k ++ upl (a + k) m := by
  unfold upl
  rw [List.range_add, List.map_append, List.map_map]
  congr 1
  refine List.map_inj_left.2 fun t _ => ?_
  show ((a + (k + t) : Nat) : Int) = ((a + k + t : Nat) : Int)
  rw [Nat.add_assoc]
theorem upl_rdc (a : Nat) : ∀ k, Irdc (upl (a + 1) k)
  | k => irdc_of fun i x y hx hy => by
    have h1 := (upl_mem (List.mem_of_getElem? hx)).1
    have h2 := (upl_mem (List.mem_of_getElem? hy)).1
    omega
theorem isub_far {x : Int} {u : List Int} (h : ∀ y ∈ u, 0 < y ∧ y.toNat ≠ x.natAbs ∧ y.toNat ≠ x.natAbs + 1) : isub x u = u := by
  induction u with
  | nil => rfl
  | cons y u ih =>
    have hy := h y (by simp)
    have e : isub x (y :: u) = iimg x y ++ isub x u := rfl
    rw [e, ih fun z hz => h z (by simp [hz])]
    have : iimg x y = [y] := by
      unfold iimg gimg
      rw [if_pos hy.1, if_neg hy.2.1, if_neg hy.2.2, show ((y.toNat : Nat) : Int) = y by omega]
    rw [this]; rfl
theorem isub_app (x : Int) (u v : List Int) : isub x (u ++ v) = isub x u ++ isub x v := List.flatMap_append
theorem isub_all {N : Nat} {x : Int} (hx : x ≠ 0 ∧ -(N : Int) < x ∧ x < N) : ird (isub x (upl 1 N)) = upl 1 N := by
  obtain ⟨i, hi, h1, h2⟩ : ∃ i, x.natAbs = i ∧ 1 ≤ i ∧ i < N := ⟨x.natAbs, rfl, by omega, by omega⟩
  have e : upl 1 N = upl 1 (i - 1) ++ ([(i : Int), (i : Int) + 1] ++ upl (i + 2) (N - i - 1)) := by
    rw [show N = (i - 1) + (2 + (N - i - 1)) by omega, upl_add, upl_add, show 1 + (i - 1) = i by omega, show i - 1 + (2 + (N - i - 1)) - i - 1 = N - i - 1 by omega]
    rfl
  have key : IE (isub x (upl 1 N)) (upl 1 N) := by
    rw [e, isub_app, isub_app, isub_far (u := upl 1 (i - 1)) fun y hy => by have := upl_mem hy; omega, isub_far (u := upl (i + 2) (N - i - 1)) fun y hy => by have := upl_mem hy; omega]
    refine (IE.right ?_ _).left _
    show IE (iimg x (i : Int) ++ (iimg x ((i : Int) + 1) ++ [])) _
    rw [List.append_nil]
    unfold iimg
    rw [if_pos (by omega), if_pos (by omega), Int.toNat_natCast, show ((i : Int) + 1).toNat = i + 1 by omega]
    unfold gimg
    rw [if_pos hi.symm, if_neg (show ¬ i + 1 = x.natAbs by omega), if_pos (show i + 1 = x.natAbs + 1 by omega)]
    by_cases hp : 0 < x
    · rw [if_pos hp, if_pos hp, show ((i + 1 : Nat) : Int) - 1 = (i : Int) by omega]
      exact ird_cancel [(i : Int), (i : Int) + 1] [] (-(i : Int)) (i : Int) rfl
    · rw [if_neg hp, if_neg hp, show ((i + 1 : Nat) : Int) - 1 = (i : Int) by omega, show ((i + 1 : Nat) : Int) = (i : Int) + 1 by omega]
      exact ird_cancel [] [(i : Int), (i : Int) + 1] ((i : Int) + 1) (-((i : Int) + 1)) (by omega)
  have h3 : ird (isub x (upl 1 N)) = ird (upl 1 N) := key
  rw [h3, ird_of (upl_rdc 0 N)]
theorem fact_all {N : Nat} (hN : N ≤ 10) : ∀ {w : List Int}, Rg N w → fact w (upl 1 N) = upl 1 N ∧ afull w (upl 1 N) = false
  | [], _ => ⟨rfl, decide_eq_false (by simp [upl]; omega)⟩
  | x :: w, h => by
    obtain ⟨h1, h2⟩ := fact_all hN (w := w) fun z hz => h z (by simp [hz])
    have e := isub_all (h x (by simp))
    refine ⟨?_, ?_⟩
    · show fact w (ird (isub x (upl 1 N))) = _
      rw [e]; exact h1
    · rw [afull_cons (by simp [upl]; omega), e]; exact h2
/-! Conjugates of generators. -/
def CJ (u : List Int) (m : Int) : Prop := ∃ A, IE u (A ++ [m] ++ neg A)
theorem neg_cons (a : Int) (A : List Int) : neg (a :: A) = neg A ++ [-a] := by simp [neg]
theorem iimg_neg {x y : Int} (hy : y ≠ 0) : iimg x (-y) = neg (iimg x y) := by
  unfold iimg
  by_cases h : 0 < y
  · rw [if_pos h, if_neg (by omega), Int.neg_neg]
  · rw [if_neg h, if_pos (by omega), neg_neg]
theorem isub_neg {x : Int} {u : List Int} (h : ∀ y ∈ u, y ≠ 0) : isub x (neg u) = neg (isub x u) := by
  induction u with
  | nil => rfl
  | cons y u ih =>
    have e : isub x (y :: u) = iimg x y ++ isub x u := rfl
    rw [neg_cons, isub_app, ih fun z hz => h z (by simp [hz]), e, neg_app, ← iimg_neg (h y (by simp))]
    congr 1
    show iimg x (-y) ++ [] = _
    rw [List.append_nil]
theorem isub_ipush {x : Int} (a : Int) (l : List Int) (ha : a ≠ 0) (hl : ∀ y ∈ l, y ≠ 0) : IE (isub x (ipush a l)) (isub x (a :: l)) := by
  cases l with
  | nil => exact .refl _
  | cons b t =>
    by_cases e : a = -b
    · rw [ipush_eq _ _ _ e]
      show IE (isub x t) (iimg x a ++ (iimg x b ++ isub x t))
      rw [e, iimg_neg (hl b (by simp)), ← List.append_assoc]
      exact ((IE.inv _).right _).symm
    · rw [ipush_ne e]; exact .refl _
theorem isub_ird {x : Int} {u : List Int} (h : ∀ y ∈ u, y ≠ 0) : IE (isub x (ird u)) (isub x u) := by
  induction u with
  | nil => exact .refl _
  | cons a u ih =>
    refine (isub_ipush a (ird u) (h a (by simp)) fun y hy => h y (by simp [ird_mem y hy])).trans ?_
    exact (ih fun z hz => h z (by simp [hz])).left (iimg x a)
theorem isub_ie {x : Int} {u v : List Int} (hu : ∀ y ∈ u, y ≠ 0) (hv : ∀ y ∈ v, y ≠ 0) (h : IE u v) : IE (isub x u) (isub x v) := by
  have h' : ird u = ird v := h
  have := (isub_ird (x := x) hu).symm
  rw [h'] at this
  exact this.trans (isub_ird hv)
def Nz (u : List Int) : Prop := ∀ y ∈ u, y ≠ 0
theorem Nz.neg {u : List Int} (h : Nz u) : Nz (Gar.neg u) := fun y hy => by
  unfold Gar.neg at hy
  rw [List.mem_reverse, List.mem_map] at hy
  obtain ⟨z, h1, rfl⟩ := hy
  have := h z h1
  omega
def CJz (u : List Int) (m : Int) : Prop := ∃ A, Nz A ∧ IE u (A ++ [m] ++ neg A)
theorem isub_nz {x : Int} (hx : x ≠ 0) {u : List Int} (h : Nz u) : Nz (isub x u) := fun y hy => by
  unfold isub at hy
  rw [List.mem_flatMap] at hy
  obtain ⟨z, h1, h2⟩ := hy
  unfold iimg at h2
  have hz := h z h1
  split at h2
  · exact gimg_nz hx (by omega) y h2
  · have hg : Nz (gimg x (-z).toNat) := fun q hq => gimg_nz hx (by omega) q hq
    exact hg.neg y h2
/-- A letter leads a conjugate of a generator to a conjugate of the generator next to it. -/
theorem cj_step {x : Int} (hx : x ≠ 0) {u : List Int} (hu : Nz u) {k : Nat} (h : CJz u ((k + 1 : Nat) : Int)) : CJz (ird (isub x u)) ((tr x.natAbs k + 1 : Nat) : Int) := by
  obtain ⟨A, hA, hu2⟩ := h
  have hm : Nz (A ++ [((k + 1 : Nat) : Int)] ++ neg A) := fun y hy => by
    simp only [List.mem_append, List.mem_singleton] at hy
    rcases hy with (hy | hy) | hy
    · exact hA y hy
    · omega
    · exact hA.neg y hy
  have e1 : IE (isub x u) (isub x A ++ iimg x ((k + 1 : Nat) : Int) ++ neg (isub x A)) := by
    refine (isub_ie hu hm hu2).trans ?_
    rw [isub_app, isub_app, isub_neg hA]
    have : isub x [((k + 1 : Nat) : Int)] = iimg x ((k + 1 : Nat) : Int) := by
      show iimg x _ ++ [] = _
      rw [List.append_nil]
    rw [this]; exact .refl _
  have hc : ∃ C, Nz C ∧ iimg x ((k + 1 : Nat) : Int) = C ++ [((tr x.natAbs k + 1 : Nat) : Int)] ++ neg C := by
    unfold iimg gimg tr
    rw [if_pos (by omega), Int.toNat_natCast]
    by_cases h1 : k + 1 = x.natAbs
    · rw [if_pos h1, if_pos h1]
      by_cases h2 : 0 < x
      · rw [if_pos h2]
        exact ⟨[((k + 1 : Nat) : Int)], fun y hy => by rw [List.mem_singleton] at hy; omega, by rw [← h1]; rfl⟩
      · rw [if_neg h2]
        exact ⟨[], fun y hy => absurd hy (by simp), by rw [← h1]; rfl⟩
    · rw [if_neg h1, if_neg h1]
      by_cases h3 : k + 1 = x.natAbs + 1
      · rw [if_pos h3, if_pos (show k = x.natAbs by omega)]
        by_cases h2 : 0 < x
        · rw [if_pos h2]
          exact ⟨[], fun y hy => absurd hy (by simp), by
            show [_] = [_]
            congr 1
            omega⟩
        · rw [if_neg h2]
          refine ⟨[-((k + 1 : Nat) : Int)], fun y hy => by rw [List.mem_singleton] at hy; omega, ?_⟩
          have e9 : ((k + 1 : Nat) : Int) - 1 = ((x.natAbs - 1 + 1 : Nat) : Int) := by omega
          rw [e9]
          simp only [neg, List.map_cons, List.map_nil, List.reverse_cons, List.reverse_nil, List.nil_append, List.cons_append, Int.neg_neg]
      · rw [if_neg h3, if_neg (show ¬ k = x.natAbs by omega)]
        exact ⟨[], fun y hy => absurd hy (by simp), rfl⟩
  obtain ⟨C, hC, e2⟩ := hc
  refine ⟨isub x A ++ C, fun y hy => ?_, ?_⟩
  · rcases List.mem_append.1 hy with h | h
    · exact isub_nz hx hA y h
    · exact hC y h
  · refine (IE.rd _).trans ?_
    rw [e2] at e1
    rw [neg_app]
    simpa only [List.append_assoc] using e1
theorem cj_fact {N : Nat} : ∀ {w : List Int}, Rg N w → ∀ {u : List Int} {k : Nat}, (∀ y ∈ u, Lr N y) → CJz u ((k + 1 : Nat) : Int) → CJz (fact w u) ((pmw w k + 1 : Nat) : Int)
  | [], _, u, k, _, h => h
  | x :: w, hw, u, k, hu, h => by
    have hx := hw x (by simp)
    have := cj_step hx.1 (fun y hy => (hu y hy).1) h
    exact cj_fact (w := w) (fun z hz => hw z (by simp [hz])) (isub_ird_lr hx hu) this
/-! The reduced form of a conjugate. -/
theorem irdc_ends {a : Int} {u : List Int} (h1 : ∀ b t, u = b :: t → a ≠ -b) (hu : Irdc u) : Irdc (a :: u) := by
  cases u with
  | nil => trivial
  | cons b t => exact ⟨h1 b t rfl, hu⟩
theorem conj_form {m : Int} (hm : m ≠ 0) : ∀ (A : List Int), ∃ B, ird (A ++ [m] ++ neg A) = B ++ [m] ++ neg B
  | [] => ⟨[], rfl⟩
  | a :: A => by
    obtain ⟨B, hB⟩ := conj_form hm A
    have hI : Irdc (B ++ [m] ++ neg B) := by rw [← hB]; exact ird_rdc _
    have e : IE (a :: A ++ [m] ++ neg (a :: A)) ([a] ++ (B ++ [m] ++ neg B) ++ [-a]) := by
      rw [neg_cons]
      have h1 : IE (A ++ [m] ++ neg A) (B ++ [m] ++ neg B) := by
        have := IE.rd (A ++ [m] ++ neg A)
        rw [hB] at this
        exact this.symm
      have := (h1.left [a]).right [-a]
      simpa only [List.append_assoc, List.cons_append, List.nil_append] using this
    have e' : ird (a :: A ++ [m] ++ neg (a :: A)) = ird ([a] ++ (B ++ [m] ++ neg B) ++ [-a]) := e
    rw [e']
    cases B with
    | nil =>
      show ∃ B, ird [a, m, -a] = _
      by_cases c1 : a = -m
      · refine ⟨[], ?_⟩
        have := ird_cancel [] [-a] a m c1
        rw [show ([] : List Int) ++ a :: m :: [-a] = [a, m, -a] from rfl] at this
        rw [this]
        show [-a] = [m]
        rw [c1, Int.neg_neg]
      · by_cases c2 : m = a
        · refine ⟨[], ?_⟩
          have := ird_cancel [a] [] m (-a) (by omega)
          rw [show [a] ++ m :: (-a) :: [] = [a, m, -a] from rfl] at this
          rw [this]
          show [a] = [m]
          rw [c2]
        · exact ⟨[a], ird_of ⟨c1, by omega, trivial⟩⟩
    | cons b B =>
      by_cases c1 : a = -b
      · refine ⟨B, ?_⟩
        have h2 : [a] ++ (b :: B ++ [m] ++ neg (b :: B)) ++ [-a] = [] ++ a :: b :: (B ++ [m] ++ neg B ++ [-b, -a]) := by
          rw [neg_cons]; simp
        rw [h2, ird_cancel _ _ _ _ c1, List.nil_append, show B ++ [m] ++ neg B ++ [-b, -a] = (B ++ [m] ++ neg B) ++ (-b) :: (-a) :: [] from rfl, ird_cancel _ _ _ _ (by omega), List.append_nil]
        refine ird_of ?_
        rw [neg_cons] at hI
        have h3 : b :: B ++ [m] ++ (neg B ++ [-b]) = b :: ((B ++ [m] ++ neg B) ++ [-b]) := by simp
        rw [h3] at hI
        exact hI.tail.pre
      · refine ⟨a :: b :: B, ?_⟩
        have h2 : [a] ++ (b :: B ++ [m] ++ neg (b :: B)) ++ [-a] = a :: b :: B ++ [m] ++ neg (a :: b :: B) := by
          rw [neg_cons a]; simp
        rw [h2]
        refine ird_of ?_
        have h3 : a :: b :: B ++ [m] ++ neg (a :: b :: B) = a :: ((b :: B ++ [m] ++ neg B) ++ [-b] ++ [-a]) := by
          rw [neg_cons a, neg_cons b]; simp
        rw [h3]
        refine irdc_ends (fun c t hc => ?_) ?_
        · have : c = b := by
            have h4 := congrArg (·[0]?) hc
            simp at h4
            exact h4.symm
          rw [this]; exact c1
        · refine Irdc.snoc ?_ (by omega)
          rw [neg_cons] at hI
          have h5 : b :: B ++ [m] ++ (neg B ++ [-b]) = (b :: B ++ [m] ++ neg B) ++ [-b] := by simp
          rwa [h5] at hI
end Gar
end Go.Proofs.Ytlkmcbgkohpmiaa

/- The plain law of ArtinFixes. -/
set_option linter.unusedVariables false
set_option linter.unusedSimpArgs false
namespace Go.Proofs.Ytlkmcbgkohpmiaa
open Ev
namespace Gar
theorem cycLoop {m : Int} (hm : -1000 ≤ m ∧ m ≤ 1000) : ∀ (B : List Int), Sm B → B.length ≤ 100000 → ∀ n k, B.length < k → loopN k (F.word_Cyclic_b0 n) (B ++ [m] ++ neg B) = some [m]
  | [], _, _, n, k, hk => by
    obtain ⟨k, rfl⟩ : ∃ k', k = k' + 1 := ⟨k - 1, by omega⟩
    have hb : F.word_Cyclic_b0 n [m] = some (.inr [m]) := by
      unfold F.word_Cyclic_b0
      dsimp only
      rw [decide_eq_false (by simp)]; rfl
    exact loop_inr hb
  | b :: B, hs, hl, n, k, hk => by
    obtain ⟨k, rfl⟩ : ∃ k', k = k' + 1 := ⟨k - 1, by omega⟩
    simp only [List.length_cons] at hk hl
    have hb1 := hs b (by simp)
    have e : b :: B ++ [m] ++ neg (b :: B) = b :: ((B ++ [m] ++ neg B) ++ [-b]) := by rw [neg_cons]; simp
    have hlen : (b :: ((B ++ [m] ++ neg B) ++ [-b])).length = B.length + 1 + B.length + 2 := by
      simp [neg_len]; omega
    have hb : F.word_Cyclic_b0 n (b :: ((B ++ [m] ++ neg B) ++ [-b])) = some (.inl (B ++ [m] ++ neg B)) := by
      unfold F.word_Cyclic_b0
      dsimp only
      have hmid : (B ++ [m] ++ neg B).length = B.length + 1 + B.length := by simp [neg_len]; omega
      rw [hlen, decide_eq_true (by omega), cond_true, show Ev.get (b :: (B ++ [m] ++ neg B ++ [-b])) 0 = some b from rfl, Option.bind_some, chk_ok (by omega) (by omega), Option.bind_some, get_at (k := B.length + 1 + B.length + 1) (x := -b) (by omega) (by
        rw [List.getElem?_cons_succ, List.getElem?_append_right (by omega), hmid, Nat.sub_self]; rfl), Option.bind_some, chk_ok (by omega) (by omega), Option.bind_some, decide_eq_true (by omega), cond_true, Option.bind_some, cut_ok (by omega) (by omega) (by omega), Option.bind_some]
      have h1 : (((B.length + 1 + B.length + 2 : Nat) : Int) - 1).toNat - (1 : Int).toNat = B.length + 1 + B.length := by omega
      rw [h1, show (1 : Int).toNat = 1 from rfl, List.drop_succ_cons, List.drop_zero, List.take_left' hmid]
    rw [e, loop_inl hb]
    exact cycLoop hm B (fun y hy => hs y (by simp [hy])) (by omega) n k (by omega)
theorem least_one (m : Int) (n : Nat) (hn : 1 ≤ n) : F.word_least n [m] = some 0 := by
  obtain ⟨n, rfl⟩ : ∃ k', n = k' + 1 := ⟨n - 1, by omega⟩
  unfold F.word_least
  have hb : ∀ q, F.word_least_b0 q [m] (0, 1, 0) = some (.inr (0, 1, 0)) := fun q => by
    unfold F.word_least_b0
    rfl
  rw [loop_inr (hb _)]
  rfl
theorem cyc_eq {m : Int} (hm : -1000 ≤ m ∧ m ≤ 1000) {B : List Int} (hs : Sm B) (hr : Irdc (B ++ [m] ++ neg B)) (hl : B.length ≤ 30000) (n : Nat) (hn : 1000000 ≤ n) : F.word_Cyclic n (B ++ [m] ++ neg B) = some [m] := by
  have hS : Sm (B ++ [m] ++ neg B) := fun y hy => by
    simp only [List.mem_append, List.mem_singleton] at hy
    rcases hy with (hy | hy) | hy
    · exact hs y hy
    · subst hy; exact hm
    · exact neg_sm hs y hy
  have hlen : (B ++ [m] ++ neg B).length = B.length + 1 + B.length := by simp [neg_len]; omega
  unfold F.word_Cyclic
  rw [wordReduce hS (by omega) n (by omega), Option.bind_some, ird_of hr, cycLoop hm B hs (by omega) n n (by omega), Option.bind_some]
  dsimp only
  rw [least_one m n (by omega), Option.bind_some]
  rfl
theorem conj_true {m : Int} (hm : -1000 ≤ m ∧ m ≤ 1000) {B : List Int} (hs : Sm B) (hr : Irdc (B ++ [m] ++ neg B)) (hl : B.length ≤ 30000) (n : Nat) (hn : 1000000 ≤ n) : F.word_Conjugate n (B ++ [m] ++ neg B) [m] = some true := by
  unfold F.word_Conjugate
  have h1 := cyc_eq (B := []) hm (fun y hy => absurd hy (by simp)) trivial (by simp) n hn
  rw [cyc_eq hm hs hr hl n hn, Option.bind_some]
  have h2 : ([] ++ [m] ++ neg [] : List Int) = [m] := rfl
  rw [h2] at h1
  rw [h1, Option.bind_some, equalW n (by simp; omega) (by simp), decide_eq_true rfl]
  rfl
theorem allUp {N : Nat} (hN : N ≤ 10) (n : Nat) (hn : 100 < n) : loopN n (F.law35_ArtinFixes_b0 n (N : Int)) (([] : List Int), 0) = some (upl 1 N, (N : Int)) := by
  have := count_loop (body := F.law35_ArtinFixes_b0 n (N : Int)) (fun k => (upl 1 k, (k : Int))) N (r := (upl 1 N, (N : Int))) (fun k hk => by
    unfold F.law35_ArtinFixes_b0
    dsimp only
    rw [decide_eq_true (by omega), cond_true, chk_ok (by omega) (by omega), Option.bind_some, lim_ok (by simp [upl]; omega), Option.bind_some, Option.bind_some, upl_add 1 k 1]
    have : upl (1 + k) 1 = [(k : Int) + 1] := by
      show [((1 + k + 0 : Nat) : Int)] = _
      congr 1
      omega
    rw [this]
    rfl) (by
    unfold F.law35_ArtinFixes_b0
    dsimp only
    rw [decide_eq_false (by omega), cond_false]) n (by omega)
  exact this
end Gar
open Gar in
theorem law35_ArtinFixes_true (x0 : Int × List Int) (o0 : Ev.Sh.ok (.pr (.int .i64) (.sl (.int .i64))) x0) : ∃ n, F.law35_ArtinFixes n x0.1 x0.2 = some true := by
  refine ⟨10000000000, ?_⟩
  obtain ⟨s, w⟩ := x0
  dsimp only
  unfold F.law35_ArtinFixes
  rw [awake35, Option.bind_some, Bool.not_true, cond_false, great_eq, Option.bind_some]
  by_cases hg : 14 < w.length ∨ (5 < s ∧ s ≤ 10)
  · rw [decide_eq_true hg]; rfl
  rw [decide_eq_false hg, cond_false, braidValid _ (by omega), Option.bind_some]
  cases hv : okB s w with
  | false => rfl
  | true =>
    obtain ⟨a1, a2, a3, a4⟩ := okB_iff.1 hv
    obtain ⟨N, rfl⟩ : ∃ N : Nat, s = (N : Int) := ⟨s.toNat, by omega⟩
    have hw : Rg N w := fun x hx => a4 x hx
    have hlr : ∀ y ∈ upl 1 N, Lr N y := fun y hy => by have := upl_mem hy; unfold Lr; omega
    have hlen : (upl 1 N).length = N := by simp [upl]
    obtain ⟨f1, f2⟩ := fact_all (N := N) (by omega) hw
    have hird : ird (upl 1 N) = upl 1 N := ird_of (upl_rdc 0 N)
    rw [Bool.not_true, cond_false, allUp (by omega) _ (by omega), Option.bind_some]
    dsimp only
    rw [artinAct hv hlr (by omega) _ (by omega), hird, f1, f2, if_neg (by decide), Option.bind_some, artinImages hv _ (by omega), notFullA (by omega) hw (by omega), if_neg (by decide), Option.bind_some, braidPerm hv _ (by omega), Option.bind_some]
    dsimp only
    rw [decide_eq_true rfl, Bool.not_true, cond_false, cond_false, equalW _ (by omega) (by omega), decide_eq_true rfl, Option.bind_some, Bool.not_true, cond_false, rowsA_len, li_len, decide_eq_true rfl, Bool.not_true, cond_false, cond_false]
    have := count_loop (body := F.law35_ArtinFixes_b1 10000000000 (rowsA N w, 0) (li N (pmw w))) (fun k => (k : Int)) N (r := .inl (N : Int)) (fun k hk => by
      obtain ⟨A, hA, hA2⟩ := cj_fact (N := N) hw (u := [((k + 1 : Nat) : Int)]) (k := k) (gen_lr hk) ⟨[], fun y hy => absurd hy (by simp), .refl _⟩
      have hp := (pmw_pm hw).lt hk
      obtain ⟨B, hB⟩ := conj_form (m := ((pmw w k + 1 : Nat) : Int)) (by omega) A
      have e0 : fact w [((k + 1 : Nat) : Int)] = B ++ [((pmw w k + 1 : Nat) : Int)] ++ neg B := by
        have h1 : ird (fact w [((k + 1 : Nat) : Int)]) = ird (A ++ [((pmw w k + 1 : Nat) : Int)] ++ neg A) := hA2
        rw [hB, fact_rev, ird_of (iact_rdc _ _)] at h1
        rw [fact_rev, h1]
      have hr := iact_rdc w.reverse (k + 1)
      rw [← fact_rev, e0] at hr
      have hl := iact_small (N := N) (by omega) hw.rev (by rw [List.length_reverse]; omega) (j := k + 1) (by omega) (by omega)
      rw [← fact_rev, e0] at hl
      have hl2 : B.length ≤ 30000 := by
        rw [List.length_append, List.length_append] at hl; omega
      have hsm : Sm B := fun y hy => by
        have h2 : y ∈ iact w.reverse (k + 1) := by rw [← fact_rev, e0]; simp [hy]
        have := iact_lr hw.rev (by omega) (by omega) y h2
        unfold Lr at this; omega
      unfold F.law35_ArtinFixes_b1
      dsimp only
      rw [rowsA_len, decide_eq_true (by omega), cond_true, get_at rfl (rowsA_at hk), Option.bind_some, get_at rfl (li_at hk), Option.bind_some, chk_ok (by omega) (by omega), Option.bind_some, e0, show ((pmw w k : Nat) : Int) + 1 = ((pmw w k + 1 : Nat) : Int) by omega, conj_true (by omega) hsm hr hl2 _ (by omega), Option.bind_some, Bool.not_true, cond_false, chk_ok (by omega) (by omega)]
      rfl) (by
      unfold F.law35_ArtinFixes_b1
      dsimp only
      rw [rowsA_len, decide_eq_false (by omega), cond_false]) 10000000000 (by omega)
    have e : loopN 10000000000 (F.law35_ArtinFixes_b1 10000000000 (rowsA N w, 0) (li N (pmw w))) 0 = some (.inl (N : Int)) := this
    rw [e]; rfl
end Go.Proofs.Ytlkmcbgkohpmiaa
