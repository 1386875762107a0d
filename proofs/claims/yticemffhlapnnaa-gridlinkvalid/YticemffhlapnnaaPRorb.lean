/- The round along a component, alike in both programs. -/
import Derived.Test.YticemffhlapnnaaPRref
set_option linter.unusedVariables false
set_option linter.unusedSimpArgs false
namespace Go.Proofs.Yticemffhlapnnaa
open Ev
namespace Gl
open Gar Pg
/-- The way from c along nx over what has not been seen. -/
inductive Wk (nx : Nat → Nat) : List Bool → Nat → List Nat → List Bool → Nat → Prop
  | done {s : List Bool} {c : Nat} (h : s[c]? = some true) : Wk nx s c [] s c
  | step {s s' : List Bool} {c c' : Nat} {v : List Nat} (h : s[c]? = some false) (t : Wk nx (s.set c true) (nx c) v s' c') : Wk nx s c (c :: v) s' c'
theorem count_set {s : List Bool} {c : Nat} (h : s[c]? = some false) : (s.set c true).countP (fun b => !b) + 1 = s.countP (fun b => !b) := by
  induction s generalizing c with
  | nil => simp at h
  | cons b s ih =>
    cases c with
    | zero =>
      simp at h; subst h
      simp
    | succ c =>
      simp only [List.getElem?_cons_succ] at h
      have := ih h
      simp only [List.set_cons_succ, List.countP_cons]
      omega
theorem Wk.exists {nx : Nat → Nat} {n : Nat} (hn : ∀ c, c < n → nx c < n) : ∀ (k : Nat) (s : List Bool) (c : Nat), s.length = n → c < n → s.countP (fun b => !b) ≤ k → ∃ v s' c', Wk nx s c v s' c'
  | k, s, c, hs, hc, hk => by
    obtain ⟨b, hb⟩ : ∃ b, s[c]? = some b := ⟨_, List.getElem?_eq_getElem (by omega)⟩
    cases b with
    | true => exact ⟨_, _, _, .done hb⟩
    | false =>
      have h1 := count_set hb
      cases k with
      | zero => omega
      | succ k =>
        obtain ⟨v, s', c', h⟩ := Wk.exists hn k (s.set c true) (nx c) (by rw [List.length_set, hs]) (hn c hc) (by omega)
        exact ⟨_, _, _, .step hb h⟩
theorem Wk.len {nx : Nat → Nat} {s s' : List Bool} {c c' : Nat} {v : List Nat} (h : Wk nx s c v s' c') : v.length ≤ s.length ∧ s'.length = s.length := by
  have : v.length ≤ s.countP (fun b => !b) ∧ s'.length = s.length := by
    induction h with
    | done h => exact ⟨Nat.zero_le _, rfl⟩
    | step h t ih =>
      have := count_set h
      rw [List.length_set] at ih
      exact ⟨by rw [List.length_cons]; omega, ih.2⟩
  have := List.countP_le_length (p := fun b => !b) (l := s)
  omega
def part (n : Nat) (x o cx co : Nat → Nat) (c : Nat) : List Vis := colV n x o cx co c ++ rowV n x o cx co (o c)
theorem concat2 {a b : List (Int × Int)} (ha : a.length ≤ 100000) (hb : b.length ≤ 100000) (m : Nat) (hm : 10 < m) : F.slices_Concat_passage_passage m [a, b] = some (a ++ b) := by
  obtain ⟨k, rfl⟩ : ∃ k, m = k + 3 := ⟨m - 3, by omega⟩
  unfold F.slices_Concat_passage_passage
  have g0 : Ev.get [a, b] (0 : Int) = some a := rfl
  have g1 : Ev.get [a, b] (1 : Int) = some b := rfl
  have s0 : F.slices_Concat_passage_passage_b0 (k + 3) [a, b] (0, 0) = some (.inl ((a.length : Int), 1)) := by
    unfold F.slices_Concat_passage_passage_b0
    dsimp only
    rw [decide_eq_true (by simp), cond_true, g0, Option.bind_some, chk_ok (by omega) (by omega), Option.bind_some, decide_eq_false (by omega), cond_false, chk_ok (by omega) (by omega), Option.bind_some, Int.zero_add]
    rfl
  have s1 : F.slices_Concat_passage_passage_b0 (k + 3) [a, b] ((a.length : Int), 1) = some (.inl ((a.length : Int) + (b.length : Int), 2)) := by
    unfold F.slices_Concat_passage_passage_b0
    dsimp only
    rw [decide_eq_true (by simp), cond_true, g1, Option.bind_some, chk_ok (by omega) (by omega), Option.bind_some, decide_eq_false (by omega), cond_false, chk_ok (by omega) (by omega), Option.bind_some]
    rfl
  have s2 : F.slices_Concat_passage_passage_b0 (k + 3) [a, b] ((a.length : Int) + (b.length : Int), 2) = some (.inr ((a.length : Int) + (b.length : Int), 2)) := by
    unfold F.slices_Concat_passage_passage_b0
    dsimp only
    rw [decide_eq_false (by simp), cond_false]
  have hg : F.slices_Grow_passage_passage_nil (k + 3) ((a.length : Int) + (b.length : Int)) = some [] := by
    unfold F.slices_Grow_passage_passage_nil
    rw [decide_eq_false (by omega), cond_false, chk_ok (by omega) (by omega), Option.bind_some, chk_ok (by omega) (by omega), Option.bind_some]
    by_cases h : 0 < (a.length : Int) + (b.length : Int) - (0 - 0)
    · rw [decide_eq_true h, cond_true, posz_ok (by omega) (by omega), Option.bind_some, cut_ok (by omega) (by omega) (by omega), Option.bind_some]
      rfl
    · rw [decide_eq_false h, cond_false]
  have t0 : F.slices_Concat_passage_passage_b1 (k + 3) [a, b] ([], 0) = some (.inl (a, 1)) := by
    unfold F.slices_Concat_passage_passage_b1
    dsimp only
    rw [decide_eq_true (by simp), cond_true, g0, Option.bind_some, lim_ok (by simp only [List.length_nil]; omega), Option.bind_some, chk_ok (by omega) (by omega), Option.bind_some]
    rfl
  have t1 : F.slices_Concat_passage_passage_b1 (k + 3) [a, b] (a, 1) = some (.inl (a ++ b, 2)) := by
    unfold F.slices_Concat_passage_passage_b1
    dsimp only
    rw [decide_eq_true (by simp), cond_true, g1, Option.bind_some, lim_ok (by omega), Option.bind_some, chk_ok (by omega) (by omega), Option.bind_some]
    rfl
  have t2 : F.slices_Concat_passage_passage_b1 (k + 3) [a, b] (a ++ b, 2) = some (.inr (a ++ b, 2)) := by
    unfold F.slices_Concat_passage_passage_b1
    dsimp only
    rw [decide_eq_false (by simp), cond_false]
  have l0 : loopN (k + 3) (F.slices_Concat_passage_passage_b0 (k + 3) [a, b]) (0, 0) = some ((a.length : Int) + (b.length : Int), 2) := by
    simp only [loopN, s0, s1, s2, Option.bind_some]
  have l1 : loopN (k + 3) (F.slices_Concat_passage_passage_b1 (k + 3) [a, b]) ([], 0) = some (a ++ b, 2) := by
    simp only [loopN, t0, t1, t2, Option.bind_some]
  rw [l0, Option.bind_some]
  dsimp only
  rw [hg, Option.bind_some, l1, Option.bind_some]
section
variable {n : Nat} {x o cx co : Nat → Nat} (g : Gd n x o cx co)
include g
theorem Gd.nxl {c : Nat} (h : c < n) : cx (o c) < n := g.cxl (g.ol h)
omit g in
theorem len_seg (a b : Nat) : (seg a b).length = max a b - min a b := by simp [seg, segk]
theorem Gd.col_len {c : Nat} (h : c < n) : (colV n x o cx co c).length ≤ 40 := by
  have h1 := g.xl h
  have h2 := g.ol h
  have h3 := g.hi
  have := List.length_filter_le (cr x o cx co c) (seg (x c) (o c))
  rw [len_seg] at this
  unfold colV
  rw [List.length_map]; omega
theorem Gd.row_len2 {j : Nat} (h : j < n) : (rowV n x o cx co j).length ≤ 40 := by
  have h1 := g.cxl h
  have h2 := g.col h
  have h3 := g.hi
  have := List.length_filter_le (fun i => cr x o cx co i j) (seg (co j) (cx j))
  rw [len_seg] at this
  unfold rowV
  rw [List.length_map]; omega
theorem Gd.part_len {c : Nat} (h : c < n) : (part n x o cx co c).length ≤ 80 := by
  have := g.col_len h
  have := g.row_len2 (g.ol h)
  unfold part
  rw [List.length_append]; omega
theorem Gd.seg_vis {i j : Nat} (hi : i < n) (hj : j < n) (h : cr x o cx co i j = true) : num (crl n x o cx co) (i, j) < (sgl n x o cx co).length := by
  rw [g.sgl_len]; exact num_lt (mem_crl.2 ⟨hi, hj, h⟩)
theorem Gd.part_vis {c : Nat} (h : c < n) : ∀ v ∈ part n x o cx co c, 0 ≤ v.1 ∧ v.1 < ((sgl n x o cx co).length : Int) := by
  intro v hv
  unfold part at hv
  rcases List.mem_append.1 hv with hv | hv
  · unfold colV at hv
    obtain ⟨r, hr, rfl⟩ := List.mem_map.1 hv
    have hc := (List.mem_filter.1 hr).2
    have hb := g.cr_col hc
    have h1 := g.xl h
    have h2 := g.ol h
    have := g.seg_vis h (show r < n by omega) hc
    unfold vov
    dsimp only; omega
  · unfold rowV at hv
    obtain ⟨r, hr, rfl⟩ := List.mem_map.1 hv
    have hc := (List.mem_filter.1 hr).2
    have hb := g.cr_row hc
    have h1 := g.cxl (g.ol h)
    have h2 := g.col (g.ol h)
    have := g.seg_vis (show r < n by omega) (g.ol h) hc
    unfold vun
    dsimp only; omega
/-- One column and its row, in the reference. -/
theorem Gd.ref_step {c : Nat} (hc : c < n) {s : List Bool} (hs : s[c]? = some false) (a1 a2 : List Int) (h1 : a1.length ≤ 40000) (h2 : a2.length ≤ 40000) (m : Nat) (hm : 3000 < m) :
    F.ref44_Diagram_b2 m (li n x) (li n o) ((crl n x o cx co).map ip) (sgl n x o cx co) (a1, a2, (c : Int), s) =
      some (.inl (a1 ++ (part n x o cx co c).map (fun v => (ps (sgl n x o cx co) v).1), a2 ++ (part n x o cx co c).map (fun v => (ps (sgl n x o cx co) v).2), ((cx (o c) : Nat) : Int), s.set c true)) := by
  have hn := g.hi
  have q1 := g.xl hc
  have q2 := g.ol hc
  have q3 := g.nxl hc
  have hgs : Ev.get s (c : Int) = some false := get_at rfl hs
  have hco : co (o c) = c := g.po.gf c
  have lc := g.col_len hc
  have lr := g.row_len2 q2
  have h5 : ∀ (b : Bool), F.ref44_Diagram_j5 m (li n x) (li n o) ((crl n x o cx co).map ip) (c : Int) s (a1 ++ (colV n x o cx co c).map (fun v => (ps (sgl n x o cx co) v).1)) (a2 ++ (colV n x o cx co c).map (fun v => (ps (sgl n x o cx co) v).2)) ((o c : Nat) : Int) ((cx (o c) : Nat) : Int) (if c < cx (o c) then 1 else -1) b =
      some (.inl (a1 ++ (part n x o cx co c).map (fun v => (ps (sgl n x o cx co) v).1), a2 ++ (part n x o cx co c).map (fun v => (ps (sgl n x o cx co) v).2), ((cx (o c) : Nat) : Int), s.set c true)) := by
    intro b
    have hw := g.row_walk q2 (a1 ++ (colV n x o cx co c).map (fun v => (ps (sgl n x o cx co) v).1)) (a2 ++ (colV n x o cx co c).map (fun v => (ps (sgl n x o cx co) v).2)) (by rw [List.length_append, List.length_map]; omega) (by rw [List.length_append, List.length_map]; omega) m hm
    rw [hco] at hw
    unfold F.ref44_Diagram_j5
    rw [hw, Option.bind_some]
    dsimp only
    rw [get_li (by omega) (by omega), Option.bind_some, Int.toNat_natCast, refColumn g.px q2 (by omega) m (by omega), Option.bind_some]
    unfold part
    rw [List.map_append, List.map_append, List.append_assoc, List.append_assoc]
  have h3 : ∀ (b : Bool), F.ref44_Diagram_j3 m (li n x) (li n o) ((crl n x o cx co).map ip) (sgl n x o cx co) a1 a2 (c : Int) s (if x c < o c then 1 else -1) b =
      some (.inl (a1 ++ (part n x o cx co c).map (fun v => (ps (sgl n x o cx co) v).1), a2 ++ (part n x o cx co c).map (fun v => (ps (sgl n x o cx co) v).2), ((cx (o c) : Nat) : Int), s.set c true)) := by
    intro b
    unfold F.ref44_Diagram_j3
    rw [get_li (by omega) (by omega), Option.bind_some, Int.toNat_natCast, g.col_walk hc a1 a2 (by omega) (by omega) m hm, Option.bind_some]
    dsimp only
    rw [get_li (by omega) (by omega), Option.bind_some, Option.bind_some, Int.toNat_natCast, refColumn g.px q2 (by omega) m (by omega), Option.bind_some]
    have hne := g.cne q2
    rw [hco] at hne
    by_cases h : c < cx (o c)
    · have := h5 (decide (((cx (o c) : Nat) : Int) < (c : Int)))
      rw [if_pos h] at this
      rw [decide_eq_false (show ¬ ((cx (o c) : Nat) : Int) < (c : Int) by omega)] at this ⊢
      rw [cond_false, this]
    · have := h5 (decide (((cx (o c) : Nat) : Int) < (c : Int)))
      rw [if_neg h] at this
      rw [decide_eq_true (show ((cx (o c) : Nat) : Int) < (c : Int) by omega)] at this ⊢
      rw [cond_true, this]
  unfold F.ref44_Diagram_b2
  dsimp only
  rw [hgs, Option.bind_some, Bool.not_false, cond_true, Option.bind_some, get_li (by omega) (by omega), Option.bind_some, get_li (by omega) (by omega), Option.bind_some, Int.toNat_natCast]
  have hne := g.ne c hc
  by_cases h : x c < o c
  · have := h3 (decide (((o c : Nat) : Int) < ((x c : Nat) : Int)))
    rw [if_pos h] at this
    rw [decide_eq_false (show ¬ ((o c : Nat) : Int) < ((x c : Nat) : Int) by omega)] at this ⊢
    rw [cond_false, this]
  · have := h3 (decide (((o c : Nat) : Int) < ((x c : Nat) : Int)))
    rw [if_neg h] at this
    rw [decide_eq_true (show ((o c : Nat) : Int) < ((x c : Nat) : Int) by omega)] at this ⊢
    rw [cond_true, this]
theorem Gd.ref_round {s s' : List Bool} {c c' : Nat} {v : List Nat} (h : Wk (fun c => cx (o c)) s c v s' c') (m : Nat) (hm : 3000 < m) : c < n → ∀ (k : Nat) (a1 a2 : List Int), v.length < k → a1.length + 100 * v.length ≤ 40000 → a2.length + 100 * v.length ≤ 40000 →
    loopN k (F.ref44_Diagram_b2 m (li n x) (li n o) ((crl n x o cx co).map ip) (sgl n x o cx co)) (a1, a2, (c : Int), s) =
      some (a1 ++ (v.flatMap (part n x o cx co)).map (fun v => (ps (sgl n x o cx co) v).1), a2 ++ (v.flatMap (part n x o cx co)).map (fun v => (ps (sgl n x o cx co) v).2), (c' : Int), s') := by
  induction h with
  | @done s c h =>
    intro hc k a1 a2 hk h1 h2
    obtain ⟨k, rfl⟩ : ∃ j, k = j + 1 := ⟨k - 1, by omega⟩
    have hb : F.ref44_Diagram_b2 m (li n x) (li n o) ((crl n x o cx co).map ip) (sgl n x o cx co) (a1, a2, (c : Int), s) = some (.inr (a1, a2, (c : Int), s)) := by
      unfold F.ref44_Diagram_b2
      dsimp only
      rw [get_at rfl h, Option.bind_some, Bool.not_true, cond_false]
    simp only [loopN, hb, Option.bind_some, List.flatMap_nil, List.map_nil, List.append_nil]
  | @step s s' c c' v h t ih =>
    intro hc k a1 a2 hk h1 h2
    rw [List.length_cons] at hk h1 h2
    obtain ⟨k, rfl⟩ : ∃ j, k = j + 1 := ⟨k - 1, by omega⟩
    have hp := g.part_len hc
    have hb := g.ref_step hc h a1 a2 (by omega) (by omega) m hm
    simp only [loopN, hb, Option.bind_some]
    rw [ih (g.nxl hc) k _ _ (by omega) (by rw [List.length_append, List.length_map]; omega) (by rw [List.length_append, List.length_map]; omega)]
    simp only [List.flatMap_cons, List.map_append, List.append_assoc]
end
end Gl
end Go.Proofs.Yticemffhlapnnaa
