/- The round of the program, passage by passage. -/
import Derived.Test.YticemffhlapnnaaPRorb
set_option linter.unusedVariables false
set_option linter.unusedSimpArgs false
namespace Go.Proofs.Yticemffhlapnnaa
open Ev
namespace Gl
open Gar Pg
def tabC (n : Nat) (x o cx co : Nat → Nat) : List (List (Int × Int)) := tab n (fun i => (colV n x o cx co i).map (ps (sgl n x o cx co)))
def tabR (n : Nat) (x o cx co : Nat → Nat) : List (List (Int × Int)) := tab n (fun j => (rowV n x o cx co j).map (ps (sgl n x o cx co)))
/-- The passages of a way. -/
def pss (n : Nat) (x o cx co : Nat → Nat) (v : List Nat) : List (Int × Int) := (v.flatMap (part n x o cx co)).map (ps (sgl n x o cx co))
section
variable {n : Nat} {x o cx co : Nat → Nat} (g : Gd n x o cx co)
include g
omit g in
theorem Gd.c1_end (g : Gd n x o cx co) {s : List Bool} {c : Nat} (h : s[c]? = some true) (m : Nat) : F.gridlink_Diagram_c1_b0 m (li n o) (tabC n x o cx co) (tabR n x o cx co) (li n cx) ([], s, (c : Int)) = some (.inr (.inr (0, 0, false, s, [], (c : Int)))) := by
  unfold F.gridlink_Diagram_c1_b0
  dsimp only
  rw [decide_eq_true (by simp), cond_true, get_at rfl h, Option.bind_some, cond_true]
omit g in
theorem Gd.c1_full (g : Gd n x o cx co) {s : List Bool} {c : Nat} {a : List (Int × Int)} (ha : a ≠ []) (m : Nat) : F.gridlink_Diagram_c1_b0 m (li n o) (tabC n x o cx co) (tabR n x o cx co) (li n cx) (a, s, (c : Int)) = some (.inr (.inl (a, s, (c : Int)))) := by
  have : 0 < a.length := List.length_pos_iff.2 ha
  unfold F.gridlink_Diagram_c1_b0
  dsimp only
  rw [decide_eq_false (by omega), cond_false]
theorem Gd.c1_step {s : List Bool} {c : Nat} (hc : c < n) (h : s[c]? = some false) (m : Nat) (hm : 100 < m) : F.gridlink_Diagram_c1_b0 m (li n o) (tabC n x o cx co) (tabR n x o cx co) (li n cx) ([], s, (c : Int)) = some (.inl ((part n x o cx co c).map (ps (sgl n x o cx co)), s.set c true, ((cx (o c) : Nat) : Int))) := by
  have h1 := g.ol hc
  have h2 := g.col_len hc
  have h3 := g.row_len2 h1
  unfold F.gridlink_Diagram_c1_b0 tabC tabR
  dsimp only
  rw [decide_eq_true (by simp), cond_true, get_at rfl h, Option.bind_some, cond_false, Option.bind_some, get_li (by omega) (by omega), Option.bind_some, Int.toNat_natCast, get_tab rfl hc, Option.bind_some, get_tab rfl h1, Option.bind_some,
    concat2 (by rw [List.length_map]; omega) (by rw [List.length_map]; omega) m (by omega), Option.bind_some, get_li (by omega) (by omega), Option.bind_some, Int.toNat_natCast]
  unfold part
  rw [List.map_append]
theorem Gd.next_loop {s s' : List Bool} {c c' : Nat} {v : List Nat} (h : Wk (fun c => cx (o c)) s c v s' c') (m : Nat) (hm : 100 < m) : c < n → ∀ k, v.length < k →
    (pss n x o cx co v = [] ∧ loopN k (F.gridlink_Diagram_c1_b0 m (li n o) (tabC n x o cx co) (tabR n x o cx co) (li n cx)) ([], s, (c : Int)) = some (.inr (0, 0, false, s', [], (c' : Int)))) ∨
    ∃ a s1 c1 v1, a ≠ [] ∧ a.length ≤ 80 ∧ c1 < n ∧ loopN k (F.gridlink_Diagram_c1_b0 m (li n o) (tabC n x o cx co) (tabR n x o cx co) (li n cx)) ([], s, (c : Int)) = some (.inl (a, s1, ((c1 : Nat) : Int))) ∧ Wk (fun c => cx (o c)) s1 c1 v1 s' c' ∧ pss n x o cx co v = a ++ pss n x o cx co v1 ∧ v1.length ≤ v.length := by
  induction h with
  | @done s c h =>
    intro hc k hk
    obtain ⟨k, rfl⟩ : ∃ j, k = j + 1 := ⟨k - 1, by omega⟩
    exact .inl ⟨rfl, by simp only [loopN, g.c1_end h m, Option.bind_some]⟩
  | @step s s' c c' v h t ih =>
    intro hc k hk
    rw [List.length_cons] at hk
    obtain ⟨k, rfl⟩ : ∃ j, k = j + 1 := ⟨k - 1, by omega⟩
    have hb := g.c1_step hc h m hm
    have hl := g.part_len hc
    have hp : pss n x o cx co (c :: v) = (part n x o cx co c).map (ps (sgl n x o cx co)) ++ pss n x o cx co v := by
      unfold pss; rw [List.flatMap_cons, List.map_append]
    simp only [loopN, hb, Option.bind_some]
    by_cases he : (part n x o cx co c).map (ps (sgl n x o cx co)) = []
    · rw [hp, he, List.nil_append]
      rcases ih (g.nxl hc) k (by omega) with h1 | ⟨a, s1, c1, v1, h1, h2, h3, h4, h5, h6, h7⟩
      · exact .inl h1
      · exact .inr ⟨a, s1, c1, v1, h1, h2, h3, h4, h5, h6, by rw [List.length_cons]; omega⟩
    · obtain ⟨k, rfl⟩ : ∃ j, k = j + 1 := ⟨k - 1, by omega⟩
      right
      refine ⟨_, _, _, v, he, by rw [List.length_map]; exact hl, g.nxl hc, ?_, t, hp, by rw [List.length_cons]; omega⟩
      simp only [loopN, g.c1_full he m, Option.bind_some]
theorem Gd.next {s s' : List Bool} {c c' : Nat} {v : List Nat} (h : Wk (fun c => cx (o c)) s c v s' c') (m : Nat) (hm : 100 < m) (hc : c < n) (hv : v.length < m) (a : List (Int × Int)) (hal : a.length ≤ 80) :
    (a ++ pss n x o cx co v = [] ∧ F.gridlink_Diagram_c1 m a s (c : Int) (li n x) (li n o) (tabC n x o cx co) (tabR n x o cx co) (li n cx) = some (0, 0, false, s', [], (c' : Int))) ∨
    ∃ p a1 s1 c1 v1, a1.length ≤ 80 ∧ c1 < n ∧ F.gridlink_Diagram_c1 m a s (c : Int) (li n x) (li n o) (tabC n x o cx co) (tabR n x o cx co) (li n cx) = some (p.1, p.2, true, s1, a1, ((c1 : Nat) : Int)) ∧ Wk (fun c => cx (o c)) s1 c1 v1 s' c' ∧ a ++ pss n x o cx co v = p :: (a1 ++ pss n x o cx co v1) ∧ v1.length ≤ v.length := by
  have key : ∀ (a : List (Int × Int)) s1 c1 v1, a ≠ [] → a.length ≤ 80 → c1 < n → Wk (fun c => cx (o c)) s1 c1 v1 s' c' → v1.length ≤ v.length → ∀ a0 s0 (z0 : Int), loopN m (F.gridlink_Diagram_c1_b0 m (li n o) (tabC n x o cx co) (tabR n x o cx co) (li n cx)) (a0, s0, z0) = some (.inl (a, s1, ((c1 : Nat) : Int))) →
      ∃ p a1, a = p :: a1 ∧ F.gridlink_Diagram_c1 m a0 s0 z0 (li n x) (li n o) (tabC n x o cx co) (tabR n x o cx co) (li n cx) = some (p.1, p.2, true, s1, a1, ((c1 : Nat) : Int)) := by
    intro a s1 c1 v1 ha hal hc1 hw hl a0 s0 z0 he
    cases a with
    | nil => exact absurd rfl ha
    | cons p a1 =>
      refine ⟨p, a1, rfl, ?_⟩
      unfold F.gridlink_Diagram_c1
      rw [he, Option.bind_some]
      dsimp only
      have hg : Ev.get (p :: a1) (0 : Int) = some p := rfl
      rw [List.length_cons] at hal
      rw [hg, Option.bind_some, cut_ok (by omega) (by rw [List.length_cons]; omega) (by omega), Option.bind_some]
      have : ((p :: a1).drop (1 : Int).toNat).take (((p :: a1).length : Int).toNat - (1 : Int).toNat) = a1 := by
        show a1.take _ = a1
        exact List.take_of_length_le (by rw [Int.toNat_natCast, List.length_cons]; show a1.length ≤ a1.length + 1 - 1; omega)
      rw [this]
  by_cases ha : a = []
  · subst ha
    rw [List.nil_append]
    rcases g.next_loop h m hm hc m hv with ⟨h1, h2⟩ | ⟨a, s1, c1, v1, h1, h2, h3, h4, h5, h6, h7⟩
    · refine .inl ⟨h1, ?_⟩
      unfold F.gridlink_Diagram_c1
      rw [h2, Option.bind_some]
    · obtain ⟨p, a1, rfl, e⟩ := key a s1 c1 v1 h1 h2 h3 h5 h7 _ _ _ h4
      rw [List.length_cons] at h2
      exact .inr ⟨p, a1, s1, c1, v1, by omega, h3, e, h5, by rw [h6]; rfl, h7⟩
  · have hl : loopN m (F.gridlink_Diagram_c1_b0 m (li n o) (tabC n x o cx co) (tabR n x o cx co) (li n cx)) (a, s, (c : Int)) = some (.inl (a, s, ((c : Nat) : Int))) := by
      obtain ⟨k, rfl⟩ : ∃ j, m = j + 1 := ⟨m - 1, by omega⟩
      simp only [loopN, g.c1_full ha (k + 1), Option.bind_some]
    obtain ⟨p, a1, rfl, e⟩ := key a s c v ha hal hc h (Nat.le_refl _) _ _ _ hl
    rw [List.length_cons] at hal
    exact .inr ⟨p, a1, s, c, v, by omega, hc, e, h, rfl, Nat.le_refl _⟩
theorem Gd.collect {s' : List Bool} {c' : Nat} (m : Nat) (hm : 100 < m) (sg : List Int) : ∀ (R : List (Int × Int)) (l a : List (Int × Int)) (p : Int × Int) (s : List Bool) (c : Nat) (v : List Nat) (k : Nat), Wk (fun c => cx (o c)) s c v s' c' → c < n → v.length < m → a.length ≤ 80 → R = a ++ pss n x o cx co v → l.length + R.length ≤ 100000 → R.length + 1 < k →
    loopN k (F.gridlink_Diagram_b1 m (li n x) (li n o) (sg, tabC n x o cx co, tabR n x o cx co) (li n cx)) (l, true, s, (c : Int), a, p.1, p.2) = some (l ++ p :: R, false, s', (c' : Int), [], 0, 0) := by
  intro R
  induction R with
  | nil =>
    intro l a p s c v k hw hc hv ha hR hl hk
    obtain ⟨k, rfl⟩ : ∃ j, k = j + 2 := ⟨k - 2, by simp at hk; omega⟩
    have hb : F.gridlink_Diagram_b1 m (li n x) (li n o) (sg, tabC n x o cx co, tabR n x o cx co) (li n cx) (l, true, s, (c : Int), a, p.1, p.2) = some (.inl (l ++ [p], false, s', (c' : Int), [], 0, 0)) := by
      rcases g.next hw m hm hc hv a ha with ⟨_, h2⟩ | ⟨q, a1, s1, c1, v1, _, _, _, _, h3, _⟩
      · unfold F.gridlink_Diagram_b1
        dsimp only
        rw [cond_true, lim_ok (by simp only [List.length_cons, List.length_nil] at hl ⊢; omega), Option.bind_some, h2, Option.bind_some]
      · rw [h3] at hR; cases hR
    have he : F.gridlink_Diagram_b1 m (li n x) (li n o) (sg, tabC n x o cx co, tabR n x o cx co) (li n cx) (l ++ [p], false, s', (c' : Int), [], 0, 0) = some (.inr (l ++ [p], false, s', (c' : Int), [], 0, 0)) := by
      unfold F.gridlink_Diagram_b1
      dsimp only
      rw [cond_false]
    simp only [loopN, hb, he, Option.bind_some]
  | cons r R ih =>
    intro l a p s c v k hw hc hv ha hR hl hk
    rw [List.length_cons] at hl hk
    obtain ⟨k, rfl⟩ : ∃ j, k = j + 1 := ⟨k - 1, by omega⟩
    rcases g.next hw m hm hc hv a ha with ⟨h1, _⟩ | ⟨q, a1, s1, c1, v1, h2, h3, h4, h5, h6, h7⟩
    · rw [h1] at hR; cases hR
    · rw [h6] at hR
      injection hR with e1 e2
      subst e1
      have hb : F.gridlink_Diagram_b1 m (li n x) (li n o) (sg, tabC n x o cx co, tabR n x o cx co) (li n cx) (l, true, s, (c : Int), a, p.1, p.2) = some (.inl (l ++ [p], true, s1, (c1 : Int), a1, r.1, r.2)) := by
        unfold F.gridlink_Diagram_b1
        dsimp only
        rw [cond_true, lim_ok (by simp only [List.length_cons, List.length_nil]; omega), Option.bind_some, h4, Option.bind_some]
      simp only [loopN, hb, Option.bind_some]
      rw [ih (l ++ [p]) a1 r s1 c1 v1 k h5 h3 (by omega) h2 e2 (by simp only [List.length_append, List.length_cons, List.length_nil]; omega) (by omega)]
      rw [List.append_assoc]
      rfl
/-- All passages of a way. -/
theorem Gd.gather {s s' : List Bool} {c c' : Nat} {v : List Nat} (h : Wk (fun c => cx (o c)) s c v s' c') (m : Nat) (hm : 10000 < m) (hc : c < n) (hv : v.length ≤ 40) (sg : List Int) (hl : (pss n x o cx co v).length ≤ 5000) :
    ∃ y, F.gridlink_Diagram_c1 m [] s (c : Int) (li n x) (li n o) (tabC n x o cx co) (tabR n x o cx co) (li n cx) = some y ∧
      loopN m (F.gridlink_Diagram_b1 m (li n x) (li n o) (sg, tabC n x o cx co, tabR n x o cx co) (li n cx)) ([], y.2.2.1, y.2.2.2.1, y.2.2.2.2.2, y.2.2.2.2.1, y.1, y.2.1) = some (pss n x o cx co v, false, s', (c' : Int), [], 0, 0) := by
  rcases g.next h m (by omega) hc (by omega) [] (by simp) with ⟨h1, h2⟩ | ⟨q, a1, s1, c1, v1, h2, h3, h4, h5, h6, h7⟩
  · refine ⟨_, h2, ?_⟩
    rw [List.nil_append] at h1
    rw [h1]
    obtain ⟨k, rfl⟩ : ∃ j, m = j + 1 := ⟨m - 1, by omega⟩
    have he : F.gridlink_Diagram_b1 (k + 1) (li n x) (li n o) (sg, tabC n x o cx co, tabR n x o cx co) (li n cx) ([], false, s', (c' : Int), [], 0, 0) = some (.inr ([], false, s', (c' : Int), [], 0, 0)) := by
      unfold F.gridlink_Diagram_b1
      dsimp only
      rw [cond_false]
    simp only [loopN, he, Option.bind_some]
  · refine ⟨_, h4, ?_⟩
    rw [List.nil_append] at h6
    rw [h6, List.length_cons] at hl
    have := g.collect m (by omega) sg (a1 ++ pss n x o cx co v1) [] a1 q s1 c1 v1 m h5 h3 (by omega) h2 rfl (by rw [List.length_nil]; omega) (by omega)
    rw [h6]
    exact this
end
end Gl
end Go.Proofs.Yticemffhlapnnaa
