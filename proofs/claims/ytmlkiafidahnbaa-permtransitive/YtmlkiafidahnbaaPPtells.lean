/- The plain laws of PermTells and PermGroup: what they share. -/
import Derived.Test.YtmlkiafidahnbaaPPsgn
import Derived.Test.YtmlkiafidahnbaaPPtype
import Derived.Test.YtmlkiafidahnbaaPPawake
set_option linter.unusedVariables false
set_option linter.unusedSimpArgs false
namespace Go.Proofs.Ytmlkiafidahnbaa
open Ev
namespace Gar
theorem equalQ {a b : List Int} (n : Nat) (hn : a.length < n) (hl : a.length ≤ 100000000) : F.slices_Equal_Perm_int n a b = some (decide (a = b)) := refInts (a := a) (b := b) n hn hl
theorem equalZ {a b : List Int} (n : Nat) (hn : a.length < n) (hl : a.length ≤ 100000000) : F.slices_Equal_Lint_int n a b = some (decide (a = b)) := refInts (a := a) (b := b) n hn hl
theorem perm_cases {p : List Int} (n : Nat) (hl : p.length ≤ 1000) (hn : 1000 < n) : (F.perm_Valid n p = some true ∧ ∃ f g, Pm p.length f g ∧ p = li p.length f) ∨ (F.perm_Valid n p = some false ∧ ¬ IsP p) := by
  obtain ⟨r, r1, r2⟩ := permValid (p := p) n (by omega) (by omega)
  cases r with
  | true => exact .inl ⟨r1, r2.1 rfl⟩
  | false => exact .inr ⟨r1, fun h => by have := r2.2 h; cases this⟩
theorem ref_valid {p : List Int} (n : Nat) (hl : p.length ≤ 1000) (hn : 1000 < n) {b : Bool} (h : F.perm_Valid n p = some b) : F.ref30_Valid n p = some b := by
  obtain ⟨r, r1, r2⟩ := permValid (p := p) n (by omega) (by omega)
  obtain ⟨r', r3, r4⟩ := refPerm (p := p) n hl (by omega)
  rw [h] at r1
  obtain rfl := Option.some.inj r1
  rw [r3]
  congr 1
  rw [Bool.eq_iff_iff, r4, r2]
theorem mul_bad {p q : List Int} (n : Nat) (hp : p.length ≤ 1000) (hq : q.length ≤ 1000) (hn : 1000 < n) (h : ¬ (F.perm_Valid n p = some true ∧ F.perm_Valid n q = some true ∧ p.length = q.length)) : F.perm_Mul n p q = some ([], 1) := by
  unfold F.perm_Mul
  rcases perm_cases n hp hn with ⟨h1, _⟩ | ⟨h1, _⟩
  · rw [h1, Option.bind_some, Bool.not_true, cond_false]
    rcases perm_cases n hq hn with ⟨h2, _⟩ | ⟨h2, _⟩
    · rw [h2, Option.bind_some, Bool.not_true, cond_false, decide_eq_false (fun e => h ⟨h1, h2, by omega⟩)]; rfl
    · rw [h2]; rfl
  · rw [h1]; rfl
section
variable {N : Nat} {f g : Nat → Nat}
theorem li_take (k : Nat) (hk : k < N) : (li N f).take (k + 1) = (li N f).take k ++ [((f k : Nat) : Int)] := by
  rw [List.take_add_one, li_at hk]; rfl
theorem refMul_eq {f' g' : Nat → Nat} (h : Pm N f g) (h' : Pm N f' g') (n : Nat) (hl : N ≤ 1000) (hn : N < n) : F.ref30_Mul n (li N f) (li N f') = some (li N (fun k => f' (f k))) := by
  unfold F.ref30_Mul
  have := count_loop (body := F.ref30_Mul_b0 n (li N f) (li N f')) (fun k => ((li N (fun k => f' (f k))).take k, (k : Int))) N (r := (li N (fun k => f' (f k)), (N : Int))) (fun k hk => by
    have := h.lt hk
    unfold F.ref30_Mul_b0
    dsimp only
    rw [li_len, decide_eq_true (by omega), cond_true, get_li (by omega) (by omega), Option.bind_some, Int.toNat_natCast, get_li (by omega) (by omega), Option.bind_some, lim_ok (by simp; omega), Option.bind_some, chk_ok (by omega) (by omega), Option.bind_some, li_take k hk, Int.toNat_natCast]
    rfl) (by
    unfold F.ref30_Mul_b0
    dsimp only
    rw [li_len, decide_eq_false (by omega), cond_false, List.take_of_length_le (by simp)]) n hn
  have e : (([] : List Int), (0 : Int)) = ((li N (fun k => f' (f k))).take 0, ((0 : Nat) : Int)) := rfl
  rw [e, this, Option.bind_some]
end
theorem bad_all {p : List Int} (n : Nat) (h : F.perm_Valid n p = some false) (hn : 1000 < n) : F.perm_Inverse n p = some [] ∧ F.perm_Cycles n p = some [] ∧ F.perm_Type n p = some [] ∧ F.perm_Sign n p = some 0 := by
  have hc : F.perm_Cycles n p = some [] := by unfold F.perm_Cycles; rw [h]; rfl
  refine ⟨by unfold F.perm_Inverse; rw [h]; rfl, hc, ?_, by unfold F.perm_Sign; rw [h]; rfl⟩
  unfold F.perm_Type
  obtain ⟨cs', h1, h2, _⟩ := sort_eq n (cs := []) (by simp) (by simp)
  obtain rfl := h2.eq_nil
  rw [hc, Option.bind_some, h1, Option.bind_some, type_b0 [] [] n rfl (by simp) hn, Option.bind_some]
  rfl
end Gar
end Go.Proofs.Ytmlkiafidahnbaa
