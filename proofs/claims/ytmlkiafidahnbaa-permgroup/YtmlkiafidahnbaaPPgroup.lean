/- The plain law of PermGroup. -/
import Derived.Test.YtmlkiafidahnbaaPPtells
set_option linter.unusedVariables false
set_option linter.unusedSimpArgs false
namespace Go.Proofs.Ytmlkiafidahnbaa
open Ev
namespace Gar
theorem one_loop (N : Nat) (hN : N ≤ 1000) : loopN 200000000 (F.law30_PermGroup_b0 200000000 (li N (fun k => k), 0)) 0 = some (.inl (N : Int)) := by
  exact count_loop (body := F.law30_PermGroup_b0 200000000 (li N (fun k => k), 0)) (fun k => (k : Int)) N (fun k hk => by
    unfold F.law30_PermGroup_b0
    dsimp only
    rw [li_len, decide_eq_true (by omega), cond_true, get_li (by omega) (by omega), Option.bind_some, Int.toNat_natCast, decide_eq_true rfl, Bool.not_true, cond_false, chk_ok (by omega) (by omega)]; rfl) (by
    unfold F.law30_PermGroup_b0
    dsimp only
    rw [li_len, decide_eq_false (by omega)]; rfl) 200000000 (by omega)
end Gar
open Gar in
theorem law30_PermGroup_true (x0 x1 x2 : List Int) (o0 : Ev.Sh.ok (.sl (.int .i64)) x0) (o1 : Ev.Sh.ok (.sl (.int .i64)) x1) (o2 : Ev.Sh.ok (.sl (.int .i64)) x2) : ∃ n, F.law30_PermGroup n x0 x1 x2 = some true := by
  refine ⟨200000000, ?_⟩
  unfold F.law30_PermGroup
  rw [awake30, Option.bind_some, Bool.not_true, cond_false]
  by_cases h1 : 30 < (x0.length : Int)
  · rw [decide_eq_true h1]; rfl
  rw [decide_eq_false h1, cond_false]
  by_cases h2 : (x1.length : Int) = (x0.length : Int)
  case neg => rw [decide_eq_false h2]; rfl
  rw [decide_eq_true h2, Bool.not_true, cond_false]
  by_cases h3 : (x2.length : Int) = (x0.length : Int)
  case neg => rw [decide_eq_false h3]; rfl
  rw [decide_eq_true h3, Bool.not_true, cond_false]
  rcases perm_cases (p := x0) 200000000 (by omega) (by decide) with ⟨hv, f, g, hp, he⟩ | ⟨hv, _⟩
  case inr => rw [hv]; rfl
  rw [hv, Option.bind_some, Bool.not_true, cond_false]
  rcases perm_cases (p := x1) 200000000 (by omega) (by decide) with ⟨hw, f', g', hp', he'⟩ | ⟨hw, _⟩
  case inr => rw [hw]; rfl
  rw [hw, Option.bind_some, Bool.not_true, cond_false]
  rcases perm_cases (p := x2) 200000000 (by omega) (by decide) with ⟨hu, f2, g2, hp2, he2⟩ | ⟨hu, _⟩
  case inr => rw [hu]; rfl
  rw [hu, Option.bind_some, Bool.not_true, cond_false]
  have e1 : x1.length = x0.length := by omega
  have e2 : x2.length = x0.length := by omega
  rw [e1] at hp' he'
  rw [e2] at hp2 he2
  generalize hN : x0.length = N at hp he hp' he' hp2 he2 h1
  have m1 : F.perm_Mul 200000000 x0 x1 = some (li N (fun k => f' (f k)), 0) := by rw [he, he']; exact mul_eq hp hp' _ (by omega) (by omega)
  have m2 : F.perm_Mul 200000000 x1 x2 = some (li N (fun k => f2 (f' k)), 0) := by rw [he', he2]; exact mul_eq hp' hp2 _ (by omega) (by omega)
  have m3 : F.perm_Mul 200000000 (li N (fun k => f' (f k))) x2 = some (li N (fun k => f2 (f' (f k))), 0) := by rw [he2]; exact mul_eq (hp'.comp hp) hp2 _ (by omega) (by omega)
  have m4 : F.perm_Mul 200000000 x0 (li N (fun k => f2 (f' k))) = some (li N (fun k => f2 (f' (f k))), 0) := by rw [he]; exact mul_eq hp (hp2.comp hp') _ (by omega) (by omega)
  have hi : F.perm_Inverse 200000000 x0 = some (li N g) := by rw [he]; exact permInverse hp _ (by omega) (by omega)
  have m5 : F.perm_Mul 200000000 x0 (li N g) = some (li N (fun k => k), 0) := by
    rw [he, mul_eq hp hp.symm _ (by omega) (by omega)]
    congr 2
    exact li_ext fun k _ => hp.gf k
  have s1 : F.perm_Sign 200000000 (li N (fun k => f' (f k))) = some (sg (iv N (fun k => f' (f k)))) := sign_eq (hp'.comp hp) (by omega) _ (by decide)
  have s2 : F.perm_Sign 200000000 x0 = some (sg (iv N f)) := by rw [he]; exact sign_eq hp (by omega) _ (by decide)
  have s3 : F.perm_Sign 200000000 x1 = some (sg (iv N f')) := by rw [he']; exact sign_eq hp' (by omega) _ (by decide)
  have hs : sg (iv N (fun k => f' (f k))) = sg (iv N f) * sg (iv N f') := by
    rw [← sg_add]
    refine sg_of ?_
    rw [iv_comp hp' hp, Nat.add_comm]
  have hr := sg_rng (iv N (fun k => f' (f k)))
  rw [m1, Option.bind_some, m2, Option.bind_some]
  dsimp only
  rw [m3, Option.bind_some, m4, Option.bind_some, hi, Option.bind_some, m5, Option.bind_some, one_loop N (by omega), Option.bind_some]
  dsimp only
  rw [decide_eq_true (rfl : (0 : Int) = 0), cond_true, cond_true, cond_true, cond_true, cond_true, li_len, decide_eq_true rfl, cond_true, equalQ _ (by simp; omega) (by simp; omega), decide_eq_true rfl, Option.bind_some, cond_true, s1, Option.bind_some, s2, Option.bind_some, s3, Option.bind_some, ← hs, chk_ok (by omega) (by omega), Option.bind_some, decide_eq_true rfl]
end Go.Proofs.Ytmlkiafidahnbaa
