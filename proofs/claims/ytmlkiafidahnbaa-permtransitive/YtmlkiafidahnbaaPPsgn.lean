/- The sign as the program and the reference find it. -/
import Derived.Test.YtmlkiafidahnbaaPPsign
set_option linter.unusedVariables false
set_option linter.unusedSimpArgs false
namespace Go.Proofs.Ytmlkiafidahnbaa
open Ev
namespace Gar
def sg (m : Nat) : Int := if m % 2 = 0 then 1 else -1
theorem sg_of {a b : Nat} (h : a % 2 = b % 2) : sg a = sg b := by unfold sg; rw [h]
theorem sg_succ (m : Nat) : sg (m + 1) = -sg m := by
  unfold sg
  by_cases h : m % 2 = 0
  · rw [if_pos h, if_neg (by omega)]
  · rw [if_neg h, if_pos (by omega)]; rfl
theorem sg_rng (m : Nat) : -1 ≤ sg m ∧ sg m ≤ 1 := by unfold sg; split <;> omega
theorem sg_add (a b : Nat) : sg (a + b) = sg a * sg b := by
  induction b with
  | zero => rw [Nat.add_zero]; unfold sg; simp
  | succ b ih => rw [← Nat.add_assoc, sg_succ, sg_succ, ih, Int.mul_neg]
section
variable {N : Nat} {f g : Nat → Nat}
theorem sign_loop (cs : List (List Int)) (n : Nat) (hc : cs.length ≤ 1000) (hl : ∀ c ∈ cs, c.length ≤ 1000) (hn : 1000 < n) : loopN n (F.perm_Sign_b0 n cs) (1, 0) = some (sg (cs.map fun c => c.length + 1).sum, (cs.length : Int)) := by
  have := count_loop (body := F.perm_Sign_b0 n cs) (fun k => (sg ((cs.take k).map fun c => c.length + 1).sum, (k : Int))) cs.length (r := (sg (cs.map fun c => c.length + 1).sum, (cs.length : Int))) (fun k hk => by
    have ka : cs[k]? = some (cs[k]'hk) := List.getElem?_eq_getElem _
    have hr := sg_rng ((cs.take k).map fun c => c.length + 1).sum
    have ht : ((cs.take (k + 1)).map fun c => c.length + 1).sum = ((cs.take k).map fun c => c.length + 1).sum + ((cs[k]'hk).length + 1) := by
      rw [List.take_add_one, ka, List.map_append, List.sum_append]; simp
    unfold F.perm_Sign_b0
    dsimp only
    rw [decide_eq_true (by omega), cond_true, get_at rfl ka, Option.bind_some, nz_ok (by decide), Option.bind_some, ht]
    have hm : Int.tmod ((cs[k]'hk).length : Int) 2 = (((cs[k]'hk).length % 2 : Nat) : Int) := by
      rw [Int.tmod_eq_emod_of_nonneg (by omega)]; omega
    rw [hm]
    by_cases e : (cs[k]'hk).length % 2 = 0
    · rw [decide_eq_true (by omega), cond_true, chk_ok (by omega) (by omega), Option.bind_some, chk_ok (by omega) (by omega), Option.bind_some]
      rw [show sg (((cs.take k).map fun c => c.length + 1).sum + ((cs[k]'hk).length + 1)) = -sg ((cs.take k).map fun c => c.length + 1).sum by rw [← Nat.add_assoc, sg_succ, sg_of (show (((cs.take k).map fun c => c.length + 1).sum + (cs[k]'hk).length) % 2 = ((cs.take k).map fun c => c.length + 1).sum % 2 by omega)]]
      rfl
    · rw [decide_eq_false (by omega), cond_false, chk_ok (by omega) (by omega), Option.bind_some]
      rw [sg_of (show (((cs.take k).map fun c => c.length + 1).sum + ((cs[k]'hk).length + 1)) % 2 = ((cs.take k).map fun c => c.length + 1).sum % 2 by omega)]
      rfl) (by
    unfold F.perm_Sign_b0
    dsimp only
    rw [decide_eq_false (by omega), cond_false, List.take_length]) n (by omega)
  exact this
theorem sign_eq (h : Pm N f g) (hN : N ≤ 1000) (n : Nat) (hn : 1000 < n) : F.perm_Sign n (li N f) = some (sg (iv N f)) := by
  unfold F.perm_Sign
  obtain ⟨h1, h2, h3⟩ := cyc_dec h N (Nat.le_refl N)
  rw [permValid_li h n (by omega) hN, Option.bind_some, Bool.not_true, cond_false, cycles_eq h hN n (by omega), Option.bind_some, sign_loop _ n (by omega) (fun c hc => ?_) hn, Option.bind_some, sg_of (iv_dec h h1 h2)]
  obtain ⟨s, L, k1, k2, k3, rfl⟩ := h1.good c hc
  have hnd : (orb f s L).Nodup := (List.sublist_flatten_of_mem hc).nodup h1.nd
  have hlen := (sub_nodup (l1 := orb f s L) (l2 := (List.range N).map fun k : Nat => (k : Int)) hnd (fun x hx => by
    obtain ⟨k, hk, rfl⟩ := mem_orb.1 hx
    exact List.mem_map.2 ⟨_, List.mem_range.2 (it_lt h k1 k), rfl⟩))
  rw [orb_len] at hlen ⊢
  rcases Nat.lt_or_ge 1000 L with hgt | hle
  · have := sub_nodup (l1 := (orb f s L)) (l2 := ((List.range N).map fun k : Nat => (k : Int)) ++ [((it f 0 s : Nat) : Int)]) hnd (fun x hx => by
      obtain ⟨k, hk, rfl⟩ := mem_orb.1 hx
      exact List.mem_append_left _ (List.mem_map.2 ⟨_, List.mem_range.2 (it_lt h k1 k), rfl⟩)) (by simp [orb_len]; omega)
    have h9 := this.1
    rw [List.nodup_append] at h9
    exact absurd rfl (h9.2.2 _ (List.mem_map.2 ⟨_, List.mem_range.2 k1, rfl⟩) _ (by simp [it]))
  · exact hle
theorem refSign_b1 (n : Nat) (k : Nat) (hk : k < N) (hN : N ≤ 1000) (s : Int) (hs : s = 1 ∨ s = -1) (hn : 1000 < n) : loopN n (F.ref30_Sign_b1 n (li N f) (k : Int)) (s, ((k + 1 : Nat) : Int)) = some (s * sg (((lst N f).drop (k + 1)).countP fun x => decide (x < f k)), (N : Int)) := by
  have hlen : (lst N f).length = N := by simp [lst]
  have := count_loop (body := F.ref30_Sign_b1 n (li N f) (k : Int)) (fun t => (s * sg ((((lst N f).drop (k + 1)).take t).countP fun x => decide (x < f k)), ((k + 1 + t : Nat) : Int))) (N - (k + 1)) (r := (s * sg (((lst N f).drop (k + 1)).countP fun x => decide (x < f k)), (N : Int))) (fun t ht => by
    have hr := sg_rng ((((lst N f).drop (k + 1)).take t).countP fun x => decide (x < f k))
    have hat : ((lst N f).drop (k + 1))[t]? = some (f (k + 1 + t)) := by
      rw [List.getElem?_drop]
      unfold lst
      rw [List.getElem?_map, List.getElem?_range (by omega)]; rfl
    unfold F.ref30_Sign_b1
    dsimp only
    rw [li_len, decide_eq_true (by omega), cond_true, get_li (by omega) (by omega), Option.bind_some, get_li (by omega) (by omega), Option.bind_some, Int.toNat_natCast, Int.toNat_natCast]
    rw [List.take_add_one, hat, List.countP_append]
    have hss : -1 ≤ s * sg ((((lst N f).drop (k + 1)).take t).countP fun x => decide (x < f k)) ∧ s * sg ((((lst N f).drop (k + 1)).take t).countP fun x => decide (x < f k)) ≤ 1 := by
      rcases hs with rfl | rfl <;> omega
    by_cases e : f (k + 1 + t) < f k
    · rw [decide_eq_true (by omega), cond_true, chk_ok (by omega) (by omega), Option.bind_some, chk_ok (by omega) (by omega), Option.bind_some]
      rw [show List.countP (fun x => decide (x < f k)) (some (f (k + 1 + t))).toList = 1 by simp [e], sg_succ, Int.mul_neg]
      simp only [Int.zero_sub]
      rfl
    · rw [decide_eq_false (by omega), cond_false, chk_ok (by omega) (by omega), Option.bind_some]
      rw [show List.countP (fun x => decide (x < f k)) (some (f (k + 1 + t))).toList = 0 by simp [e]]
      rfl) (by
    unfold F.ref30_Sign_b1
    dsimp only
    rw [li_len, decide_eq_false (by omega), cond_false, List.take_of_length_le (by rw [List.length_drop, hlen]; omega), show k + 1 + (N - (k + 1)) = N by omega]) n (by omega)
  have e : (s, ((k + 1 : Nat) : Int)) = (s * sg ((((lst N f).drop (k + 1)).take 0).countP fun x => decide (x < f k)), ((k + 1 + 0 : Nat) : Int)) := by
    simp [sg]
  rw [e, this]
theorem refSign_eq (hN : N ≤ 1000) (n : Nat) (hn : 1000 < n) : F.ref30_Sign n (li N f) = some (sg (iv N f)) := by
  unfold F.ref30_Sign
  have hlen : (lst N f).length = N := by simp [lst]
  have := count_loop (body := F.ref30_Sign_b0 n (li N f)) (fun k => (sg (inv (lst N f) + inv ((lst N f).drop k)), (k : Int))) N (r := (sg (iv N f), (N : Int))) (fun k hk => by
    have hd : (lst N f).drop k = f k :: (lst N f).drop (k + 1) := by
      rw [← List.getElem_cons_drop (show k < (lst N f).length by omega)]
      congr 1
      simp [lst]
    unfold F.ref30_Sign_b0
    dsimp only
    rw [li_len, decide_eq_true (by omega), cond_true, chk_ok (by omega) (by omega), Option.bind_some]
    have hsg : sg (inv (lst N f) + inv ((lst N f).drop k)) = 1 ∨ sg (inv (lst N f) + inv ((lst N f).drop k)) = -1 := by unfold sg; split <;> simp
    rw [show ((k : Int) + 1) = ((k + 1 : Nat) : Int) by omega, refSign_b1 n k hk hN _ hsg hn, Option.bind_some]
    dsimp only
    rw [← sg_add, hd]
    simp only [inv]
    rw [sg_of (show (inv (lst N f) + (((lst N f).drop (k + 1)).countP (fun x => decide (x < f k)) + inv ((lst N f).drop (k + 1))) + ((lst N f).drop (k + 1)).countP (fun x => decide (x < f k))) % 2 = (inv (lst N f) + inv ((lst N f).drop (k + 1))) % 2 by omega)]
    rfl) (by
    unfold F.ref30_Sign_b0
    dsimp only
    rw [li_len, decide_eq_false (by omega), cond_false, List.drop_of_length_le (by omega)]
    rfl) n (by omega)
  have e : ((1 : Int), (0 : Int)) = (sg (inv (lst N f) + inv ((lst N f).drop 0)), ((0 : Nat) : Int)) := by
    rw [List.drop_zero]
    unfold sg
    rw [if_pos (by omega)]; rfl
  rw [e, this, Option.bind_some]
end
end Gar
end Go.Proofs.Ytmlkiafidahnbaa
