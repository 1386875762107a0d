/- Trivial braids: the program of layer 35 and normal forms. -/
import Derived.Test.YtlkmcbgkohpmiaaPAimg
import Derived.Test.YtlkmcbgkohpmiaaPGsame
set_option linter.unusedVariables false
set_option linter.unusedSimpArgs false
namespace Go.Proofs.Ytlkmcbgkohpmiaa
open Ev
namespace Gar
theorem braidValid' {s : Int} {w : List Int} (n : Nat) (hn : 300 ≤ n) : F.braid_Valid n s w = some (okB s w) := by
  by_cases h : w.length < n
  · exact braidValid n h
  · unfold F.braid_Valid
    have hf : okB s w = false := by
      cases hb : okB s w with
      | false => rfl
      | true => have := (okB_iff.1 hb).2.2.1; omega
    rw [hf]
    by_cases h1 : s < 1
    · rw [decide_eq_true h1]; rfl
    rw [decide_eq_false h1, cond_false]
    by_cases h2 : 10 < s
    · rw [decide_eq_true h2]; rfl
    rw [decide_eq_false h2, cond_false, decide_eq_true (by omega)]
    rfl
theorem form_bad' {s : Int} {w : List Int} (hv : okB s w = false) (n : Nat) (hn : 300 ≤ n) : F.garside_Form n s w = some (0, 0, [], 1) := by
  unfold F.garside_Form
  rw [braidValid' n hn, Option.bind_some, hv]; rfl
theorem be_of_form {s : Int} {w w' : List Int} (hv : okB s w = true) (hv' : okB s w' = true) (n : Nat) (hn : 300000000 ≤ n) (h : F.garside_Form n s w = F.garside_Form n s w') : BE s.toNat w w' := by
  obtain ⟨p, qs, h1, h2⟩ := form_eq hv n hn
  obtain ⟨p', qs', h3, h4⟩ := form_eq hv' n hn
  rw [h1, h3] at h
  injection h with h
  obtain ⟨_, h⟩ := Prod.mk.inj h
  obtain ⟨e1, h⟩ := Prod.mk.inj h
  obtain ⟨e2, _⟩ := Prod.mk.inj h
  have e3 : fsts qs = fsts qs' := by
    have hq : qs.length = qs'.length := by have := congrArg List.length e2; rwa [ls_len, ls_len] at this
    apply List.ext_getElem?
    intro k
    unfold fsts
    rw [List.getElem?_map, List.getElem?_map]
    by_cases hk : k < qs.length
    · have k1 : qs[k]? = some (qs[k]'hk) := List.getElem?_eq_getElem _
      have k2 : qs'[k]? = some (qs'[k]'(by omega)) := List.getElem?_eq_getElem _
      have m1 := h2.pms _ (List.getElem_mem hk)
      have m2 := h4.pms _ (List.getElem_mem (show k < qs'.length by omega))
      have a1 := ls_at (N := s.toNat) k1
      have a2 := ls_at (N := s.toNat) k2
      rw [e2, a2] at a1
      injection a1 with a1
      rw [k1, k2]
      show some _ = some _
      dsimp only
      rw [li_eq m1.fix m2.fix a1.symm]
    · rw [List.getElem?_eq_none (by omega), List.getElem?_eq_none (by omega)]
  obtain ⟨H, hH⟩ := (dl_pm (N := s.toNat)).word
  obtain ⟨v, v1, v2⟩ := h2.ns H hH
  obtain ⟨v', v3, v4⟩ := h4.ns H hH
  rw [← e3] at v3
  rw [← e1] at v4
  exact v2.trans (((Wl.uniq (v := []) v1 v3).be.left (pw H p)).trans v4.symm)
theorem same_bad {s s' : Int} {w w' : List Int} (n : Nat) (hn : 300000000 ≤ n) (h : okB s w = false ∨ okB s' w' = false ∨ s ≠ s') : F.garside_Same n s w s' w' = some false := by
  unfold F.garside_Same
  cases h0 : okB s w with
  | false => rw [form_bad' h0 n (by omega)]; rfl
  | true =>
    obtain ⟨p, qs, h1, h2⟩ := form_eq h0 n hn
    rw [h1, Option.bind_some]
    dsimp only
    rw [decide_eq_true rfl, Bool.not_true, cond_false]
    cases h3 : okB s' w' with
    | false => rw [form_bad' h3 n (by omega)]; rfl
    | true =>
      obtain ⟨p', qs', h4, h5⟩ := form_eq h3 n hn
      rw [h4, Option.bind_some]
      dsimp only
      have hne : s ≠ s' := by
        rcases h with h | h | h
        · rw [h0] at h; cases h
        · rw [h3] at h; cases h
        · exact h
      rw [decide_eq_true rfl, Bool.not_true, cond_false, decide_eq_false hne]
      rfl
theorem braidInverse {s : Int} {w : List Int} (hv : okB s w = true) (n : Nat) (hn : 300 ≤ n) : F.braid_Inverse n s w = some (s, neg w) := by
  obtain ⟨a1, a2, a3, a4⟩ := okB_iff.1 hv
  have hnl : (neg w).length = w.length := by simp [neg]
  unfold F.braid_Inverse
  have := count_loop (body := F.braid_Inverse_b0 n w) (fun k => (k, (neg w).take k)) w.length (r := neg w) (fun k hk => by
    have hx : w.reverse[k]? = some (w.reverse[k]'(by simpa using hk)) := List.getElem?_eq_getElem _
    have hm : w.reverse[k]'(by simpa using hk) ∈ w := List.mem_reverse.1 (List.getElem_mem _)
    have hx2 : (neg w)[k]? = some (-(w.reverse[k]'(by simpa using hk))) := by
      unfold neg
      rw [← List.map_reverse, List.getElem?_map, hx]; rfl
    generalize w.reverse[k]'(by simpa using hk) = x at hx hx2 hm
    have := a4 x hm
    unfold F.braid_Inverse_b0
    dsimp only
    rw [decide_eq_true hk, cond_true, hx, Option.bind_some, chk_ok (by omega) (by omega), Option.bind_some, lim_ok (by simp; omega), Option.bind_some, List.take_add_one, hx2]
    rfl) (by
    unfold F.braid_Inverse_b0
    dsimp only
    rw [decide_eq_false (Nat.lt_irrefl _), cond_false, List.take_of_length_le (by omega)]) n (by omega)
  have e : loopN n (F.braid_Inverse_b0 n w) (0, ([] : List Int)) = some (neg w) := this
  rw [braidValid n (by omega), Option.bind_some, hv, Bool.not_true, cond_false, pos_ok (by omega) (by omega), Option.bind_some, e]
  rfl
theorem braidMul {s : Int} {w w' : List Int} (hv : okB s w = true) (hv' : okB s w' = true) (hl : w.length + w'.length ≤ 200) (n : Nat) (hn : 10000 ≤ n) : F.braid_Mul n s w s w' = some (s, w ++ w', 0) := by
  unfold F.braid_Mul
  have hf : ([w, w'] : List (List Int)).flatten = w ++ w' := by simp
  rw [braidValid' n (by omega), hv, Option.bind_some, Bool.not_true, cond_false, braidValid' n (by omega), hv', Option.bind_some, Bool.not_true, cond_false, decide_eq_true rfl, Bool.not_true, cond_false, chk_ok (by omega) (by omega), Option.bind_some, decide_eq_false (by omega), cond_false, concat_all _ n (by rw [hf, List.length_append]; omega) (by simp) (by omega), hf]
  rfl
/-- Equal words: the program compares. -/
theorem equalW {a b : List Int} (n : Nat) (hn : a.length < n) (hl : a.length ≤ 100000000) : F.slices_Equal_Word_int n a b = some (decide (a = b)) := by
  unfold F.slices_Equal_Word_int
  by_cases h : a.length = b.length
  · rw [decide_eq_true (by omega), Bool.not_true, cond_false]
    refine eqList n h hn (fun k x y hx hy => ?_) ?_
    · have hk := (List.getElem?_eq_some_iff.1 hx).1
      unfold F.slices_Equal_Word_int_b0
      dsimp only
      rw [decide_eq_true (by omega), cond_true, get_at rfl hx, Option.bind_some, get_at rfl hy, Option.bind_some]
      by_cases e : x = y
      · left; rw [decide_eq_true e, Bool.not_true, cond_false, chk_ok (by omega) (by omega)]; exact ⟨e, rfl⟩
      · right; rw [decide_eq_false e]; exact ⟨e, rfl⟩
    · unfold F.slices_Equal_Word_int_b0
      dsimp only
      rw [decide_eq_false (by omega)]; rfl
  · rw [decide_eq_false (by omega)]
    rw [decide_eq_false (fun e => h (by rw [e]))]; rfl
def trivA (s : Nat) (w : List Int) : Bool := !fullA s w && (List.range s).all fun k => decide (fact w [((k + 1 : Nat) : Int)] = [((k + 1 : Nat) : Int)])
theorem fullA_false {s : Nat} {w : List Int} (h : fullA s w = false) {k : Nat} (hk : k < s) : afull w [((k + 1 : Nat) : Int)] = false := by
  unfold fullA at h
  rw [List.any_eq_false] at h
  have := h k (List.mem_range.2 hk)
  rwa [Bool.not_eq_true] at this
theorem range_all_drop {s : Nat} {p : Nat → Bool} {k : Nat} (hk : k < s) : (((List.range s).drop k).all p) = (p k && ((List.range s).drop (k + 1)).all p) := by
  have h1 : k < (List.range s).length := by simpa using hk
  rw [(List.getElem_cons_drop h1).symm, List.all_cons, List.getElem_range]
theorem artinTrivial {s : Nat} {w : List Int} (hv : okB (s : Int) w = true) (n : Nat) (hn : 1000000 ≤ n) : F.artin_Trivial n (s : Int) w = some (trivA s w) := by
  obtain ⟨a1, a2, a3, a4⟩ := okB_iff.1 hv
  unfold F.artin_Trivial
  rw [artinImages hv n hn, Option.bind_some]
  unfold trivA
  cases hf : fullA s w with
  | true => rfl
  | false =>
    rw [if_neg (by decide)]
    dsimp only
    rw [decide_eq_true rfl, Bool.not_true, cond_false, Bool.not_false, Bool.true_and]
    obtain ⟨r, hr, hq⟩ := loop_spec (body := F.artin_Trivial_b0 n (rowsA s w, 0)) (fun v => ∃ k : Nat, v = (k : Int) ∧ k ≤ s ∧ ((List.range s).all fun k => decide (fact w [((k + 1 : Nat) : Int)] = [((k + 1 : Nat) : Int)])) = (((List.range s).drop k).all fun k => decide (fact w [((k + 1 : Nat) : Int)] = [((k + 1 : Nat) : Int)]))) (fun v => s - v.toNat)
      (fun r => match r with | .inl _ => ((List.range s).all fun k => decide (fact w [((k + 1 : Nat) : Int)] = [((k + 1 : Nat) : Int)])) = true | .inr b => b = ((List.range s).all fun k => decide (fact w [((k + 1 : Nat) : Int)] = [((k + 1 : Nat) : Int)]))) (fun v ⟨k, hv2, hk, hI⟩ => by
        subst hv2
        have hL := rowsA_len s w
        unfold F.artin_Trivial_b0
        dsimp only
        by_cases hlt : k < s
        · have hlen := fact_len _ _ (fullA_false hf hlt)
          rw [hL, decide_eq_true (by omega), cond_true, get_at rfl (rowsA_at hlt), Option.bind_some, chk_ok (by omega) (by omega), Option.bind_some, equalW n (by omega) (by omega), Option.bind_some, Option.bind_some]
          rw [range_all_drop hlt] at hI
          by_cases e : fact w [((k + 1 : Nat) : Int)] = [((k + 1 : Nat) : Int)]
          · rw [decide_eq_true e, Bool.true_and] at hI
            left
            exact ⟨_, by rw [show (k : Int) + 1 = ((k + 1 : Nat) : Int) by omega, decide_eq_true e]; rfl, ⟨k + 1, rfl, by omega, hI⟩, by omega⟩
          · rw [decide_eq_false e, Bool.false_and] at hI
            right
            exact ⟨_, by rw [show (k : Int) + 1 = ((k + 1 : Nat) : Int) by omega, decide_eq_false e]; rfl, by rw [hI]⟩
        · obtain rfl : k = s := by omega
          rw [hL, decide_eq_false (by omega), cond_false]
          right
          refine ⟨_, rfl, ?_⟩
          dsimp only
          rw [hI, List.drop_of_length_le (by simp)]; rfl) n 0 ⟨0, rfl, Nat.zero_le _, by simp⟩ (by simp; omega)
    rw [hr, Option.bind_some]
    cases r with
    | inl v => simp only at hq ⊢; rw [hq]
    | inr c => simp only at hq ⊢; rw [hq]
section
variable {N : Nat}
theorem okB_nil (h : 1 ≤ N ∧ N ≤ 10) : okB (N : Int) [] = true := okB_iff.2 ⟨by omega, by omega, by simp, fun x hx => absurd hx (by simp)⟩
/-- What acts as the empty braid is the empty braid. -/
theorem be_of_acts {u v : List Int} (hu : okB (N : Int) u = true) (hv : okB (N : Int) v = true) (h : ∀ j, 1 ≤ j → j ≤ N → iact u j = iact v j) : BE N u v := by
  have hR := okB_rg hu
  have hR' := okB_rg hv
  rw [Int.toNat_natCast] at hR hR'
  have := be_of_form hu hv 300000000 (by omega) (form_act hu hv 300000000 (by omega) (act_of_iact hR hR' h))
  rwa [Int.toNat_natCast] at this
theorem okB_rev {w : List Int} (h : okB (N : Int) w = true) : okB (N : Int) w.reverse = true := by
  obtain ⟨a1, a2, a3, a4⟩ := okB_iff.1 h
  exact okB_iff.2 ⟨a1, a2, by rw [List.length_reverse]; exact a3, fun x hx => a4 x (List.mem_reverse.1 hx)⟩
theorem trivA_iff (hN : N ≤ 5) {w : List Int} (hv : okB (N : Int) w = true) (hl : w.length ≤ 20) : trivA N w = true ↔ BE N w [] := by
  obtain ⟨a1, a2, a3, a4⟩ := okB_iff.1 hv
  have hw : Rg N w := fun x hx => a4 x hx
  have hnil : Rg N ([] : List Int) := fun x hx => absurd hx (by simp)
  unfold trivA
  rw [Bool.and_eq_true]
  constructor
  · rintro ⟨_, h⟩
    have h1 : ∀ j, 1 ≤ j → j ≤ N → iact w.reverse j = iact [] j := fun j h1 h2 => by
      have := List.all_eq_true.1 h (j - 1) (List.mem_range.2 (by omega))
      have := of_decide_eq_true this
      rw [Nat.sub_add_cancel h1, fact_rev] at this
      exact this
    have := (be_of_acts (okB_rev hv) (okB_nil (by omega)) h1).rev
    rwa [List.reverse_reverse, List.reverse_nil] at this
  · intro h
    constructor
    · have : fullA N w = false := by
        unfold fullA
        rw [Bool.eq_false_iff]
        intro hf
        obtain ⟨k, k1, k2⟩ := List.any_eq_true.1 hf
        have hk := List.mem_range.1 k1
        have := afull_of (j := k + 1) w [] fun u t e => by
          subst e
          rw [List.append_nil]
          have hu : Rg N u := fun x hx => hw x (by simp [hx])
          have ht : Rg N t := fun x hx => hw x (by simp [hx])
          rw [List.length_append] at hl
          by_cases hs : u.length ≤ 10
          · exact iact_small hN hu.rev (by rw [List.length_reverse]; omega) (by omega) (by omega)
          · have b1 : BE N (u ++ t ++ neg t) (neg t) := h.right (neg t)
            have b2 : BE N (u ++ (t ++ neg t)) (u ++ []) := (BE.cancel ht).left u
            rw [List.append_nil, ← List.append_assoc] at b2
            have b3 := (b2.symm.trans b1).rev
            rw [b3.iact hu.rev ht.neg.rev (by omega) (by omega)]
            exact iact_small hN ht.neg.rev (by rw [List.length_reverse, neg_len]; omega) (by omega) (by omega)
        have e : iact [] (k + 1) = [((k + 1 : Nat) : Int)] := rfl
        rw [e] at this
        rw [this] at k2
        cases k2
      rw [this]; rfl
    · refine List.all_eq_true.2 fun k hk => decide_eq_true ?_
      have hk := List.mem_range.1 hk
      rw [fact_rev]
      have := h.rev.iact hw.rev hnil.rev (j := k + 1) (by omega) (by omega)
      exact this
theorem same_iff {w w' : List Int} (hv : okB (N : Int) w = true) (hv' : okB (N : Int) w' = true) (n : Nat) (hn : 300000000 ≤ n) : ∃ r, F.garside_Same n (N : Int) w (N : Int) w' = some r ∧ (r = true ↔ BE N w w') := by
  obtain ⟨r, h1, h2⟩ := garSame hv hv' n hn
  refine ⟨r, h1, h2.trans ⟨fun h => ?_, fun h => ?_⟩⟩
  · have := be_of_form hv hv' n hn h
    rwa [Int.toNat_natCast] at this
  · exact form_be hv hv' n hn (by rw [Int.toNat_natCast]; exact h)
theorem be_mul_neg {w w' : List Int} (hw' : Rg N w') : BE N (w ++ neg w') [] ↔ BE N w w' := by
  constructor
  · intro h
    have b1 : BE N (w ++ neg w' ++ w') w' := h.right w'
    have b2 : BE N (w ++ (neg w' ++ w')) (w ++ []) := (BE.cancel' hw').left w
    rw [List.append_nil, ← List.append_assoc] at b2
    exact b2.symm.trans b1
  · intro h
    exact (h.right (neg w')).trans (BE.cancel hw')
end
theorem iff_beq {a b : Bool} (h : a = true ↔ b = true) : (a == b) = true := by
  cases a <;> cases b <;> simp at h ⊢
end Gar
end Go.Proofs.Ytlkmcbgkohpmiaa
