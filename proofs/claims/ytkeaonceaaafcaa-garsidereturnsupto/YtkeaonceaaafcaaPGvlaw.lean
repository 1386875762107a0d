/- The word of a normal form; the plain law of GarsideValid. -/
import Derived.Test.YtkeaonceaaafcaaPGwrd
import Derived.Test.YtkeaonceaaafcaaPGlaw
import Derived.Test.YtkeaonceaaafcaaPGsim
set_option linter.unusedVariables false
set_option linter.unusedSimpArgs false
namespace Go.Proofs.Ytkeaonceaaafcaa
open Ev
namespace Gar
section
variable {N : Nat}
theorem pwn_left (u : List Int) (m : Nat) : u ++ pwn u m = pwn u m ++ u := by
  induction m with
  | zero => simp [pwn]
  | succ m ih => show u ++ (pwn u m ++ u) = pwn u m ++ u ++ u; rw [← List.append_assoc, ih]
theorem powLoop (t : List Int) (z : Nat) (n : Nat) (hz : z ≤ 1000) (ht : t.length ≤ 1000) (hn : 3000 < n) : loopN n (F.garside_Word_b1 n (z : Int) t) (0, ([] : List Int)) = some ((z : Int), pwn t z) := by
  have := count_loop (body := F.garside_Word_b1 n (z : Int) t) (fun k => ((k : Int), pwn t k)) z (r := ((z : Int), pwn t z)) (fun k hk => by
    have hm := Nat.mul_le_mul (show k ≤ 1000 by omega) ht
    unfold F.garside_Word_b1
    dsimp only
    rw [decide_eq_true (by omega), cond_true, lim_ok (by rw [pwn_len]; omega), Option.bind_some, chk_ok (by omega) (by omega)]
    rfl) (by
    unfold F.garside_Word_b1
    dsimp only
    rw [decide_eq_false (by omega), cond_false]) n (by omega)
  exact this
theorem facLoop {qs : List Pr} (hq : Pms N qs) (hN : 1 ≤ N ∧ N ≤ 10) (hl : qs.length ≤ 1000) (l : List Int) (hll : l.length ≤ 1000000) (n : Nat) (hn : 3000 < n) : ∃ v, loopN n (F.garside_Word_b2 n (ls N qs)) (0, l) = some ((qs.length : Int), l ++ pos v) ∧ Lwl N (fsts qs) v := by
  have hNN : N * N ≤ 10 * 10 := Nat.mul_le_mul hN.2 hN.2
  have hNN1 : (N + 1) * (N * N) ≤ 11 * 100 := Nat.mul_le_mul (by omega) hNN
  obtain ⟨r, r1, r2⟩ := loop_spec (body := F.garside_Word_b2 n (ls N qs)) (fun s => ∃ k v, s = (((k : Nat) : Int), l ++ pos v) ∧ k ≤ qs.length ∧ Lwl N (fsts (qs.take k)) v) (fun s => qs.length - s.1.toNat)
    (fun r => ∃ v, r = ((qs.length : Int), l ++ pos v) ∧ Lwl N (fsts qs) v) (fun s ⟨k, v, e1, e2, e3⟩ => by
      subst e1
      have hv := e3.len
      have hv2 : (fsts (qs.take k)).length * (N * N) ≤ 1000 * (10 * 10) := Nat.mul_le_mul (by simp [fsts]; omega) hNN
      unfold F.garside_Word_b2
      dsimp only
      rw [ls_len]
      by_cases hk : k < qs.length
      · have ka : qs[k]? = some (qs[k]'hk) := List.getElem?_eq_getElem _
        have hpm := hq _ (List.getElem_mem hk)
        have ht : fsts (qs.take (k + 1)) = fsts (qs.take k) ++ [(qs[k]'hk).1] := by
          rw [List.take_add_one, ka]; unfold fsts; rw [List.map_append]; rfl
        generalize qs[k]'hk = q at ka hpm ht
        obtain ⟨w, w1, w2⟩ := garLetters_eq hpm n (by omega) (by omega)
        have hwl : w.length ≤ 100 := by have := w2.wd.len; have := inv_lst_le (N := N) q.1; omega
        left
        rw [decide_eq_true (by omega), cond_true, get_at rfl (ls_at ka), Option.bind_some, w1, Option.bind_some, lim_ok (by rw [List.length_append]; simp only [Gar.pos, List.length_map]; omega), Option.bind_some, chk_ok (by omega) (by omega), Option.bind_some]
        refine ⟨_, rfl, ⟨k + 1, v ++ w, ?_, by omega, ?_⟩, by dsimp only; omega⟩
        · rw [pos_app, List.append_assoc, Int.natCast_add]; rfl
        · rw [ht]; exact e3.snoc w2
      · right
        obtain rfl : k = qs.length := by omega
        rw [decide_eq_false (by omega), cond_false]
        rw [List.take_length] at e3
        exact ⟨_, rfl, v, rfl, e3⟩) n (0, l) ⟨0, [], by simp [Gar.pos], by omega, .nil⟩ (by dsimp only; omega)
  obtain ⟨v, rfl, hv⟩ := r2
  exact ⟨v, r1, hv⟩
theorem garWord {p : Int} {L : List (List Int)} {qs : List Pr} (hN : 1 ≤ N ∧ N ≤ 10) (hp : -200 ≤ p ∧ p ≤ 200) (hp1 : (N : Int) = 1 → p = 0) (hl : qs.length ≤ 400) (hf : NF N L qs) (n : Nat) (hn : 300000000 ≤ n) :
    ∃ H v, F.garside_Word n (N : Int) p L = some (if 200 < (pw H p ++ Gar.pos v).length then (0, [], 5) else ((N : Int), pw H p ++ Gar.pos v, 0)) ∧ Lw N (dl N) H ∧ Lwl N (fsts qs) v := by
  obtain ⟨rfl, h1, h2, h3, h4⟩ := hf
  have hNN : N * N ≤ 10 * 10 := Nat.mul_le_mul hN.2 hN.2
  have hNN1 : (N + 1) * (N * N) ≤ 11 * 100 := Nat.mul_le_mul (by omega) hNN
  obtain ⟨r, r1, r2⟩ := garValid (s := (N : Int)) (p := p) (L := ls N qs) (fun x hx => by rw [ls_row x hx]; omega) n (by omega)
  have hr : r = true := r2.2 ⟨by omega, by omega, hp.1, hp.2, hp1, by rw [ls_len]; omega, qs, by rw [Int.toNat_natCast]; exact ⟨rfl, h1, h2, h3, h4⟩⟩
  obtain ⟨H, H1, H2⟩ := garLetters_eq (dl_pm (N := N)) n (by omega) (by omega)
  have hHl : H.length ≤ 100 := by have := H2.wd.len; have := inv_lst_le (N := N) (dl N); omega
  have hpl : (Gar.pos H).length = H.length := pos_len H
  have hnl : (neg (Gar.pos H)).length = H.length := by simp [neg, Gar.pos]
  have fin : ∀ (z : Nat) (t : List Int) (b : Int), z ≤ 200 → t.length ≤ 100 → pwn t z = pw H p → ∃ v, F.garside_Word_j0 n (N : Int) (ls N qs) (z : Int) b t = some (if 200 < (pw H p ++ Gar.pos v).length then (0, [], 5) else ((N : Int), pw H p ++ Gar.pos v, 0)) ∧ Lwl N (fsts qs) v := by
    intro z t b hz ht he
    have hm := Nat.mul_le_mul hz ht
    have hpw : (pw H p).length ≤ 20000 := by rw [← he, pwn_len]; omega
    obtain ⟨v, v1, v2⟩ := facLoop h1 hN (by omega) (pw H p) (by omega) n (by omega)
    refine ⟨v, ?_, v2⟩
    unfold F.garside_Word_j0
    rw [powLoop t z n (by omega) (by omega) (by omega), Option.bind_some]
    dsimp only
    rw [he, v1, Option.bind_some]
    dsimp only
    by_cases hc : 200 < (pw H p ++ Gar.pos v).length
    · rw [decide_eq_true (by omega), cond_true, if_pos hc]
    · rw [decide_eq_false (by omega), cond_false, if_neg hc]
  unfold F.garside_Word
  rw [r1, hr, Option.bind_some, Bool.not_true, cond_false, halfTwist_eq n (by omega) (by omega), Option.bind_some, H1, Option.bind_some]
  by_cases hneg : p < 0
  · rw [decide_eq_true hneg, cond_true, braidInverse (pos_ok' hN H2.wd) n (by omega), Option.bind_some]
    dsimp only
    rw [chk_ok (by omega) (by omega), Option.bind_some, show -p = (((-p).toNat : Nat) : Int) by omega]
    obtain ⟨v, v1, v2⟩ := fin (-p).toNat (neg (Gar.pos H)) (N : Int) (by omega) (by omega) (by unfold pw; rw [if_neg (by omega)])
    exact ⟨H, v, v1, H2, v2⟩
  · rw [decide_eq_false hneg, cond_false]
    obtain ⟨v, v1, v2⟩ := fin p.toNat (Gar.pos H) (N : Int) (by omega) (by omega) (by unfold pw; rw [if_pos (by omega)])
    rw [show ((p.toNat : Nat) : Int) = p by omega] at v1
    exact ⟨H, v, v1, H2, v2⟩
end
theorem rowsLoop (L : List (List Int)) (n : Nat) (hl : L.length ≤ 1000) (hn : 3000 < n) : ∃ r, loopN n (F.law34_GarsideValid_b0 n L) 0 = some r ∧ ((∃ z, r = .inl z ∧ ∀ x ∈ L, x.length ≤ 20) ∨ r = .inr true) := by
  apply loop_spec (fun s => ∃ k : Nat, s = (k : Int) ∧ k ≤ L.length ∧ ∀ x ∈ L.take k, x.length ≤ 20) (fun s => L.length - s.toNat)
  · intro s hs
    obtain ⟨k, rfl, h1, h2⟩ := hs
    unfold F.law34_GarsideValid_b0
    dsimp only
    by_cases hk : k < L.length
    · have ka := List.getElem?_eq_getElem hk
      rw [decide_eq_true (by omega), cond_true, get_at rfl ka, Option.bind_some]
      by_cases c : (20 : Int) < ((L[k]).length : Int)
      · rw [decide_eq_true c, cond_true]
        exact .inr ⟨_, rfl, .inr rfl⟩
      · rw [decide_eq_false c, cond_false, chk_ok (by omega) (by omega), Option.bind_some]
        refine .inl ⟨_, rfl, ⟨k + 1, rfl, by omega, fun x hx => ?_⟩, by omega⟩
        rw [List.take_add_one, ka] at hx
        rcases List.mem_append.1 hx with hx | hx
        · exact h2 x hx
        · rw [Option.toList_some, List.mem_singleton] at hx; subst hx; omega
    · rw [decide_eq_false (by omega), cond_false]
      refine .inr ⟨_, rfl, .inl ⟨_, rfl, ?_⟩⟩
      rwa [List.take_of_length_le (by omega)] at h2
  · exact ⟨0, rfl, by omega, by simp⟩
  · omega
end Gar
open Gar in
theorem law34_GarsideValid_true (x0 : Int × Int × List (List Int)) (o0 : Ev.Sh.ok (.pr (.int .i64) (.pr (.int .i64) (.sl (.sl (.int .i64))))) x0) : ∃ n, F.law34_GarsideValid n x0.1 x0.2.1 x0.2.2 = some true := by
  refine ⟨300000000, ?_⟩
  obtain ⟨s, p, L⟩ := x0
  dsimp only
  unfold F.law34_GarsideValid
  rw [Gar.awake34, Option.bind_some, Bool.not_true, cond_false]
  by_cases hl : (40 : Int) < (L.length : Int)
  · rw [decide_eq_true hl, cond_true]; rfl
  rw [decide_eq_false hl, cond_false]
  obtain ⟨r, r1, r2⟩ := rowsLoop L 300000000 (by omega) (by omega)
  rw [r1, Option.bind_some]
  rcases r2 with ⟨z, rfl, hrow⟩ | rfl
  · dsimp only
    have hrow' : ∀ x ∈ L, x.length ≤ 100000000 := fun x hx => by have := hrow x hx; omega
    obtain ⟨a, a1, a2⟩ := refValid (s := s) (p := p) (L := L) 300000000 (by omega)
    obtain ⟨b, b1, b2⟩ := garValid (s := s) (p := p) (L := L) hrow' 300000000 (by omega)
    have hab : b = a := by
      have h := b2.trans a2.symm
      cases a <;> cases b <;> first | rfl | exact absurd (h.1 rfl) (by decide) | exact absurd (h.2 rfl) (by decide)
    rw [plain_eq L _ (by omega) (by omega), Option.bind_some, a1, Option.bind_some]
    subst hab
    have hc : F.garside_Canonical 300000000 s p L = some (bif b then (p, p + (L.length : Int)) else (0, 0)) := by
      unfold F.garside_Canonical
      rw [b1, Option.bind_some]
      cases b with
      | false => rfl
      | true =>
        have := a2.1 rfl
        rw [Bool.not_true, cond_false, chk_ok (by omega) (by omega)]
        rfl
    cases b with
    | false =>
      rw [show F.garside_Canonical 300000000 s p L = some (0, 0) from hc, Option.bind_some]
      have hw : F.garside_Word 300000000 s p L = some (0, [], 1) := by
        unfold F.garside_Word
        rw [b1, Option.bind_some]; rfl
      rw [hw, Option.bind_some, b1, Option.bind_some]
      rfl
    | true =>
      rw [show F.garside_Canonical 300000000 s p L = some (p, p + (L.length : Int)) from hc, Option.bind_some]
      obtain ⟨c1, c2, c3, c4, c5, c6, qs, hf⟩ := a2.1 rfl
      obtain ⟨N, rfl⟩ : ∃ N : Nat, s = (N : Int) := ⟨s.toNat, by omega⟩
      rw [Int.toNat_natCast] at hf
      have hql : qs.length = L.length := by rw [hf.1, ls_len]
      obtain ⟨H, v, w1, w2, w3⟩ := garWord (N := N) ⟨by omega, by omega⟩ ⟨c3, c4⟩ c5 (by omega) hf 300000000 (by omega)
      obtain ⟨H', v', k1, k2, k3⟩ := whole_eq (N := N) hf.2.1 p 300000000 ⟨by omega, by omega⟩ (by omega) (by omega) (by omega)
      obtain rfl := w2.uniq k2
      obtain rfl := w3.uniq k3
      rw [← hf.1] at k1
      rw [w1, Option.bind_some, b1, Option.bind_some]
      rw [show (!(true == true)) = false from rfl, cond_false, Bool.not_true, cond_false]
      rw [decide_eq_true rfl, Bool.not_true, cond_false, chk_ok (by omega) (by omega), Option.bind_some, decide_eq_true rfl, Bool.not_true, cond_false, Option.bind_some, k1, Option.bind_some]
      by_cases hc2 : 200 < (pw H p ++ Gar.pos v).length
      · rw [decide_eq_true (by omega), cond_true, if_pos hc2]
        rfl
      · rw [decide_eq_false (by omega), cond_false, if_neg hc2]
        dsimp only
        obtain ⟨q, q1, q2⟩ := equalL (a := pw H p ++ Gar.pos v) (b := pw H p ++ Gar.pos v) 300000000 (by omega) (by omega)
        rw [q1, q2.2 rfl, decide_eq_true rfl, cond_true, decide_eq_true rfl, cond_true]
        rfl
  · rfl
end Go.Proofs.Ytkeaonceaaafcaa
