/- The plain laws of GarsideForm and GarsideSame. -/
import Derived.Test.YtkeaonceaaafcaaPGsameB
import Derived.Test.YtkeaonceaaafcaaPGactB
import Derived.Test.YtkeaonceaaafcaaPGval
import Derived.Test.YtkeaonceaaafcaaPGawake2
set_option linter.unusedVariables false
set_option linter.unusedSimpArgs false
namespace Go.Proofs.Ytkeaonceaaafcaa
open Ev
namespace Gar
theorem less_refl (a : List Int) (n : Nat) (hl : a.length ≤ 100000000) (hn : 200000000 ≤ n) : F.ref21_less n a a = some false := by
  unfold F.ref21_less
  have := count_loop (body := F.ref21_less_b0 n a a) (fun k => (k : Int)) a.length (r := .inl (a.length : Int)) (fun k hk => by
    have ka : a[k]? = some (a[k]'hk) := List.getElem?_eq_getElem _
    unfold F.ref21_less_b0
    dsimp only
    rw [decide_eq_true (by omega), cond_true, get_at rfl ka, Option.bind_some, Option.bind_some, decide_eq_true rfl, Bool.not_true, cond_false, chk_ok (by omega) (by omega)]
    rfl) (by
    unfold F.ref21_less_b0
    dsimp only
    rw [decide_eq_false (by omega), cond_false]) n (by omega)
  have e : loopN n (F.ref21_less_b0 n a a) 0 = some (.inl (a.length : Int)) := this
  rw [e, Option.bind_some]
theorem less_at {a b : List Int} {k : Nat} {x y : Int} (ha : a[k]? = some x) (hb : b[k]? = some y) (hxy : x ≠ y) (hp : ∀ j, j < k → a[j]? = b[j]?) (n : Nat) (hl : a.length ≤ 100000000) (hl2 : b.length = a.length) (hn : 200000000 ≤ n) : F.ref21_less n a b = some (decide (x < y)) := by
  unfold F.ref21_less
  have hk := (List.getElem?_eq_some_iff.1 ha).1
  have := count_loop (body := F.ref21_less_b0 n a b) (fun k => (k : Int)) k (r := .inr (decide (x < y))) (fun j hj => by
    have ka : a[j]? = some (a[j]'(by omega)) := List.getElem?_eq_getElem _
    have kb := hp j hj
    rw [ka] at kb
    unfold F.ref21_less_b0
    dsimp only
    rw [decide_eq_true (by omega), cond_true, get_at rfl ka, Option.bind_some, get_at rfl kb.symm, Option.bind_some, decide_eq_true rfl, Bool.not_true, cond_false, chk_ok (by omega) (by omega)]
    rfl) (by
    unfold F.ref21_less_b0
    dsimp only
    rw [decide_eq_true (by omega), cond_true, get_at rfl ha, Option.bind_some, get_at rfl hb, Option.bind_some, decide_eq_false hxy, Bool.not_false, cond_true, Option.bind_some, Option.bind_some]) n (by omega)
  have e : loopN n (F.ref21_less_b0 n a b) 0 = some (.inr (decide (x < y))) := this
  rw [e, Option.bind_some]
theorem sameWord (a b : List Int) (n : Nat) (hl : a.length ≤ 100000000) (hn : 200000000 ≤ n) : ∃ r, F.ref21_Same n a b = some r ∧ (r = true ↔ a = b) := by
  unfold F.ref21_Same
  by_cases h : (a.length : Int) = (b.length : Int)
  · rw [decide_eq_true h, cond_true]
    by_cases e : a = b
    · subst e
      rw [less_refl a n hl hn]
      exact ⟨true, rfl, fun _ => rfl, fun _ => rfl⟩
    · have hex : ∃ k : Nat, a[k]? ≠ b[k]? := by
        by_cases hc : ∃ k : Nat, a[k]? ≠ b[k]?
        · exact hc
        · exact absurd (List.ext_getElem? fun k => Classical.byContradiction fun hn => hc ⟨k, hn⟩) e
      obtain ⟨k, h1, h2⟩ := count_until.least hex
      have hp : ∀ j, j < k → a[j]? = b[j]? := fun j hj => Classical.byContradiction fun hn => h2 j hj hn
      have hk : k < a.length := by
        rcases Nat.lt_or_ge k a.length with h | h'
        · exact h
        · exact absurd (by rw [List.getElem?_eq_none h', List.getElem?_eq_none (by omega)]) h1
      have ka : a[k]? = some (a[k]'hk) := List.getElem?_eq_getElem _
      have kb : b[k]? = some (b[k]'(by omega)) := List.getElem?_eq_getElem _
      have hxy : a[k] ≠ b[k]'(by omega) := fun e => h1 (by rw [ka, kb, e])
      rw [less_at ka kb hxy hp n hl (by omega) hn, Option.bind_some]
      refine ⟨false, ?_, fun h => absurd h (by decide), fun h => absurd h e⟩
      by_cases c : a[k] < b[k]'(by omega)
      · rw [decide_eq_true c]; rfl
      · rw [decide_eq_false c, Bool.not_false, cond_true, less_at kb ka (Ne.symm hxy) (fun j hj => (hp j hj).symm) n (by omega) (by omega) hn, Option.bind_some, decide_eq_true (by omega)]
        rfl
  · rw [decide_eq_false h]
    exact ⟨false, rfl, fun h' => absurd h' (by decide), fun h' => absurd (by rw [h']) h⟩
theorem sameRows (a b : List (List Int)) (n : Nat) (ha : a.length ≤ 1000) (hr : ∀ x ∈ a, x.length ≤ 100000000) (hn : 200000000 ≤ n) : ∃ r, F.ref34_Same n a b = some r ∧ (r = true ↔ a = b) := by
  unfold F.ref34_Same
  by_cases h : (a.length : Int) = (b.length : Int)
  · rw [decide_eq_true h, Bool.not_true, cond_false]
    obtain ⟨r, h1, h2⟩ := eqLoop (body := F.ref34_Same_b0 n a b) (a := a) (b := b) n (by omega) (by omega) (fun k x y hx hy => by
      have hk := (List.getElem?_eq_some_iff.1 hx).1
      obtain ⟨r, r1, r2⟩ := sameWord x y n (hr x (List.mem_of_getElem? hx)) hn
      unfold F.ref34_Same_b0
      dsimp only
      rw [decide_eq_true (by omega), cond_true, get_at rfl hx, Option.bind_some, get_at rfl hy, Option.bind_some, r1, Option.bind_some, chk_ok (by omega) (by omega)]
      refine ⟨fun e => ?_, fun e => ?_⟩
      · rw [r2.2 e]; rfl
      · cases r with
        | true => exact absurd (r2.1 rfl) e
        | false => rfl) (by
      unfold F.ref34_Same_b0
      dsimp only
      rw [decide_eq_false (by omega)]; rfl)
    rw [h1, Option.bind_some]
    rcases h2 with ⟨x, rfl, e⟩ | ⟨rfl, e⟩
    · exact ⟨true, rfl, fun _ => e, fun _ => rfl⟩
    · exact ⟨false, rfl, fun h' => absurd h' (by decide), fun h' => absurd h' e⟩
  · rw [decide_eq_false h]
    exact ⟨false, rfl, fun h' => absurd h' (by decide), fun h' => absurd (by rw [h']) h⟩
theorem plain_eq (L : List (List Int)) (n : Nat) (hl : L.length ≤ 100000) (hn : L.length < n) : F.law34_plain n L = some L := by
  unfold F.law34_plain
  have := count_loop (body := F.law34_plain_b0 n L) (fun k => (L.take k, (k : Int))) L.length (r := (L, (L.length : Int))) (fun k hk => by
    have ka : L[k]? = some (L[k]'hk) := List.getElem?_eq_getElem _
    unfold F.law34_plain_b0
    dsimp only
    rw [decide_eq_true (by omega), cond_true, get_at rfl ka, Option.bind_some, lim_ok (by simp; omega), Option.bind_some, chk_ok (by omega) (by omega), List.take_add_one, ka]
    rfl) (by
    unfold F.law34_plain_b0
    dsimp only
    rw [decide_eq_false (by omega), cond_false, List.take_length]) n hn
  have e : loopN n (F.law34_plain_b0 n L) (([] : List (List Int)), 0) = some (L, (L.length : Int)) := this
  rw [e, Option.bind_some]
theorem braidValid' {s : Int} {w : List Int} (n : Nat) (hn : 300 ≤ n) : F.braid_Valid n s w = some (okB s w) := by
  by_cases h : w.length < n
  · exact braidValid n h
  · unfold F.braid_Valid
    have hf : okB s w = false := by
      cases hb : okB s w with
      | false => rfl
      | true => have := (okB_iff.1 hb).2.2.1; omega
    rw [hf]
    by_cases h1 : s < 1
    · rw [decide_eq_true h1]; rfl
    rw [decide_eq_false h1, cond_false]
    by_cases h2 : 10 < s
    · rw [decide_eq_true h2]; rfl
    rw [decide_eq_false h2, cond_false, decide_eq_true (by omega)]
    rfl
theorem form_bad' {s : Int} {w : List Int} (hv : okB s w = false) (n : Nat) (hn : 300 ≤ n) : F.garside_Form n s w = some (0, 0, [], 1) := by
  unfold F.garside_Form
  rw [braidValid' n hn, Option.bind_some, hv]; rfl
/-- Equal normal forms are forms of equal braids. -/
theorem be_of_form {s : Int} {w w' : List Int} (hv : okB s w = true) (hv' : okB s w' = true) (n : Nat) (hn : 300000000 ≤ n) (h : F.garside_Form n s w = F.garside_Form n s w') : BE s.toNat w w' := by
  obtain ⟨p, qs, h1, h2⟩ := form_eq hv n hn
  obtain ⟨p', qs', h3, h4⟩ := form_eq hv' n hn
  rw [h1, h3] at h
  injection h with h
  obtain ⟨_, h⟩ := Prod.mk.inj h
  obtain ⟨e1, h⟩ := Prod.mk.inj h
  obtain ⟨e2, _⟩ := Prod.mk.inj h
  have e3 : fsts qs = fsts qs' := by
    have hq : qs.length = qs'.length := by have := congrArg List.length e2; rwa [ls_len, ls_len] at this
    apply List.ext_getElem?
    intro k
    unfold fsts
    rw [List.getElem?_map, List.getElem?_map]
    by_cases hk : k < qs.length
    · have k1 : qs[k]? = some (qs[k]'hk) := List.getElem?_eq_getElem _
      have k2 : qs'[k]? = some (qs'[k]'(by omega)) := List.getElem?_eq_getElem _
      have m1 := h2.pms _ (List.getElem_mem hk)
      have m2 := h4.pms _ (List.getElem_mem (show k < qs'.length by omega))
      have a1 := ls_at (N := s.toNat) k1
      have a2 := ls_at (N := s.toNat) k2
      rw [e2, a2] at a1
      injection a1 with a1
      rw [k1, k2]
      show some _ = some _
      dsimp only
      rw [li_eq m1.fix m2.fix a1.symm]
    · rw [List.getElem?_eq_none (by omega), List.getElem?_eq_none (by omega)]
  obtain ⟨H, hH⟩ := (dl_pm (N := s.toNat)).word
  obtain ⟨v, v1, v2⟩ := h2.ns H hH
  obtain ⟨v', v3, v4⟩ := h4.ns H hH
  rw [← e3] at v3
  rw [← e1] at v4
  exact v2.trans (((Wl.uniq (v := []) v1 v3).be.left (pw H p)).trans v4.symm)
theorem acts_row {s : Nat} {u : List Int} : acts s u = (List.range s).map fun j => iact u (j + 1) := rfl
theorem acts_iff {s : Nat} {u v : List Int} : acts s u = acts s v ↔ ∀ j, 1 ≤ j → j ≤ s → iact u j = iact v j := by
  unfold acts
  rw [List.map_inj_left]
  refine ⟨fun h j h1 h2 => ?_, fun h j hj => h (j + 1) (by omega) (by have := List.mem_range.1 hj; omega)⟩
  have := h (j - 1) (List.mem_range.2 (by omega))
  rwa [Nat.sub_add_cancel h1] at this
theorem acts_ne {s : Nat} (hs : 1 ≤ s) (u : List Int) : ¬ (((acts s u).length : Int) = 0) := by rw [acts_len]; omega
theorem iact_len (u : List Int) (j : Nat) : (iact u j).length ≤ 3 ^ u.length := by
  induction u with
  | nil => exact Nat.le_refl _
  | cons x u ih =>
    have h1 := ird_le (isub x (iact u j))
    have h2 := isub_len x (iact u j)
    rw [List.length_cons, Nat.pow_succ]
    show (ird (isub x (iact u j))).length ≤ _
    omega
theorem same_bad {s s' : Int} {w w' : List Int} (n : Nat) (hn : 300000000 ≤ n) (h : okB s w = false ∨ okB s' w' = false ∨ s ≠ s') : F.garside_Same n s w s' w' = some false := by
  unfold F.garside_Same
  cases h0 : okB s w with
  | false => rw [form_bad' h0 n (by omega)]; rfl
  | true =>
    obtain ⟨p, qs, h1, h2⟩ := form_eq h0 n hn
    rw [h1, Option.bind_some]
    dsimp only
    rw [decide_eq_true rfl, Bool.not_true, cond_false]
    cases h3 : okB s' w' with
    | false => rw [form_bad' h3 n (by omega)]; rfl
    | true =>
      obtain ⟨p', qs', h4, h5⟩ := form_eq h3 n hn
      rw [h4, Option.bind_some]
      dsimp only
      have hne : s ≠ s' := by
        rcases h with h | h | h
        · rw [h0] at h; cases h
        · rw [h3] at h; cases h
        · exact h
      rw [decide_eq_true rfl, Bool.not_true, cond_false, decide_eq_false hne]
      rfl
theorem iact_short {u : List Int} (h : u.length ≤ 12) {s : Nat} : ∀ x ∈ acts s u, x.length ≤ 100000000 := fun x hx => by
  obtain ⟨j, _, rfl⟩ := List.mem_map.1 hx
  have h1 := iact_len u (j + 1)
  have h2 : (3 : Nat) ^ u.length ≤ 3 ^ 12 := Nat.pow_le_pow_right (by omega) h
  omega
end Gar
open Gar in
theorem law34_GarsideSame_true (x0 : Int × List Int) (x1 : Int × List Int) (o0 : Ev.Sh.ok (.pr (.int .i64) (.sl (.int .i64))) x0) (o1 : Ev.Sh.ok (.pr (.int .i64) (.sl (.int .i64))) x1) : ∃ n, F.law34_GarsideSame n x0.1 x0.2 x1.1 x1.2 = some true := by
  refine ⟨10000000000, ?_⟩
  unfold F.law34_GarsideSame
  rw [awakeBig, Option.bind_some, Bool.not_true, cond_false]
  by_cases l0 : (12 : Int) < (x0.2.length : Int)
  · rw [decide_eq_true l0]; rfl
  by_cases l1 : (12 : Int) < (x1.2.length : Int)
  · rw [decide_eq_false l0, decide_eq_true l1]; rfl
  rw [decide_eq_false l0, decide_eq_false l1, cond_false, cond_false, braidValid' _ (by omega), braidValid' _ (by omega)]
  by_cases v0 : okB x0.1 x0.2 = true
  · by_cases v1 : okB x1.1 x1.2 = true
    · rw [v0, v1]
      by_cases e : x0.1 = x1.1
      · obtain ⟨s, w⟩ := x0
        obtain ⟨s', w'⟩ := x1
        dsimp only at e v0 v1 l0 l1 ⊢
        subst e
        obtain ⟨a1, a2, a3, a4⟩ := okB_iff.1 v0
        obtain ⟨N, rfl⟩ : ∃ N : Nat, s = (N : Int) := ⟨s.toNat, by omega⟩
        have hR := okB_rg v0
        have hR' := okB_rg v1
        rw [Int.toNat_natCast] at hR hR'
        obtain ⟨r, r1, r2⟩ := garSame v0 v1 10000000000 (by omega)
        obtain ⟨y, y1, y2⟩ := action_eq (s := N) ⟨by omega, by omega⟩ hR (by omega) 10000000000 (by omega)
        obtain ⟨z, z1, z2⟩ := action_eq (s := N) ⟨by omega, by omega⟩ hR' (by omega) 10000000000 (by omega)
        rw [r1, Option.bind_some, Option.bind_some, Bool.not_true, cond_false, Option.bind_some, Bool.not_true, cond_false, decide_eq_true rfl, Bool.not_true, cond_false, y1, Option.bind_some, z1, Option.bind_some]
        rcases y2 with rfl | rfl
        · rfl
        rw [decide_eq_false (acts_ne (by omega) _), cond_false]
        rcases z2 with rfl | rfl
        · rfl
        rw [decide_eq_false (acts_ne (by omega) _), cond_false]
        obtain ⟨q, q1, q2⟩ := sameRows (acts N w) (acts N w') 10000000000 (by rw [acts_len]; omega) (iact_short (by omega)) (by omega)
        rw [q1, Option.bind_some]
        have hiff : r = true ↔ q = true := by
          refine r2.trans (Iff.trans ⟨fun h => ?_, fun h => ?_⟩ q2.symm)
          · have hb := be_of_form v0 v1 10000000000 (by omega) h
            rw [Int.toNat_natCast] at hb
            exact acts_iff.2 fun j j1 j2 => BE.iact hR hR' hb j1 j2
          · exact form_act v0 v1 10000000000 (by omega) (act_of_iact hR hR' (acts_iff.1 h))
        cases r <;> cases q <;> first | rfl | exact absurd (hiff.1 rfl) (by decide) | exact absurd (hiff.2 rfl) (by decide)
      · rw [same_bad 10000000000 (by omega) (.inr (.inr e)), decide_eq_false e]
        rfl
    · rw [Bool.not_eq_true] at v1
      rw [same_bad 10000000000 (by omega) (.inr (.inl v1)), v0, v1]
      rfl
  · rw [Bool.not_eq_true] at v0
    rw [same_bad 10000000000 (by omega) (.inl v0), v0]
    rfl
open Gar in
theorem law34_GarsideForm_true (x0 : Int × List Int) (o0 : Ev.Sh.ok (.pr (.int .i64) (.sl (.int .i64))) x0) : ∃ n, F.law34_GarsideForm n x0.1 x0.2 = some true := by
  refine ⟨10000000000, ?_⟩
  unfold F.law34_GarsideForm
  rw [awakeBig, Option.bind_some, Bool.not_true, cond_false]
  have key : x0.2.length ≤ 12 ∨ 200 < x0.2.length → F.law34_GarsideForm_j0 10000000000 x0.1 x0.2 = some true := by
    intro hlen
    obtain ⟨s, w⟩ := x0
    dsimp only at hlen ⊢
    unfold F.law34_GarsideForm_j0
    rw [braidValid' _ (by omega)]
    cases hv : okB s w with
    | false =>
      rw [form_bad' hv _ (by omega), Option.bind_some, Option.bind_some]
      rfl
    | true =>
      obtain ⟨a1, a2, a3, a4⟩ := okB_iff.1 hv
      obtain ⟨N, rfl⟩ : ∃ N : Nat, s = (N : Int) := ⟨s.toNat, by omega⟩
      have hR := okB_rg hv
      rw [Int.toNat_natCast] at hR
      obtain ⟨p, qs, f1, f2⟩ := form_eq hv 10000000000 (by omega)
      rw [Int.toNat_natCast] at f1 f2
      have hlo := f2.lo
      have hhi := f2.hi
      have hp1 : (N : Int) = 1 → p = 0 := fun h => by
        have hw : w = [] := by
          cases w with
          | nil => rfl
          | cons x t => have := hR x (by simp); omega
        rw [hw] at hlo hhi
        simp only [List.length_nil] at hlo hhi
        omega
      obtain ⟨r, r1, r2⟩ := refValid (s := (N : Int)) (p := p) (L := ls N qs) 10000000000 (by omega)
      have hr : r = true := r2.2 ⟨a1, a2, by omega, by omega, hp1, by rw [ls_len]; omega, qs, by rw [Int.toNat_natCast]; exact ⟨rfl, f2.pms, f2.lw, f2.noId, f2.noDl⟩⟩
      rw [hr] at r1
      have hpl := plain_eq (ls N qs) 10000000000 (by rw [ls_len]; omega) (by rw [ls_len]; omega)
      obtain ⟨H, v, w1, w2, w3⟩ := whole_eq f2.pms p 10000000000 (N := N) ⟨by omega, by omega⟩ (by omega) (by omega) (by omega)
      have hNN : N * N ≤ 10 * 10 := Nat.mul_le_mul (by omega) (by omega)
      have hWr : Rg N (pw H p ++ pos v) := (pw_rg w2.wd p).app (Rg.pos w3.wl.rng)
      have hWl : (pw H p ++ pos v).length ≤ 10000 := by
        have h1 := w3.len
        have h2 : (fsts qs).length * (N * N) ≤ 24 * (10 * 10) := Nat.mul_le_mul (by unfold fsts; rw [List.length_map]; omega) hNN
        have h3 := w2.wd.len
        have h4 := inv_lst_le (N := N) (dl N)
        have h5 : (pos H).length ≤ 100 := by unfold Gar.pos; rw [List.length_map]; omega
        have h6 : (neg (pos H)).length ≤ 100 := by rw [neg_len]; exact h5
        have h7 : (pw H p).length ≤ 1200 := by
          unfold pw
          split
          · rw [pwn_len]; have := Nat.mul_le_mul (show p.toNat ≤ 12 by omega) h5; omega
          · rw [pwn_len]; have := Nat.mul_le_mul (show (-p).toNat ≤ 12 by omega) h6; omega
        rw [List.length_append]
        have : (pos v).length = v.length := by unfold Gar.pos; rw [List.length_map]
        omega
      have hbe : BE N w (pw H p ++ pos v) := by
        obtain ⟨v', v1, v2⟩ := f2.ns H w2.wd
        exact v2.trans ((Wl.uniq (v := []) v1 w3.wl).be.left _)
      obtain ⟨y, y1, y2⟩ := action_eq (s := N) ⟨by omega, by omega⟩ hR (by omega) 10000000000 (by omega)
      obtain ⟨z, z1, z2⟩ := action_eq (s := N) ⟨by omega, by omega⟩ hWr hWl 10000000000 (by omega)
      rw [f1, Option.bind_some, Option.bind_some]
      dsimp only
      rw [Bool.not_true, cond_false, decide_eq_true rfl, Bool.not_true, cond_false, decide_eq_true rfl, Bool.not_true, cond_false, hpl, Option.bind_some, r1, Option.bind_some, Bool.not_true, cond_false, chk_ok (by omega) (by omega), Option.bind_some, decide_eq_false (by omega), cond_false, ls_len, chk_ok (by omega) (by omega), Option.bind_some, decide_eq_false (by omega), cond_false, y1, Option.bind_some, Option.bind_some, w1, Option.bind_some, z1, Option.bind_some]
      rcases y2 with rfl | rfl
      · rfl
      rw [decide_eq_false (acts_ne (by omega) _), cond_false]
      rcases z2 with rfl | rfl
      · rfl
      rw [decide_eq_false (acts_ne (by omega) _), cond_false]
      obtain ⟨q, q1, q2⟩ := sameRows (acts N w) (acts N (pw H p ++ pos v)) 10000000000 (by rw [acts_len]; omega) (iact_short (by omega)) (by omega)
      rw [q1, q2.2 (acts_iff.2 fun j j1 j2 => BE.iact hR hWr hbe j1 j2)]
      rfl
  by_cases l0 : (12 : Int) < (x0.2.length : Int)
  · rw [decide_eq_true l0, cond_true]
    by_cases l1 : (x0.2.length : Int) ≤ 200
    · rw [decide_eq_true l1]; rfl
    · rw [decide_eq_false l1, cond_false]
      exact key (by omega)
  · rw [decide_eq_false l0, cond_false]
    exact key (by omega)
end Go.Proofs.Ytkeaonceaaafcaa
