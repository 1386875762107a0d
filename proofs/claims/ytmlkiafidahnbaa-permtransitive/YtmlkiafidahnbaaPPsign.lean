/- The sign of a permutation: by its inversions, and by its cycles. -/
import Derived.Test.YtmlkiafidahnbaaPPcyc
set_option linter.unusedVariables false
set_option linter.unusedSimpArgs false
namespace Go.Proofs.Ytmlkiafidahnbaa
open Ev
namespace Gar
section
variable {N : Nat} {f g : Nat → Nat}
/-- How many inversions. -/
def iv (N : Nat) (f : Nat → Nat) : Nat := inv (lst N f)
theorem iv_tr (h : Pm N f g) {i : Nat} (h1 : 1 ≤ i) (h2 : i < N) : iv N (fun k => f (tr i k)) % 2 = (iv N f + 1) % 2 := by
  unfold iv
  by_cases hd : ds f i
  · have := inv_tr h1 h2 hd; omega
  · have hd2 : ds (fun k => f (tr i k)) i := by
      unfold ds at hd ⊢
      dsimp only
      rw [tr_r h1, tr_l h1]
      have : f i ≠ f (i - 1) := fun e => by have := h.inj e; omega
      omega
    have t := inv_tr h1 h2 hd2
    have e : (fun k => (fun k => f (tr i k)) (tr i k)) = f := by funext k; dsimp only; rw [tr_tr h1]
    rw [e] at t
    omega
theorem Pm.comp {f' g' : Nat → Nat} (h : Pm N f g) (h' : Pm N f' g') : Pm N (fun k => f (f' k)) (fun k => g' (g k)) :=
  ⟨fun k hk => by rw [h'.fix k hk, h.fix k hk], fun k => by rw [h.gf, h'.gf], fun k => by rw [h'.fg, h.fg]⟩
theorem iv_comp {f' g' : Nat → Nat} (h : Pm N f g) (h' : Pm N f' g') : iv N (fun k => f (f' k)) % 2 = (iv N f + iv N f') % 2 := by
  obtain ⟨w, hw⟩ := h'.word
  clear h'
  induction hw with
  | nil => unfold iv; rw [inv_id]; simp
  | @cons f' i w h1 h2 h3 h4 ih =>
    have hp := (Wd.cons h1 h2 h3 h4 : Wd N f' (i :: w)).pm
    obtain ⟨g1, hp⟩ := hp
    have a1 := iv_tr hp h1 h2
    have a2 := iv_tr (h.comp hp) h1 h2
    dsimp only at ih
    omega
def sw (a b k : Nat) : Nat := if k = a then b else if k = b then a else k
theorem sw_a {a b : Nat} : sw a b a = b := if_pos rfl
theorem sw_b {a b : Nat} : sw a b b = a := by unfold sw; split <;> simp_all
theorem sw_o {a b k : Nat} (h1 : k ≠ a) (h2 : k ≠ b) : sw a b k = k := by unfold sw; rw [if_neg h1, if_neg h2]
theorem sw_sw {a b : Nat} (k : Nat) : sw a b (sw a b k) = k := by
  by_cases h1 : k = a
  · subst h1; rw [sw_a, sw_b]
  · by_cases h2 : k = b
    · subst h2; rw [sw_b, sw_a]
    · rw [sw_o h1 h2, sw_o h1 h2]
theorem sw_pm {a b : Nat} (ha : a < N) (hb : b < N) : Pm N (sw a b) (sw a b) := ⟨fun k hk => sw_o (by omega) (by omega), sw_sw, sw_sw⟩
theorem tr_pm {i : Nat} (h1 : 1 ≤ i) (h2 : i < N) : Pm N (tr i) (tr i) := (Pm.id N).ex h1 h2
theorem iv_id : iv N (fun k => k) = 0 := inv_id
theorem iv_tr1 {i : Nat} (h1 : 1 ≤ i) (h2 : i < N) : iv N (tr i) % 2 = 1 := by
  have := iv_tr (Pm.id N) h1 h2
  rw [iv_id] at this
  exact this
theorem iv_sw_lt : ∀ (d a : Nat), a + d + 1 < N → iv N (sw a (a + d + 1)) % 2 = 1
  | 0, a, h => by
    have e : sw a (a + 0 + 1) = tr (a + 1) := by
      funext k
      unfold sw tr
      by_cases h1 : k = a
      · rw [if_pos h1, if_pos (show k + 1 = a + 1 by omega)]
      · rw [if_neg h1, if_neg (show ¬ k + 1 = a + 1 by omega)]
        by_cases h2 : k = a + 1
        · rw [if_pos (show k = a + 0 + 1 by omega), if_pos h2]; omega
        · rw [if_neg (show ¬ k = a + 0 + 1 by omega), if_neg h2]
    rw [e]
    exact iv_tr1 (by omega) (by omega)
  | d + 1, a, h => by
    have ih := iv_sw_lt d a (by omega)
    have hs : Pm N (sw a (a + d + 1)) (sw a (a + d + 1)) := sw_pm (by omega) (by omega)
    have ht : Pm N (tr (a + d + 2)) (tr (a + d + 2)) := tr_pm (by omega) (by omega)
    have h2 := iv_comp hs ht
    have h3 := iv_comp ht (hs.comp ht)
    have h4 := iv_tr1 (N := N) (i := a + d + 2) (by omega) (by omega)
    have e : sw a (a + (d + 1) + 1) = fun k => tr (a + d + 2) (sw a (a + d + 1) (tr (a + d + 2) k)) := by
      funext k
      have t2 : tr (a + d + 2) (a + d + 1) = a + d + 2 := by
        have := tr_l (i := a + d + 2) (by omega)
        rwa [show a + d + 2 - 1 = a + d + 1 by omega] at this
      have t4 : tr (a + d + 2) (a + d + 2) = a + d + 1 := by rw [tr_r (by omega)]; omega
      have t3 : tr (a + d + 2) a = a := tr_o (by omega) (by omega)
      rw [show a + (d + 1) + 1 = a + d + 2 by omega]
      by_cases e1 : k = a
      · subst e1
        rw [t3, sw_a, sw_a, t2]
      by_cases e2 : k = a + d + 2
      · subst e2
        rw [sw_b, t4, sw_b, t3]
      by_cases e3 : k = a + d + 1
      · subst e3
        rw [sw_o (show a + d + 1 ≠ a by omega) (show a + d + 1 ≠ a + d + 2 by omega), t2, sw_o (show a + d + 2 ≠ a by omega) (show a + d + 2 ≠ a + d + 1 by omega), t4]
      · have t5 : tr (a + d + 2) k = k := tr_o (by omega) (by omega)
        rw [sw_o e1 e2, t5, sw_o e1 e3, t5]
    rw [e]
    omega
theorem iv_sw {a b : Nat} (ha : a < N) (hb : b < N) (hne : a ≠ b) : iv N (sw a b) % 2 = 1 := by
  rcases Nat.lt_or_ge a b with h | h
  · have := iv_sw_lt (N := N) (b - a - 1) a (by omega)
    rwa [show a + (b - a - 1) + 1 = b by omega] at this
  · have := iv_sw_lt (N := N) (a - b - 1) b (by omega)
    rw [show b + (a - b - 1) + 1 = a by omega] at this
    have e : sw a b = sw b a := by
      funext k
      unfold sw
      by_cases h1 : k = a
      · subst h1; rw [if_pos rfl, if_neg hne, if_pos rfl]
      · rw [if_neg h1]
        by_cases h2 : k = b
        · rw [if_pos h2, if_pos h2]
        · rw [if_neg h2, if_neg h2, if_neg h1]
    rw [e]; exact this
/-! Cycles as lists. -/
def pth (f : Nat → Nat) : Nat → List Nat → Nat → Prop
  | a, [], z => f a = z
  | a, b :: r, z => f a = b ∧ pth f b r z
def okC (f : Nat → Nat) : List Nat → Prop
  | [] => False
  | a :: r => pth f a r a
theorem pth_congr {f' : Nat → Nat} : ∀ {r : List Nat} {a z : Nat}, (∀ x ∈ a :: r, f' x = f x) → pth f a r z → pth f' a r z
  | [], a, z, h, hp => (h a (by simp)).trans hp
  | b :: r, a, z, h, hp => ⟨(h a (by simp)).trans hp.1, pth_congr (fun x hx => h x (List.mem_cons_of_mem _ hx)) hp.2⟩
theorem okC_congr {f' : Nat → Nat} {c : List Nat} (h : ∀ x ∈ c, f' x = f x) (hc : okC f c) : okC f' c := by
  cases c with
  | nil => exact hc
  | cons a r => exact pth_congr h hc
def szs (cs : List (List Nat)) : Nat := (cs.map fun c => c.length + 1).sum
def szm (cs : List (List Nat)) : Nat := (cs.map fun c => c.length - 1).sum
theorem iv_cycles : ∀ (m : Nat) {f g : Nat → Nat} {cs : List (List Nat)}, Pm N f g → (∀ c ∈ cs, okC f c) → cs.flatten.Nodup → (∀ x ∈ cs.flatten, x < N) → (∀ x, x < N → x ∈ cs.flatten) → szm cs = m → iv N f % 2 = szs cs % 2
  | 0, f, g, cs, h, hc, hn, hr, ha, hm => by
    have h1 : ∀ c ∈ cs, ∃ a, c = [a] ∧ f a = a := fun c hcm => by
      have hz : ∀ (l : List (List Nat)), szm l = 0 → ∀ c ∈ l, c.length - 1 = 0 := by
        intro l
        induction l with
        | nil => intro _ c hc; cases hc
        | cons d l ih =>
          intro hl c hc
          unfold szm at hl
          rw [List.map_cons, List.sum_cons] at hl
          rcases List.mem_cons.1 hc with rfl | hc
          · omega
          · exact ih (by unfold szm; omega) c hc
      have := hz cs hm c hcm
      have hok := hc c hcm
      match c, this, hok with
      | [], _, hok => exact hok.elim
      | [a], _, hok => exact ⟨a, rfl, hok⟩
      | a :: b :: r, this, _ => simp at this
    have hid : f = fun k => k := by
      funext x
      by_cases hx : x < N
      · obtain ⟨c, hcm, hxc⟩ := List.mem_flatten.1 (ha x hx)
        obtain ⟨a, rfl, e⟩ := h1 c hcm
        rw [List.mem_singleton] at hxc
        subst hxc; exact e
      · exact h.fix x (by omega)
    have hs : ∀ (l : List (List Nat)), (∀ c ∈ l, ∃ a, c = [a] ∧ f a = a) → szs l % 2 = 0 := by
      intro l
      induction l with
      | nil => intro _; rfl
      | cons d l ih =>
        intro hl
        obtain ⟨a, e, _⟩ := hl d (by simp)
        have := ih fun c hc => hl c (by simp [hc])
        unfold szs at this ⊢
        rw [List.map_cons, List.sum_cons, e]
        simp only [List.length_singleton]
        omega
    rw [hs cs h1, hid, iv_id]
  | m + 1, f, g, cs, h, hc, hn, hr, ha, hm => by
    have hex : ∃ c ∈ cs, ∃ a0 a1 r, c = a0 :: a1 :: r := by
      refine Classical.byContradiction fun hne => ?_
      have hz : ∀ (l : List (List Nat)), (∀ c ∈ l, okC f c ∧ ¬ ∃ a0 a1 r, c = a0 :: a1 :: r) → szm l = 0 := by
        intro l
        induction l with
        | nil => intro _; rfl
        | cons d l ih =>
          intro hl
          have h1 := hl d (by simp)
          have := ih fun c hc => hl c (by simp [hc])
          unfold szm at this ⊢
          rw [List.map_cons, List.sum_cons, this]
          match d, h1 with
          | [], h1 => exact h1.1.elim
          | [a], _ => rfl
          | a :: b :: r, h1 => exact absurd ⟨a, b, r, rfl⟩ h1.2
      have := hz cs fun c hcm => ⟨hc c hcm, fun ⟨a0, a1, r, e⟩ => hne ⟨c, hcm, a0, a1, r, e⟩⟩
      omega
    obtain ⟨c, hcm, a0, a1, r, rfl⟩ := hex
    obtain ⟨A, B, rfl⟩ := List.append_of_mem hcm
    have hfl : (A ++ (a0 :: a1 :: r) :: B).flatten = A.flatten ++ (a0 :: a1 :: (r ++ B.flatten)) := by simp
    have hfl' : (A ++ (a0 :: r) :: [a1] :: B).flatten = A.flatten ++ (a0 :: (r ++ a1 :: B.flatten)) := by simp
    have hperm : (A ++ (a0 :: r) :: [a1] :: B).flatten.Perm (A ++ (a0 :: a1 :: r) :: B).flatten := by
      rw [hfl, hfl']
      exact List.Perm.append_left _ (List.Perm.cons _ List.perm_middle)
    have hn2 := hn
    rw [hfl, List.nodup_append, List.nodup_cons, List.nodup_cons] at hn2
    obtain ⟨hnA, ⟨hn0, hn1, hnr⟩, hdis⟩ := hn2
    have h0 : a0 < N := hr a0 (by rw [hfl]; simp)
    have h1 : a1 < N := hr a1 (by rw [hfl]; simp)
    have hne : a0 ≠ a1 := fun e => hn0 (by rw [e]; simp)
    have hp' : Pm N (fun k => f (sw a0 a1 k)) (fun k => sw a0 a1 (g k)) := h.comp (sw_pm h0 h1)
    have hok := hc _ hcm
    obtain ⟨e01, hpth⟩ : f a0 = a1 ∧ pth f a1 r a0 := hok
    have hsame : ∀ x, x ≠ a0 → x ≠ a1 → (fun k => f (sw a0 a1 k)) x = f x := fun x hx0 hx1 => by dsimp only; rw [sw_o hx0 hx1]
    have ih := iv_cycles m (cs := A ++ (a0 :: r) :: [a1] :: B) hp' (fun c hcm' => by
      rcases List.mem_append.1 hcm' with hA | hB
      · refine okC_congr (fun x hx => ?_) (hc c (by simp [hA]))
        have hxA : x ∈ A.flatten := List.mem_flatten.2 ⟨c, hA, hx⟩
        exact hsame x (fun e => hdis x hxA a0 (by simp) e) (fun e => hdis x hxA a1 (by simp) e)
      · rcases List.mem_cons.1 hB with rfl | hB
        · show pth _ a0 r a0
          cases r with
          | nil => show f (sw a0 a1 a0) = a0; rw [sw_a]; exact hpth
          | cons b r =>
            refine ⟨by show f (sw a0 a1 a0) = b; rw [sw_a]; exact hpth.1, pth_congr (fun x hx => ?_) hpth.2⟩
            exact hsame x (fun e => hn0 (by subst e; simp only [List.mem_cons, List.mem_append]; right; left; exact List.mem_cons.1 hx)) (fun e => hn1 (by subst e; exact List.mem_append_left _ hx))
        · rcases List.mem_cons.1 hB with rfl | hB
          · show f (sw a0 a1 a1) = a1
            rw [sw_b]; exact e01
          · refine okC_congr (fun x hx => ?_) (hc c (by simp [hB]))
            have hxB : x ∈ B.flatten := List.mem_flatten.2 ⟨c, hB, hx⟩
            exact hsame x (fun e => hn0 (by subst e; simp [hxB])) (fun e => hn1 (by subst e; simp [hxB]))) (hperm.nodup_iff.2 hn) (fun x hx => hr x (hperm.mem_iff.1 hx)) (fun x hx => hperm.mem_iff.2 (ha x hx)) (by
      unfold szm at hm ⊢
      simp only [List.map_append, List.map_cons, List.sum_append, List.sum_cons, List.length_cons, List.length_nil] at hm ⊢
      omega)
    have hcomp := iv_comp h (sw_pm h0 h1)
    have hsw := iv_sw h0 h1 hne
    have hsz : szs (A ++ (a0 :: r) :: [a1] :: B) = szs (A ++ (a0 :: a1 :: r) :: B) + 1 := by
      unfold szs
      simp only [List.map_append, List.map_cons, List.sum_append, List.sum_cons, List.length_cons, List.length_nil]
      omega
    omega
/-- The cycles of the program, as natural numbers. -/
theorem orb_okC {s L : Nat} (hL : 0 < L) (hit : it f L s = s) : okC f ((orb f s L).map Int.toNat) := by
  have key : ∀ (m k : Nat), pth f (it f k s) ((List.range' (k + 1) m).map fun j => it f j s) (it f (k + m + 1) s) := by
    intro m
    induction m with
    | zero => intro k; rfl
    | succ m ih =>
      intro k
      rw [List.range'_succ, List.map_cons]
      refine ⟨rfl, ?_⟩
      have := ih (k + 1)
      rwa [show k + 1 + m + 1 = k + (m + 1) + 1 by omega] at this
  obtain ⟨L, rfl⟩ : ∃ L', L = L' + 1 := ⟨L - 1, by omega⟩
  have e : (orb f s (L + 1)).map Int.toNat = it f 0 s :: (List.range' 1 L).map fun j => it f j s := by
    unfold orb
    rw [List.map_map, List.range_eq_range', List.range'_succ]
    simp [Function.comp_def]
  rw [e]
  have := key L 0
  rw [show 0 + L + 1 = L + 1 by omega, hit] at this
  exact this
theorem iv_dec (h : Pm N f g) {cs : List (List Int)} (hd : Dec N f cs) (ha : ∀ j, j < N → (j : Int) ∈ cs.flatten) : iv N f % 2 = (cs.map fun c => c.length + 1).sum % 2 := by
  have hpos : ∀ z ∈ cs.flatten, ∃ k, k < N ∧ z = ((k : Nat) : Int) := fun z hz => by
    obtain ⟨c, hc, hm⟩ := List.mem_flatten.1 hz
    obtain ⟨s, L, h1, h2, h3, rfl⟩ := hd.good c hc
    obtain ⟨k, hk, e⟩ := mem_orb.1 hm
    exact ⟨_, it_lt h h1 k, e⟩
  have hfl : (cs.map fun c => c.map Int.toNat).flatten = cs.flatten.map Int.toNat := (List.map_flatten ..).symm
  have := iv_cycles (N := N) _ (cs := cs.map fun c => c.map Int.toNat) h (fun c hc => by
    obtain ⟨d, hd', rfl⟩ := List.mem_map.1 hc
    obtain ⟨s, L, h1, h2, h3, rfl⟩ := hd.good d hd'
    exact orb_okC h2 h3) (by
    rw [hfl, List.Nodup, List.pairwise_map]
    refine List.Pairwise.imp_of_mem ?_ hd.nd
    intro a b ha hb hab e
    obtain ⟨k, _, rfl⟩ := hpos a ha
    obtain ⟨j, _, rfl⟩ := hpos b hb
    exact hab (by simp at e; rw [e])) (fun x hx => by
    rw [hfl] at hx
    obtain ⟨z, hz, rfl⟩ := List.mem_map.1 hx
    obtain ⟨k, hk, rfl⟩ := hpos z hz
    simpa using hk) (fun x hx => by
    rw [hfl]
    exact List.mem_map.2 ⟨_, ha x hx, by simp⟩) rfl
  rw [this]
  unfold szs
  simp [Function.comp_def]
end
end Gar
end Go.Proofs.Ytmlkiafidahnbaa
