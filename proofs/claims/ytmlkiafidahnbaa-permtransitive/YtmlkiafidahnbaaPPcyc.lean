/- The cycles of a permutation. -/
import Derived.Test.YtmlkiafidahnbaaPPperm
set_option linter.unusedVariables false
set_option linter.unusedSimpArgs false
namespace Go.Proofs.Ytmlkiafidahnbaa
open Ev
namespace Gar
def it (f : Nat → Nat) : Nat → Nat → Nat
  | 0, s => s
  | k + 1, s => f (it f k s)
theorem it_add (f : Nat → Nat) (j k s : Nat) : it f (j + k) s = it f j (it f k s) := by
  induction j with
  | zero => simp [it]
  | succ j ih => rw [Nat.succ_add]; show f _ = f _; rw [ih]
section
variable {N : Nat} {f g : Nat → Nat}
theorem it_lt (h : Pm N f g) {s : Nat} (hs : s < N) (k : Nat) : it f k s < N := by
  induction k with
  | zero => exact hs
  | succ k ih => exact h.lt ih
theorem it_inj (h : Pm N f g) {s t : Nat} (k : Nat) (e : it f k s = it f k t) : s = t := by
  induction k with
  | zero => exact e
  | succ k ih => exact ih (h.inj e)
theorem exists_ord (h : Pm N f g) {s : Nat} (hs : s < N) : ∃ L, (0 < L ∧ it f L s = s) ∧ L ≤ N ∧ ∀ j, j < L → ¬ (0 < j ∧ it f j s = s) := by
  have hex : ∃ L, (0 < L ∧ it f L s = s) ∧ L ≤ N := by
    refine Classical.byContradiction fun hne => ?_
    have hnd : ((List.range (N + 1)).map fun k => it f k s).Nodup := by
      rw [List.Nodup, List.pairwise_map]
      refine List.Pairwise.imp_of_mem ?_ (List.pairwise_lt_range (n := N + 1))
      intro a b ha hb hab e
      rw [List.mem_range] at hb
      refine hne ⟨b - a, ⟨by omega, it_inj h a ?_⟩, by omega⟩
      rw [← it_add, show a + (b - a) = b by omega, e]
    have h2 := (sub_nodup (l2 := List.range N ++ [s]) hnd (fun x hx => by
      obtain ⟨k, _, rfl⟩ := List.mem_map.1 hx
      exact List.mem_append_left _ (List.mem_range.2 (it_lt h hs k))) (by simp)).1
    rw [List.nodup_append] at h2
    exact h2.2.2 s (List.mem_range.2 hs) s (by simp) rfl
  obtain ⟨L, ⟨h1, h2⟩, h3⟩ := count_until.least hex
  exact ⟨L, h1, h2, fun j hj hc => h3 j hj ⟨hc, by omega⟩⟩
def ordN (N : Nat) (f : Nat → Nat) (s : Nat) : Nat := ((List.range (N + 1)).find? fun L => decide (0 < L ∧ it f L s = s)).getD 1
theorem ordN_spec (h : Pm N f g) {s : Nat} (hs : s < N) : 0 < ordN N f s ∧ it f (ordN N f s) s = s ∧ ordN N f s ≤ N ∧ ∀ j, 0 < j → j < ordN N f s → it f j s ≠ s := by
  obtain ⟨L, h1, h2, h3⟩ := exists_ord h hs
  have hf : (List.range (N + 1)).find? (fun L => decide (0 < L ∧ it f L s = s)) = some L := by
    rw [List.find?_range_eq_some]
    exact ⟨decide_eq_true h1, List.mem_range.2 (by omega), fun j hj => by rw [decide_eq_false (h3 j hj)]; rfl⟩
  unfold ordN
  rw [hf]
  exact ⟨h1.1, h1.2, h2, fun j hj hjl e => h3 j hjl ⟨hj, e⟩⟩
def orb (f : Nat → Nat) (s L : Nat) : List Int := (List.range L).map fun k => ((it f k s : Nat) : Int)
theorem orb_succ {s L : Nat} : orb f s (L + 1) = orb f s L ++ [((it f L s : Nat) : Int)] := by simp [orb, List.range_succ]
theorem orb_len {s L : Nat} : (orb f s L).length = L := by simp [orb]
theorem mem_orb {s L : Nat} {z : Int} : z ∈ orb f s L ↔ ∃ k, k < L ∧ z = ((it f k s : Nat) : Int) := by
  simp only [orb, List.mem_map, List.mem_range]
  exact ⟨fun ⟨k, h1, h2⟩ => ⟨k, h1, h2.symm⟩, fun ⟨k, h1, h2⟩ => ⟨k, h1, h2.symm⟩⟩
theorem it_ne (h : Pm N f g) {s L : Nat} (hmin : ∀ j, 0 < j → j < L → it f j s ≠ s) {j k : Nat} (hj : j < k) (hk : k < L) : it f j s ≠ it f k s := fun e => by
  refine hmin (k - j) (by omega) (by omega) (it_inj h j ?_)
  rw [← it_add, show j + (k - j) = k by omega, e]
theorem orb_nodup (h : Pm N f g) {s L : Nat} (hmin : ∀ j, 0 < j → j < L → it f j s ≠ s) : (orb f s L).Nodup := by
  unfold orb
  rw [List.Nodup, List.pairwise_map]
  refine List.Pairwise.imp_of_mem ?_ (List.pairwise_lt_range (n := L))
  intro a b ha hb hab e
  rw [List.mem_range] at hb
  exact it_ne h hmin hab hb (by omega)
/-- Marks on the points. -/
def bl (N : Nat) (P : Nat → Bool) : List Bool := (List.range N).map P
theorem bl_at {P : Nat → Bool} {k : Nat} (h : k < N) : (bl N P)[k]? = some (P k) := by simp [bl, h]
theorem bl_len {P : Nat → Bool} : (bl N P).length = N := by simp [bl]
theorem get_bl {P : Nat → Bool} {k : Nat} (h : k < N) : Ev.get (bl N P) (k : Int) = some (P k) := by rw [get_nat, bl_at h]
theorem bl_ext {P Q : Nat → Bool} (h : ∀ k, k < N → P k = Q k) : bl N P = bl N Q := by
  unfold bl; apply List.map_congr_left; intro k hk; rw [List.mem_range] at hk; exact h k hk
theorem bl_set {P : Nat → Bool} {k : Nat} : (bl N P).set k true = bl N (fun j => if j = k then true else P j) := by
  apply List.ext_getElem?
  intro j
  rw [List.getElem?_set]
  by_cases h : k = j
  · subst h
    rw [if_pos rfl, bl_len]
    by_cases h1 : k < N
    · rw [if_pos h1, bl_at h1, if_pos rfl]
    · rw [if_neg h1, List.getElem?_eq_none (by rw [bl_len]; omega)]
  · rw [if_neg h]
    by_cases h1 : j < N
    · rw [bl_at h1, bl_at h1, if_neg (Ne.symm h)]
    · rw [List.getElem?_eq_none (by rw [bl_len]; omega), List.getElem?_eq_none (by rw [bl_len]; omega)]
def mk (N : Nat) (T : List Int) : List Bool := bl N fun x => decide ((x : Int) ∈ T)
theorem mk_get {T : List Int} {k : Nat} (h : k < N) : Ev.get (mk N T) (k : Int) = some (decide ((k : Int) ∈ T)) := get_bl h
theorem mk_set {T : List Int} {k : Nat} : (mk N T).set k true = mk N (T ++ [(k : Int)]) := by
  unfold mk
  rw [bl_set]
  apply bl_ext
  intro j hj
  by_cases e : j = k
  · subst e; simp
  · rw [if_neg e]
    by_cases h : (j : Int) ∈ T
    · simp [h]
    · simp [h]; omega
theorem mk_nil : List.replicate N false = mk N [] := by
  apply List.ext_getElem?
  intro j
  by_cases h : j < N
  · unfold mk; rw [bl_at h]; simp [h]
  · rw [List.getElem?_eq_none (by simp; omega), List.getElem?_eq_none (by unfold mk; rw [bl_len]; omega)]
def Closed (N : Nat) (f : Nat → Nat) (T : List Int) : Prop := ∀ x, x < N → (((f x : Nat) : Int) ∈ T ↔ (x : Int) ∈ T)
theorem it_out (h : Pm N f g) {T : List Int} (hc : Closed N f T) {s : Nat} (hs : s < N) (hT : (s : Int) ∉ T) (k : Nat) : ((it f k s : Nat) : Int) ∉ T := by
  induction k with
  | zero => exact hT
  | succ k ih => exact fun hm => ih ((hc _ (it_lt h hs k)).1 hm)
theorem cyc_inner (h : Pm N f g) (hN : N ≤ 1000) {s L : Nat} (hs : s < N) (hL : 0 < L) (hLN : L ≤ N) (hit : it f L s = s) (hmin : ∀ j, 0 < j → j < L → it f j s ≠ s) {T : List Int} (hT : (s : Int) ∉ T) (hc : Closed N f T) (n m : Nat) (hm : L < m) :
    loopN m (F.perm_Cycles_b1 n (li N f)) ([], (s : Int), mk N T) = some (orb f s L, (s : Int), mk N (T ++ orb f s L)) := by
  have := count_loop (body := F.perm_Cycles_b1 n (li N f)) (fun k => (orb f s k, ((it f k s : Nat) : Int), mk N (T ++ orb f s k))) L (r := (orb f s L, (s : Int), mk N (T ++ orb f s L))) (fun k hk => by
    unfold F.perm_Cycles_b1
    dsimp only
    have hlt := it_lt h hs k
    have hno : ((it f k s : Nat) : Int) ∉ T ++ orb f s k := fun hm => by
      rcases List.mem_append.1 hm with h1 | h1
      · exact it_out h hc hs hT k h1
      · obtain ⟨j, hj, e⟩ := mem_orb.1 h1
        exact it_ne h hmin hj hk (by omega)
    rw [mk_get hlt, Option.bind_some, decide_eq_false hno, Bool.not_false, cond_true, Option.bind_some, lim_ok (by rw [orb_len]; simp; omega), Option.bind_some, get_li (by omega) (by omega), Option.bind_some, Int.toNat_natCast, mk_set, List.append_assoc, ← orb_succ]
    rfl) (by
    unfold F.perm_Cycles_b1
    dsimp only
    rw [mk_get (it_lt h hs L), Option.bind_some, decide_eq_true (List.mem_append_right _ (mem_orb.2 ⟨0, hL, by rw [hit]; rfl⟩)), Bool.not_true, cond_false, hit]) m hm
  have e : (([] : List Int), (s : Int), mk N T) = (orb f s 0, ((it f 0 s : Nat) : Int), mk N (T ++ orb f s 0)) := by simp [orb, it]
  rw [e, this]
/-- Cycles, and no point twice. -/
structure Dec (N : Nat) (f : Nat → Nat) (cs : List (List Int)) : Prop where
  good : ∀ c ∈ cs, ∃ s L, s < N ∧ 0 < L ∧ it f L s = s ∧ c = orb f s L
  nd : cs.flatten.Nodup
theorem Dec.closed (h : Pm N f g) {cs : List (List Int)} (hd : Dec N f cs) : Closed N f cs.flatten := by
  intro x hx
  constructor
  · intro hm
    obtain ⟨c, hc, hm⟩ := List.mem_flatten.1 hm
    obtain ⟨s, L, h1, h2, h3, rfl⟩ := hd.good c hc
    obtain ⟨k, hk, e⟩ := mem_orb.1 hm
    refine List.mem_flatten.2 ⟨_, hc, mem_orb.2 ?_⟩
    cases k with
    | zero =>
      refine ⟨L - 1, by omega, ?_⟩
      have e2 : f x = f (it f (L - 1) s) := by
        show f x = it f (L - 1 + 1) s
        rw [show L - 1 + 1 = L by omega, h3]
        have : ((f x : Nat) : Int) = ((s : Nat) : Int) := e
        omega
      rw [h.inj e2]
    | succ k =>
      refine ⟨k, by omega, ?_⟩
      have e2 : f x = f (it f k s) := by
        have : ((f x : Nat) : Int) = ((f (it f k s) : Nat) : Int) := e
        omega
      rw [h.inj e2]
  · intro hm
    obtain ⟨c, hc, hm⟩ := List.mem_flatten.1 hm
    obtain ⟨s, L, h1, h2, h3, rfl⟩ := hd.good c hc
    obtain ⟨k, hk, e⟩ := mem_orb.1 hm
    refine List.mem_flatten.2 ⟨_, hc, mem_orb.2 ?_⟩
    have e0 : x = it f k s := by omega
    by_cases hl : k + 1 = L
    · exact ⟨0, h2, by rw [e0]; show ((it f (k + 1) s : Nat) : Int) = _; rw [hl, h3]; rfl⟩
    · exact ⟨k + 1, by omega, by rw [e0]; rfl⟩
def cyc (N : Nat) (f : Nat → Nat) : Nat → List (List Int)
  | 0 => []
  | k + 1 => if (k : Int) ∈ (cyc N f k).flatten then cyc N f k else cyc N f k ++ [orb f k (ordN N f k)]
theorem cyc_dec (h : Pm N f g) : ∀ k, k ≤ N → Dec N f (cyc N f k) ∧ (∀ j, j < k → (j : Int) ∈ (cyc N f k).flatten) ∧ (cyc N f k).length ≤ k
  | 0, _ => ⟨⟨by simp [cyc], by simp [cyc]⟩, by omega, by simp [cyc]⟩
  | k + 1, hk => by
    obtain ⟨h1, h2, h3⟩ := cyc_dec h k (by omega)
    unfold cyc
    by_cases hm : (k : Int) ∈ (cyc N f k).flatten
    · rw [if_pos hm]
      refine ⟨h1, fun j hj => ?_, by omega⟩
      by_cases e : j = k
      · subst e; exact hm
      · exact h2 j (by omega)
    · rw [if_neg hm]
      obtain ⟨o1, o2, o3, o4⟩ := ordN_spec h (show k < N by omega)
      refine ⟨⟨fun c hc => ?_, ?_⟩, fun j hj => ?_, by simp; omega⟩
      · rcases List.mem_append.1 hc with hc | hc
        · exact h1.good c hc
        · rw [List.mem_singleton] at hc
          exact ⟨k, _, by omega, o1, o2, hc⟩
      · rw [List.flatten_append, List.nodup_append]
        refine ⟨h1.nd, by simpa using orb_nodup h o4, fun a ha b hb e => ?_⟩
        subst e
        simp only [List.flatten_cons, List.flatten_nil, List.append_nil] at hb
        obtain ⟨j, hj, rfl⟩ := mem_orb.1 hb
        exact it_out h (h1.closed h) (by omega) hm j ha
      · rw [List.flatten_append]
        by_cases e : j = k
        · subst e
          exact List.mem_append_right _ (by simp only [List.flatten_cons, List.flatten_nil, List.append_nil]; exact mem_orb.2 ⟨0, o1, rfl⟩)
        · exact List.mem_append_left _ (h2 j (by omega))
theorem cyc_loop (h : Pm N f g) (hN : N ≤ 1000) (n : Nat) (hn : N < n) : loopN n (F.perm_Cycles_b0 n (li N f)) (([] : List (List Int)), 0, List.replicate N false) = some (cyc N f N, (N : Int), mk N (cyc N f N).flatten) := by
  have := count_loop (body := F.perm_Cycles_b0 n (li N f)) (fun k => (cyc N f k, (k : Int), mk N (cyc N f k).flatten)) N (r := (cyc N f N, (N : Int), mk N (cyc N f N).flatten)) (fun k hk => by
    unfold F.perm_Cycles_b0
    dsimp only
    obtain ⟨h1, h2, h3⟩ := cyc_dec h k (by omega)
    rw [li_len, decide_eq_true (by omega), cond_true]
    by_cases hm : (k : Int) ∈ (cyc N f k).flatten
    · have e : loopN n (F.perm_Cycles_b1 n (li N f)) ([], (k : Int), mk N (cyc N f k).flatten) = some ([], (k : Int), mk N (cyc N f k).flatten) := by
        obtain ⟨n', rfl⟩ : ∃ n', n = n' + 1 := ⟨n - 1, by omega⟩
        rw [loopN]
        unfold F.perm_Cycles_b1
        dsimp only
        rw [mk_get hk, Option.bind_some, decide_eq_true hm, Bool.not_true, cond_false]
        rfl
      rw [e, Option.bind_some]
      dsimp only
      rw [decide_eq_false (by simp), cond_false, chk_ok (by omega) (by omega), Option.bind_some]
      have e2 : cyc N f (k + 1) = cyc N f k := by
        conv => lhs; unfold cyc
        rw [if_pos hm]
      rw [e2]; rfl
    · obtain ⟨o1, o2, o3, o4⟩ := ordN_spec h hk
      rw [cyc_inner h hN hk o1 o3 o2 o4 hm (h1.closed h) n n (by omega), Option.bind_some]
      dsimp only
      rw [decide_eq_true (by rw [orb_len]; omega), cond_true, lim_ok (by simp; omega), Option.bind_some, chk_ok (by omega) (by omega), Option.bind_some]
      have e2 : cyc N f (k + 1) = cyc N f k ++ [orb f k (ordN N f k)] := by
        conv => lhs; unfold cyc
        rw [if_neg hm]
      rw [e2, List.flatten_append]
      simp) (by
    unfold F.perm_Cycles_b0
    dsimp only
    rw [li_len, decide_eq_false (by omega)]; rfl) n hn
  rw [mk_nil]
  exact this
theorem cycles_eq (h : Pm N f g) (hN : N ≤ 1000) (n : Nat) (hn : N < n) : F.perm_Cycles n (li N f) = some (cyc N f N) := by
  unfold F.perm_Cycles
  rw [permValid_li h n hn hN, Option.bind_some, Bool.not_true, cond_false, pos_ok (by omega) (by rw [li_len]; omega), Option.bind_some, li_len, show ((N : Int)).toNat = N by omega, cyc_loop h hN n hn, Option.bind_some]
theorem refCycles_eq (h : Pm N f g) (hN : N ≤ 1000) (n : Nat) (hn : N < n) : F.ref30_Cycles n (li N f) = some (cyc N f N) := by
  have e : F.ref30_Cycles_b0 n (li N f) = F.perm_Cycles_b0 n (li N f) := rfl
  unfold F.ref30_Cycles
  rw [e, pos_ok (by omega) (by rw [li_len]; omega), Option.bind_some, li_len, show ((N : Int)).toNat = N by omega, cyc_loop h hN n hn, Option.bind_some]
end
end Gar
end Go.Proofs.Ytmlkiafidahnbaa
