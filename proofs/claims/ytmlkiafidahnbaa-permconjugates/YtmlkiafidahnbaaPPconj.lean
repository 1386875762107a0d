/- Conjugates: their types, their signs, and the plain law of PermConjugates. -/
import Derived.Test.YtmlkiafidahnbaaPPtells
set_option linter.unusedVariables false
set_option linter.unusedSimpArgs false
namespace Go.Proofs.Ytmlkiafidahnbaa
open Ev
namespace Gar
section
variable {N : Nat} {f g : Nat → Nat}
theorem ordN_uniq (h : Pm N f g) {x L : Nat} (hx : x < N) (h1 : 0 < L) (h2 : it f L x = x) (h3 : ∀ j, 0 < j → j < L → it f j x ≠ x) : ordN N f x = L := by
  obtain ⟨o1, o2, o3, o4⟩ := ordN_spec h hx
  rcases Nat.lt_or_ge (ordN N f x) L with h4 | h4
  · exact absurd o2 (h3 _ o1 h4)
  · rcases Nat.lt_or_ge L (ordN N f x) with h5 | h5
    · exact absurd h2 (o4 _ h1 h5)
    · omega
theorem ord_in (h : Pm N f g) {s L : Nat} (hs : s < N) (hL : 0 < L) (hit : it f L s = s) (hnd : (orb f s L).Nodup) : ∀ z ∈ orb f s L, ordN N f z.toNat = L := by
  intro z hz
  obtain ⟨k, hk, rfl⟩ := mem_orb.1 hz
  rw [Int.toNat_natCast]
  refine ordN_uniq h (it_lt h hs k) hL (by rw [← it_add, Nat.add_comm, it_add, hit]) fun j hj0 hjL e => ?_
  rw [← it_add, Nat.add_comm, it_add] at e
  have e2 := it_inj h k e
  unfold orb at hnd
  rw [List.Nodup, List.pairwise_map] at hnd
  have := List.pairwise_iff_getElem.1 hnd 0 j (by simpa using hL) (by simpa using hjL) hj0
  simp only [List.getElem_range] at this
  exact this (by rw [e2]; rfl)
theorem count_dec (h : Pm N f g) (L : Nat) : ∀ (cs : List (List Int)), (∀ c ∈ cs, ∃ s M, s < N ∧ 0 < M ∧ it f M s = s ∧ c = orb f s M ∧ c.Nodup) → cs.flatten.countP (fun z => decide (ordN N f z.toNat = L)) = (lens cs).count (L : Int) * L
  | [], _ => by simp [lens]
  | c :: cs, hc => by
    have ih := count_dec h L cs fun d hd => hc d (by simp [hd])
    obtain ⟨s, M, h1, h2, h3, h4, h5⟩ := hc c (by simp)
    subst h4
    have ho := ord_in h h1 h2 h3 h5
    rw [List.flatten_cons, List.countP_append, ih]
    unfold lens
    rw [List.map_cons, List.count_cons, orb_len]
    by_cases e : M = L
    · subst e
      rw [if_pos (by simp), Nat.add_mul, Nat.one_mul, Nat.add_comm]
      congr 1
      rw [List.countP_eq_length.2 (fun z hz => decide_eq_true (ho z hz)), orb_len]
    · rw [if_neg (by simp; omega), Nat.add_zero, List.countP_eq_zero.2 (fun z hz => by simp [ho z hz, e]), Nat.zero_add]
theorem flat_perm (h : Pm N f g) {cs : List (List Int)} (hd : Dec N f cs) (ha : ∀ j, j < N → (j : Int) ∈ cs.flatten) : cs.flatten.Perm ((List.range N).map fun k : Nat => (k : Int)) := by
  have hr : ((List.range N).map fun k : Nat => (k : Int)).Nodup := by
    unfold List.Nodup
    rw [List.pairwise_map]
    exact List.Pairwise.imp (fun h e => h (by omega)) List.nodup_range
  rw [List.perm_ext_iff_of_nodup hd.nd hr]
  intro z
  constructor
  · intro hz
    obtain ⟨c, hc, hm⟩ := List.mem_flatten.1 hz
    obtain ⟨s, L, h1, h2, h3, rfl⟩ := hd.good c hc
    obtain ⟨k, hk, rfl⟩ := mem_orb.1 hm
    exact List.mem_map.2 ⟨_, List.mem_range.2 (it_lt h h1 k), rfl⟩
  · intro hz
    obtain ⟨k, hk, rfl⟩ := List.mem_map.1 hz
    exact ha k (List.mem_range.1 hk)
theorem lens_count (h : Pm N f g) (L : Nat) : (lens (cyc N f N)).count (L : Int) * L = (List.range N).countP fun x => decide (ordN N f x = L) := by
  obtain ⟨h1, h2, h3⟩ := cyc_dec h N (Nat.le_refl N)
  rw [← count_dec h L _ (fun c hc => by
    obtain ⟨s, M, k1, k2, k3, k4⟩ := h1.good c hc
    exact ⟨s, M, k1, k2, k3, k4, (List.sublist_flatten_of_mem hc).nodup h1.nd⟩), (flat_perm h h1 h2).countP_eq, List.countP_map]
  rfl
/-- The conjugate of f under f'. -/
theorem it_conj {f' g' : Nat → Nat} (h' : Pm N f' g') (k x : Nat) : it (fun k => f' (f (g' k))) k (f' x) = f' (it f k x) := by
  induction k with
  | zero => rfl
  | succ k ih => show f' (f (g' (it _ k (f' x)))) = f' (f (it f k x)); rw [ih, h'.gf]
theorem conj_pm {f' g' : Nat → Nat} (h : Pm N f g) (h' : Pm N f' g') : Pm N (fun k => f' (f (g' k))) (fun k => f' (g (g' k))) := h'.comp (h.comp h'.symm)
theorem ord_conj {f' g' : Nat → Nat} (h : Pm N f g) (h' : Pm N f' g') {x : Nat} (hx : x < N) : ordN N (fun k => f' (f (g' k))) (f' x) = ordN N f x := by
  obtain ⟨o1, o2, o3, o4⟩ := ordN_spec h hx
  refine ordN_uniq (conj_pm h h') (h'.lt hx) o1 (by rw [it_conj h', o2]) fun j h1 h2 e => ?_
  rw [it_conj h'] at e
  exact o4 j h1 h2 (h'.inj e)
theorem range_perm {f' g' : Nat → Nat} (h' : Pm N f' g') : ((List.range N).map f').Perm (List.range N) := by
  have hn : ((List.range N).map f').Nodup := by
    unfold List.Nodup
    rw [List.pairwise_map]
    exact List.Pairwise.imp (fun h e => h (h'.inj e)) List.nodup_range
  rw [List.perm_ext_iff_of_nodup hn List.nodup_range]
  intro z
  rw [List.mem_map, List.mem_range]
  constructor
  · rintro ⟨k, hk, rfl⟩
    exact h'.lt (List.mem_range.1 hk)
  · intro hz
    exact ⟨g' z, List.mem_range.2 (h'.symm.lt hz), h'.fg z⟩
theorem lens_conj {f' g' : Nat → Nat} (h : Pm N f g) (h' : Pm N f' g') : (lens (cyc N (fun k => f' (f (g' k))) N)).Perm (lens (cyc N f N)) := by
  have hc := conj_pm h h'
  have pos : ∀ {f g : Nat → Nat}, Pm N f g → ∀ a : Int, a ≤ 0 → (lens (cyc N f N)).count a = 0 := fun h a ha => by
    rw [List.count_eq_zero]
    intro hm
    obtain ⟨c, hc, e⟩ := List.mem_map.1 hm
    have := cyc_len h N (Nat.le_refl N) c hc
    omega
  rw [List.perm_iff_count]
  intro a
  by_cases ha : a ≤ 0
  · rw [pos hc a ha, pos h a ha]
  obtain ⟨L, rfl⟩ : ∃ L : Nat, a = (L : Int) := ⟨a.toNat, by omega⟩
  have h1 := lens_count hc L
  have h2 := lens_count h L
  have h3 : (List.range N).countP (fun x => decide (ordN N (fun k => f' (f (g' k))) x = L)) = (List.range N).countP fun x => decide (ordN N f x = L) := by
    rw [← (range_perm h').countP_eq, List.countP_map]
    refine List.countP_congr fun x hx => ?_
    simp only [Function.comp_def, decide_eq_true_eq]
    rw [ord_conj h h' (List.mem_range.1 hx)]
  rw [h3, ← h2] at h1
  exact Nat.eq_of_mul_eq_mul_right (by omega) h1
theorem iv_conj {f' g' : Nat → Nat} (h : Pm N f g) (h' : Pm N f' g') : iv N (fun k => f' (f (g' k))) % 2 = iv N f % 2 := by
  have h1 := iv_comp h' (h.comp h'.symm)
  have h2 := iv_comp h h'.symm
  have h3 := iv_comp h' h'.symm
  have e : (fun k => f' (g' k)) = fun k => k := by funext k; exact h'.fg k
  rw [e, iv_id] at h3
  omega
theorem conj_b1 {f' g' : Nat → Nat} (h : Pm N f g) (h' : Pm N f' g') (hN : N ≤ 1000) {s L : Nat} (hs : s < N) (hL : 0 < L) (hLN : L ≤ 1000) (hit : it f L s = s) : loopN 200000000 (F.law30_PermConjugates_b1 200000000 (li N f') (li N (fun k => f' (f (g' k))), 0) (orb f s L)) 0 = some (.inl (L : Int)) := by
  have hat : ∀ i, i < L → (orb f s L)[i]? = some ((it f i s : Nat) : Int) := fun i hi => by
    unfold orb; rw [List.getElem?_map, List.getElem?_range hi]; rfl
  exact count_loop (body := F.law30_PermConjugates_b1 200000000 (li N f') (li N (fun k => f' (f (g' k))), 0) (orb f s L)) (fun k => (k : Int)) L (fun k hk => by
    unfold F.law30_PermConjugates_b1
    dsimp only
    have hlt := it_lt h hs k
    have hlt' := h'.lt hlt
    have hnext : it f ((k + 1) % L) s = f (it f k s) := by
      by_cases e : k + 1 = L
      · have e2 : it f (k + 1) s = s := by rw [e, hit]
        rw [e, Nat.mod_self]
        exact e2.symm
      · rw [Nat.mod_eq_of_lt (by omega)]; rfl
    have hmod : Int.tmod ((k : Int) + 1) (L : Int) = (((k + 1) % L : Nat) : Int) := by
      rw [Int.tmod_eq_emod_of_nonneg (by omega), show ((k : Int) + 1) = ((k + 1 : Nat) : Int) by omega]
      exact (Int.natCast_emod _ _).symm
    have hlt2 := it_lt h hs ((k + 1) % L)
    rw [orb_len, decide_eq_true (by omega), cond_true, get_at rfl (hat k hk), Option.bind_some, get_li (by omega) (by omega), Option.bind_some, Int.toNat_natCast, get_li (by omega) (by omega), Option.bind_some, Int.toNat_natCast, chk_ok (by omega) (by omega), Option.bind_some, nz_ok (by omega), Option.bind_some, hmod,
      get_at rfl (hat _ (Nat.mod_lt _ hL)), Option.bind_some, get_li (by omega) (by omega), Option.bind_some, Int.toNat_natCast, h'.gf, hnext, decide_eq_true rfl, Bool.not_true, cond_false, Option.bind_some]
    rfl) (by
    unfold F.law30_PermConjugates_b1
    dsimp only
    rw [orb_len, decide_eq_false (by omega)]; rfl) 200000000 (by omega)
theorem conj_b0 {f' g' : Nat → Nat} (h : Pm N f g) (h' : Pm N f' g') (hN : N ≤ 1000) : loopN 200000000 (F.law30_PermConjugates_b0 200000000 (li N f') (li N (fun k => f' (f (g' k))), 0) (cyc N f N)) 0 = some (.inl ((cyc N f N).length : Int)) := by
  obtain ⟨h1, h2, h3⟩ := cyc_dec h N (Nat.le_refl N)
  exact count_loop (body := F.law30_PermConjugates_b0 200000000 (li N f') (li N (fun k => f' (f (g' k))), 0) (cyc N f N)) (fun k => (k : Int)) (cyc N f N).length (fun k hk => by
    have ka : (cyc N f N)[k]? = some ((cyc N f N)[k]'hk) := List.getElem?_eq_getElem _
    have hm : (cyc N f N)[k]'hk ∈ cyc N f N := List.getElem_mem _
    have hl := cyc_len h N (Nat.le_refl N) _ hm
    obtain ⟨s, L, k1, k2, k3, k4⟩ := h1.good _ hm
    rw [k4] at ka hl
    rw [orb_len] at hl
    unfold F.law30_PermConjugates_b0
    dsimp only
    rw [decide_eq_true (by omega), cond_true, get_at rfl ka, Option.bind_some, conj_b1 h h' hN k1 k2 (by omega) k3, Option.bind_some]
    dsimp only
    rw [chk_ok (by omega) (by omega)]; rfl) (by
    unfold F.law30_PermConjugates_b0
    dsimp only
    rw [decide_eq_false (by omega)]; rfl) 200000000 (by omega)
end
end Gar
open Gar in
theorem law30_PermConjugates_true (x0 x1 : List Int) (o0 : Ev.Sh.ok (.sl (.int .i64)) x0) (o1 : Ev.Sh.ok (.sl (.int .i64)) x1) : ∃ n, F.law30_PermConjugates n x0 x1 = some true := by
  refine ⟨200000000, ?_⟩
  unfold F.law30_PermConjugates
  rw [awake30, Option.bind_some, Bool.not_true, cond_false]
  by_cases h1 : 30 < (x0.length : Int)
  · rw [decide_eq_true h1]; rfl
  rw [decide_eq_false h1, cond_false]
  by_cases h2 : (x1.length : Int) = (x0.length : Int)
  case neg => rw [decide_eq_false h2]; rfl
  rw [decide_eq_true h2, Bool.not_true, cond_false]
  rcases perm_cases (p := x0) 200000000 (by omega) (by decide) with ⟨hv, f, g, hp, he⟩ | ⟨hv, _⟩
  case inr => rw [hv]; rfl
  rw [hv, Option.bind_some, Bool.not_true, cond_false]
  rcases perm_cases (p := x1) 200000000 (by omega) (by decide) with ⟨hw, f', g', hp', he'⟩ | ⟨hw, _⟩
  case inr => rw [hw]; rfl
  rw [hw, Option.bind_some, Bool.not_true, cond_false]
  have e1 : x1.length = x0.length := by omega
  rw [e1] at hp' he'
  generalize hN : x0.length = N at hp he hp' he' h1
  have hi : F.perm_Inverse 200000000 x1 = some (li N g') := by rw [he']; exact permInverse hp' _ (by omega) (by omega)
  have m1 : F.perm_Mul 200000000 (li N g') x0 = some (li N (fun k => f (g' k)), 0) := by rw [he]; exact mul_eq hp'.symm hp _ (by omega) (by omega)
  have m2 : F.perm_Mul 200000000 (li N (fun k => f (g' k))) x1 = some (li N (fun k => f' (f (g' k))), 0) := by rw [he']; exact mul_eq (hp.comp hp'.symm) hp' _ (by omega) (by omega)
  have hc := conj_pm hp hp'
  have hd := dsc_of_perm (lens_conj hp hp') N
  have t1 : F.perm_Type 200000000 (li N (fun k => f' (f (g' k)))) = some (dsc (lens (cyc N f N)) N) := by rw [type_eq hc (by omega) _ (by decide), hd]
  have t2 : F.perm_Type 200000000 x0 = some (dsc (lens (cyc N f N)) N) := by rw [he]; exact type_eq hp (by omega) _ (by decide)
  have s1 : F.perm_Sign 200000000 (li N (fun k => f' (f (g' k)))) = some (sg (iv N f)) := by rw [sign_eq hc (by omega) _ (by decide), sg_of (iv_conj hp hp')]
  have s2 : F.perm_Sign 200000000 x0 = some (sg (iv N f)) := by rw [he]; exact sign_eq hp (by omega) _ (by decide)
  have c1 : F.perm_Cycles 200000000 x0 = some (cyc N f N) := by rw [he]; exact cycles_eq hp (by omega) _ (by omega)
  have hl : (dsc (lens (cyc N f N)) N).length ≤ 1000 := by
    have hc := (cyc_dec hp N (Nat.le_refl N)).2.2
    have hle := cyc_len hp N (Nat.le_refl N)
    rw [(dsc_perm fun x hx => by
      obtain ⟨c, hc, rfl⟩ := List.mem_map.1 hx
      have := hle c hc
      omega : (dsc (lens (cyc N f N)) N).Perm _).length_eq]
    unfold lens
    rw [List.length_map]
    omega
  rw [hi, Option.bind_some, m1, Option.bind_some]
  dsimp only
  rw [m2, Option.bind_some, decide_eq_true (rfl : (0 : Int) = 0), Bool.not_true, cond_false, cond_false]
  dsimp only
  rw [t1, Option.bind_some, t2, Option.bind_some, equalZ _ (by omega) (by omega), Option.bind_some, decide_eq_true rfl, Bool.not_true, cond_false, s1, Option.bind_some, s2, Option.bind_some, decide_eq_true rfl, Bool.not_true, cond_false, c1, Option.bind_some, he', conj_b0 hp hp' (by omega), Option.bind_some]
end Go.Proofs.Ytmlkiafidahnbaa
