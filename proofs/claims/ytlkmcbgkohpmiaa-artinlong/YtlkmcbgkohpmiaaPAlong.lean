/- The plain law of ArtinLong. -/
import Derived.Test.YtlkmcbgkohpmiaaPAtriv
set_option linter.unusedVariables false
set_option linter.unusedSimpArgs false
namespace Go.Proofs.Ytlkmcbgkohpmiaa
open Ev
namespace Gar
/-! Words that are computed. -/
def psh : List Int → List Int → List Int
  | [], st => st
  | y :: ys, [] => psh ys [y]
  | y :: ys, t :: r => bif decide (t = -y) then psh ys r else psh ys (y :: t :: r)
def frd (u : List Int) : List Int := (psh u []).reverse
def lgr : Nat → List Int → Bool
  | _, [] => false
  | 0, _ :: _ => true
  | k + 1, _ :: t => lgr k t
def fful : List Int → List Int → Bool
  | [], u => lgr 20000 u
  | x :: w, u => cond (lgr 20000 u) true (fful w (frd (isub x u)))
def ffact : List Int → List Int → List Int
  | [], u => u
  | x :: w, u => ffact w (frd (isub x u))
def wl : Nat → List Int
  | 0 => []
  | k + 1 => 1 :: -2 :: wl k
theorem psh_eq : ∀ (ys st : List Int), Irdc st.reverse → (psh ys st).reverse = ird (st.reverse ++ ys)
  | [], st, h => by rw [List.append_nil, ird_of h]; rfl
  | y :: ys, [], h => by
    show (psh ys [y]).reverse = _
    rw [psh_eq ys [y] trivial]; rfl
  | y :: ys, t :: r, h => by
    rw [List.reverse_cons] at h
    show (bif decide (t = -y) then psh ys r else psh ys (y :: t :: r)).reverse = _
    by_cases e : t = -y
    · rw [decide_eq_true e, cond_true, psh_eq ys r h.pre, List.reverse_cons, List.append_assoc]
      exact (ird_cancel _ _ _ _ e).symm
    · rw [decide_eq_false e, cond_false, psh_eq ys (y :: t :: r) (by rw [List.reverse_cons, List.reverse_cons]; exact h.snoc e), List.reverse_cons (a := y), List.append_assoc]
      rfl
theorem frd_eq (u : List Int) : frd u = ird u := psh_eq u [] trivial
theorem lgr_eq : ∀ (k : Nat) (u : List Int), lgr k u = decide (k < u.length)
  | k, [] => by simp [lgr]
  | 0, _ :: _ => by simp [lgr]
  | k + 1, _ :: t => by
    show lgr k t = _
    rw [lgr_eq k t]
    by_cases h : k < t.length
    · rw [decide_eq_true h, decide_eq_true (by simp; omega)]
    · rw [decide_eq_false h, decide_eq_false (by simp; omega)]
theorem fful_eq : ∀ (w u : List Int), fful w u = afull w u
  | [], u => lgr_eq _ _
  | x :: w, u => by
    show cond (lgr 20000 u) true (fful w (frd (isub x u))) = _
    rw [lgr_eq, frd_eq, fful_eq]
    by_cases h : 20000 < u.length
    · rw [decide_eq_true h, afull_true h]; rfl
    · rw [decide_eq_false h, afull_cons h]; rfl
theorem ffact_eq : ∀ (w u : List Int), ffact w u = fact w u
  | [], u => rfl
  | x :: w, u => by
    show ffact w (frd (isub x u)) = _
    rw [frd_eq, ffact_eq]; rfl
theorem full9 : ((fful (wl 9) [1] || fful (wl 9) [2]) || fful (wl 9) [3]) = false := by decide +kernel
theorem full10 : fful (wl 10) [1] = true := by decide +kernel
theorem long9 : ((List.range 9).all fun t => lgr 1 (ffact (wl (t + 1)) [1])) = true := by decide +kernel
theorem comp9 : ((List.range 9).all fun t => ((F.perm_Cycles 10000000000 (li 3 (pmw (wl (t + 1))))).bind fun y => loopN 10000000000 (F.artin_Group_b0 10000000000 y) (0, List.replicate (3 : Int).toNat (0 : Int))).isSome) = true := by decide +kernel
theorem afull_app : ∀ (w v u : List Int), afull w u = true → afull (w ++ v) u = true
  | [], v, u, h => afull_true (of_decide_eq_true h)
  | x :: w, v, u, h => by
    by_cases hl : 20000 < u.length
    · exact afull_true hl
    · rw [afull_cons hl] at h
      rw [List.cons_append, afull_cons hl]
      exact afull_app w v _ h
theorem wl_add : ∀ k m, wl (k + m) = wl k ++ wl m
  | 0, m => by rw [Nat.zero_add]; rfl
  | k + 1, m => by
    rw [show k + 1 + m = (k + m) + 1 by omega]
    show 1 :: -2 :: wl (k + m) = 1 :: -2 :: (wl k ++ wl m)
    rw [wl_add k m]
theorem wl_rg (k : Nat) : Rg 3 (wl k) := by
  induction k with
  | zero => intro x hx; cases hx
  | succ k ih =>
    intro x hx
    rcases List.mem_cons.1 hx with h | h
    · omega
    · rcases List.mem_cons.1 h with h | h
      · omega
      · exact ih x h
theorem wl_len (k : Nat) : (wl k).length = 2 * k := by
  induction k with
  | zero => rfl
  | succ k ih => show (wl k).length + 1 + 1 = _; omega
theorem wl_full {k : Nat} : fullA 3 (wl k) = decide (10 ≤ k) := by
  by_cases h : 10 ≤ k
  · rw [decide_eq_true h]
    obtain ⟨m, rfl⟩ : ∃ m, k = 10 + m := ⟨k - 10, by omega⟩
    rw [wl_add]
    have h1 : afull (wl 10 ++ wl m) [1] = true := afull_app _ _ _ (by rw [← fful_eq]; exact full10)
    unfold fullA
    exact List.any_eq_true.2 ⟨0, by simp, h1⟩
  · rw [decide_eq_false h]
    have h9 := full9
    rw [Bool.or_eq_false_iff, Bool.or_eq_false_iff] at h9
    obtain ⟨⟨f1, f2⟩, f3⟩ := h9
    rw [fful_eq] at f1 f2 f3
    have key : ∀ u, afull (wl 9) u = false → afull (wl k) u = false := fun u hu => by
      rw [Bool.eq_false_iff]
      intro ht
      have := afull_app (wl k) (wl (9 - k)) u ht
      rw [← wl_add, show k + (9 - k) = 9 by omega, hu] at this
      cases this
    unfold fullA
    rw [List.any_eq_false]
    intro j hj
    have hj3 := List.mem_range.1 hj
    rw [Bool.not_eq_true]
    have : j = 0 ∨ j = 1 ∨ j = 2 := by omega
    rcases this with rfl | rfl | rfl
    · exact key _ f1
    · exact key _ f2
    · exact key _ f3
theorem wl_triv {k : Nat} (h1 : 1 ≤ k) : trivA 3 (wl k) = false := by
  unfold trivA
  rw [wl_full]
  by_cases h : 10 ≤ k
  · rw [decide_eq_true h]; rfl
  · rw [decide_eq_false h, Bool.not_false, Bool.true_and]
    have := List.all_eq_true.1 long9 (k - 1) (List.mem_range.2 (by omega))
    rw [Nat.sub_add_cancel h1, ffact_eq, lgr_eq] at this
    have hl := of_decide_eq_true this
    rw [Bool.eq_false_iff]
    intro ha
    have h2 := of_decide_eq_true (List.all_eq_true.1 ha 0 (List.mem_range.2 (by omega)))
    have h3 : fact (wl k) [1] = [1] := h2
    rw [h3] at hl
    simp at hl
theorem wordMul2 {u : List Int} {x : Int} (hu : Irdc u) (hs : Sm u) (hx : -1000 ≤ x ∧ x ≤ 1000) (hl : u.length ≤ 30000) (n : Nat) (hn : 1000000 ≤ n) : ∃ y, F.word_Mul n [u, [x]] = some y := by
  obtain ⟨n', rfl⟩ : ∃ n', n = n' + 1 + 1 + 1 := ⟨n - 3, by omega⟩
  refine ⟨ird (u ++ [x]), ?_⟩
  unfold F.word_Mul
  have b0 : F.word_Mul_b0 (n' + 1 + 1 + 1) [u, [x]] ([], 0) = some (.inl (u, 1)) := by
    unfold F.word_Mul_b0
    dsimp only
    rw [decide_eq_true (by simp), cond_true, show Ev.get [u, [x]] 0 = some u from rfl, Option.bind_some, wordPush (st := []) trivial hs (by simp; omega) _ (by omega), Option.bind_some, List.nil_append, ird_of hu]
    rfl
  have b1 : F.word_Mul_b0 (n' + 1 + 1 + 1) [u, [x]] (u, 1) = some (.inl (ird (u ++ [x]), 2)) := by
    unfold F.word_Mul_b0
    dsimp only
    rw [decide_eq_true (by simp), cond_true, show Ev.get [u, [x]] 1 = some [x] from rfl, Option.bind_some, wordPush hu (fun y hy => by rw [List.mem_singleton] at hy; subst hy; exact hx) (by simp; omega) _ (by simp), Option.bind_some]
    rfl
  have b2 : F.word_Mul_b0 (n' + 1 + 1 + 1) [u, [x]] (ird (u ++ [x]), 2) = some (.inr (ird (u ++ [x]), 2)) := by
    unfold F.word_Mul_b0
    dsimp only
    rw [decide_eq_false (by simp)]; rfl
  rw [loop_inl b0, loop_inl b1, loop_inr b2]
  rfl
theorem groupOk {k : Nat} (h1 : 1 ≤ k) (h2 : k ≤ 9) : ∃ a b c, F.artin_Group 10000000000 3 (wl k) = some (a, b, c, 0) := by
  have hv : okB ((3 : Nat) : Int) (wl k) = true := okB_iff.2 ⟨by omega, by omega, by rw [wl_len]; omega, fun x hx => wl_rg k x hx⟩
  have hf : fullA 3 (wl k) = false := by rw [wl_full]; exact decide_eq_false (by omega)
  have hI := artinImages hv 10000000000 (by omega)
  rw [hf, if_neg (by decide)] at hI
  have hI' : F.artin_Images 10000000000 3 (wl k) = some (rowsA 3 (wl k), 0) := hI
  have hP : F.braid_Perm 10000000000 3 (wl k) = some (li 3 (pmw (wl k))) := braidPerm (N := 3) hv 10000000000 (by omega)
  have hc := List.all_eq_true.1 comp9 (k - 1) (List.mem_range.2 (by omega))
  rw [Nat.sub_add_cancel h1] at hc
  obtain ⟨r, hr⟩ := Option.isSome_iff_exists.1 hc
  obtain ⟨y, hy1, hy2⟩ := Option.bind_eq_some_iff.1 hr
  unfold F.artin_Group
  rw [hI', Option.bind_some]
  dsimp only
  rw [decide_eq_true rfl, Bool.not_true, cond_false, pos_ok (by decide) (by decide), Option.bind_some, hP, Option.bind_some, hy1, Option.bind_some, hy2, Option.bind_some]
  obtain ⟨r0, r1⟩ := r
  dsimp only
  have : ∃ c, loopN 10000000000 (F.artin_Group_b2 10000000000 (rowsA 3 (wl k), 0)) (0, ([] : List (List Int))) = some (3, c) := by
    have step : ∀ j : Nat, j < 3 → ∀ L : List (List Int), L.length ≤ 10 → ∃ y, F.artin_Group_b2 10000000000 (rowsA 3 (wl k), 0) ((j : Int), L) = some (.inl (((j + 1 : Nat) : Int), L ++ [y])) := fun j hj L hL => by
      have hlen := fact_len _ _ (fullA_false hf hj)
      obtain ⟨y, hy⟩ := wordMul2 (u := fact (wl k) [((j + 1 : Nat) : Int)]) (x := -((j : Int) + 1)) (by rw [fact_rev]; exact iact_rdc _ _) (fun z hz => by
        rw [fact_rev] at hz
        have := iact_lr (wl_rg k).rev (j := j + 1) (by omega) (by omega) z hz
        unfold Lr at this; omega) (by omega) (by omega) 10000000000 (by omega)
      refine ⟨y, ?_⟩
      unfold F.artin_Group_b2
      dsimp only
      rw [rowsA_len, decide_eq_true (by omega), cond_true, get_at rfl (rowsA_at hj), Option.bind_some, chk_ok (by omega) (by omega), Option.bind_some, chk_ok (by omega) (by omega), Option.bind_some, hy, Option.bind_some, lim_ok (by simp; omega), Option.bind_some, Option.bind_some]
      rfl
    obtain ⟨y0, s0⟩ := step 0 (by omega) [] (by simp)
    obtain ⟨y1, s1⟩ := step 1 (by omega) ([] ++ [y0]) (by simp)
    obtain ⟨y2, s2⟩ := step 2 (by omega) ([] ++ [y0] ++ [y1]) (by simp)
    refine ⟨[] ++ [y0] ++ [y1] ++ [y2], ?_⟩
    have last : F.artin_Group_b2 10000000000 (rowsA 3 (wl k), 0) (((2 + 1 : Nat) : Int), [] ++ [y0] ++ [y1] ++ [y2]) = some (.inr (3, [] ++ [y0] ++ [y1] ++ [y2])) := by
      unfold F.artin_Group_b2
      dsimp only
      rw [rowsA_len, decide_eq_false (by omega), cond_false]
      rfl
    have e := (loop_inl (m := 9999999999) s0).trans ((loop_inl (m := 9999999998) s1).trans ((loop_inl (m := 9999999997) s2).trans (loop_inr (m := 9999999996) last)))
    exact e
  obtain ⟨c, hc⟩ := this
  rw [hc]
  exact ⟨_, _, _, rfl⟩
theorem wlLoop {k : Nat} (hk : k ≤ 50) : loopN 10000000000 (F.law35_ArtinLong_b0 10000000000 (k : Int)) (0, ([] : List Int)) = some ((k : Int), wl k) := by
  have := count_loop (body := F.law35_ArtinLong_b0 10000000000 (k : Int)) (fun j => ((j : Int), wl j)) k (r := ((k : Int), wl k)) (fun j hj => by
    unfold F.law35_ArtinLong_b0
    dsimp only
    rw [decide_eq_true (by omega), cond_true, lim_ok (by rw [wl_len]; simp; omega), Option.bind_some, chk_ok (by omega) (by omega), wl_add j 1]
    rfl) (by
    unfold F.law35_ArtinLong_b0
    dsimp only
    rw [decide_eq_false (by omega), cond_false]) 10000000000 (by omega)
  exact this
theorem onesLoop {m : Nat} (hm : m ≤ 65535) : loopN 10000000000 (F.law35_ArtinLong_b2 10000000000 (m : Int)) (0, List.replicate (m : Int).toNat (0 : Int)) = some ((m : Int), List.replicate m (1 : Int)) := by
  have := count_loop (body := F.law35_ArtinLong_b2 10000000000 (m : Int)) (fun j => ((j : Int), List.replicate j (1 : Int) ++ List.replicate (m - j) (0 : Int))) m (r := ((m : Int), List.replicate m (1 : Int))) (fun j hj => by
    unfold F.law35_ArtinLong_b2
    dsimp only
    rw [Int.toNat_natCast, List.length_replicate, decide_eq_true (by omega), cond_true, get_ok (by omega) (by rw [List.length_append, List.length_replicate, List.length_replicate]; omega), Option.bind_some, chk_ok (by omega) (by omega), Option.bind_some, Int.toNat_natCast, show m - j = (m - (j + 1)) + 1 by omega, List.replicate_succ, List.set_append_right _ _ (by rw [List.length_replicate]; omega), List.length_replicate, Nat.sub_self, List.set_cons_zero, List.replicate_succ' (n := j), List.append_assoc]
    rfl) (by
    unfold F.law35_ArtinLong_b2
    dsimp only
    rw [Int.toNat_natCast, List.length_replicate, decide_eq_false (by omega), cond_false, Nat.sub_self, List.replicate_zero, List.append_nil]) 10000000000 (by omega)
  rw [Int.toNat_natCast]
  have e0 : ((0 : Nat) : Int) = 0 := rfl
  simpa using this
theorem ones_rdc : ∀ m, Irdc (List.replicate m (1 : Int))
  | m => irdc_of fun i a b ha hb => by
    have h1 := List.eq_of_mem_replicate (List.mem_of_getElem? ha)
    have h2 := List.eq_of_mem_replicate (List.mem_of_getElem? hb)
    omega
theorem longEnd {m : Nat} (hm : m ≤ 65535) : F.law35_ArtinLong_j1 10000000000 (m : Int) = some true := by
  have hv : okB ((2 : Nat) : Int) [] = true := okB_nil (by omega)
  have hu : ∀ y ∈ List.replicate m (1 : Int), Lr 2 y := fun y hy => by
    have := List.eq_of_mem_replicate hy
    unfold Lr; omega
  have hA := artinAct hv hu (by rw [List.length_replicate]; omega) 10000000000 (by omega)
  have hA' : F.artin_Act 10000000000 2 [] (List.replicate m (1 : Int)) = _ := hA
  unfold F.law35_ArtinLong_j1
  rw [pos_ok (by omega) (by omega), Option.bind_some, onesLoop hm, Option.bind_some]
  dsimp only
  rw [hA', Option.bind_some, ird_of (ones_rdc m), Int.toNat_natCast, List.length_replicate]
  by_cases h : 20000 < m
  · have hf : afull [] (List.replicate m (1 : Int)) = true := decide_eq_true (by rw [List.length_replicate]; exact h)
    rw [hf, decide_eq_true (by omega)]; rfl
  · have hf : afull [] (List.replicate m (1 : Int)) = false := decide_eq_false (by rw [List.length_replicate]; exact h)
    rw [hf, decide_eq_false (by omega), cond_false, if_neg (by decide)]
    dsimp only
    rw [decide_eq_true rfl, cond_true]
    have : (fact [] (List.replicate m (1 : Int))).length = m := List.length_replicate
    rw [this, decide_eq_true rfl]
theorem u8_rng' {z : Int} (h : IntKind.u8.wrap z = z) : 0 ≤ z ∧ z < 256 := by
  simp [IntKind.wrap, IntKind.signed, IntKind.bits] at h
  omega
theorem u16_rng {z : Int} (h : IntKind.u16.wrap z = z) : 0 ≤ z ∧ z < 65536 := by
  simp [IntKind.wrap, IntKind.signed, IntKind.bits] at h
  omega
end Gar
open Gar in
theorem law35_ArtinLong_true (z0 z1 : Int) (o0 : Ev.Sh.ok (.int .u8) z0) (o1 : Ev.Sh.ok (.int .u16) z1) : ∃ n, F.law35_ArtinLong n z0 z1 = some true := by
  refine ⟨10000000000, ?_⟩
  have h0 := u8_rng' (show IntKind.u8.wrap z0 = z0 from o0)
  have h1 := u16_rng (show IntKind.u16.wrap z1 = z1 from o1)
  obtain ⟨m, rfl⟩ : ∃ m : Nat, z1 = (m : Int) := ⟨z1.toNat, by omega⟩
  have t1 := Int.tmod_nonneg 50 h0.1
  have t2 := Int.tmod_lt_of_pos z0 (show (0 : Int) < 50 by omega)
  obtain ⟨k, hk⟩ : ∃ k : Nat, Int.tmod z0 50 + 1 = (k : Int) := ⟨(Int.tmod z0 50 + 1).toNat, by omega⟩
  have hv : okB ((3 : Nat) : Int) (wl k) = true := okB_iff.2 ⟨by omega, by omega, by rw [wl_len]; omega, fun x hx => wl_rg k x hx⟩
  have hI : F.artin_Images 10000000000 3 (wl k) = _ := artinImages hv 10000000000 (by omega)
  have hR : F.ref35_Images 10000000000 3 (wl k) = _ := refImages hv 10000000000 (by omega)
  have hT : F.artin_Trivial 10000000000 3 (wl k) = some false := by
    have h := artinTrivial hv 10000000000 (by omega)
    rw [wl_triv (by omega)] at h
    exact h
  unfold F.law35_ArtinLong
  rw [awake35, Option.bind_some, Bool.not_true, cond_false, nz_ok (by decide), Option.bind_some, hk, chk_ok (by omega) (by omega), Option.bind_some, wlLoop (by omega), Option.bind_some]
  dsimp only
  rw [hR, Option.bind_some, hI, Option.bind_some, wl_full]
  by_cases h : 10 ≤ k
  · have hG : F.artin_Group 10000000000 3 (wl k) = some (0, [], [], 5) := by
      unfold F.artin_Group
      rw [hI, wl_full, decide_eq_true h]; rfl
    rw [hG, decide_eq_true h, if_pos rfl, if_pos rfl, Option.bind_some, hT, Option.bind_some]
    dsimp only
    rw [longEnd (by omega)]
    rfl
  · obtain ⟨a, b, c, hG⟩ := groupOk (k := k) (by omega) (by omega)
    rw [hG, decide_eq_false h, if_neg (by decide), if_neg (by decide), Option.bind_some, hT, Option.bind_some]
    dsimp only
    rw [longEnd (by omega)]
    rfl
end Go.Proofs.Ytlkmcbgkohpmiaa
