/- Joined: PAlen, PAimg. -/
import Derived.Test.YtlkmcbgkohpmiaaPAart
import Derived.Test.YtlkmcbgkohpmiaaPAacts
/- How long the images of generators may become. -/
set_option linter.unusedVariables false
set_option linter.unusedSimpArgs false
namespace Go.Proofs.Ytlkmcbgkohpmiaa
namespace Gar
/-! Crossings of a path. -/
theorem rd_count (l : List Nat) (g : Nat) : (rd l).count g ≤ l.count g := by
  induction l with
  | nil => exact Nat.le_refl _
  | cons a l ih =>
    rw [rd, List.count_cons]
    generalize rd l = w at ih
    cases w with
    | nil => simp [pushG, List.count_cons]
    | cons b t =>
      rw [List.count_cons] at ih
      by_cases e : a = b
      · subst e; rw [pushG_eq]; omega
      · rw [pushG_ne e, List.count_cons, List.count_cons]; omega
theorem rd_mem {l : List Nat} : ∀ g ∈ rd l, g ∈ l := fun g hg => by
  have h1 := List.count_pos_iff.2 hg
  have h2 := rd_count l g
  exact List.count_pos_iff.1 (by omega)
theorem rd_par (l : List Nat) : (rd l).length % 2 = l.length % 2 := by
  induction l with
  | nil => rfl
  | cons a l ih =>
    rw [rd, List.length_cons]
    generalize rd l = w at ih
    cases w with
    | nil => simp [pushG] at ih ⊢; omega
    | cons b t =>
      rw [List.length_cons] at ih
      by_cases e : a = b
      · subst e; rw [pushG_eq]; omega
      · rw [pushG_ne e]; simp only [List.length_cons]; omega
theorem img_count {x : Int} (hx : x ≠ 0) (e : Bool) (h g : Nat) : (img x e h).count g = (if h = g then 1 else 0) + (if h = x.natAbs ∧ (g + 1 = x.natAbs ∨ g = x.natAbs + 1) then 1 else 0) := by
  unfold img
  by_cases h1 : h = x.natAbs
  · rw [if_pos h1]
    have : ∀ a b c : Nat, [a, b, c].count g = (if a = g then 1 else 0) + (if b = g then 1 else 0) + (if c = g then 1 else 0) := fun a b c => by
      simp only [List.count_cons, List.count_nil, beq_iff_eq]; omega
    split <;> rw [this] <;> repeat' split
    all_goals omega
  · rw [if_neg h1, if_neg (c := h = x.natAbs ∧ _) (fun k => h1 k.1)]
    simp [List.count_cons]
theorem sub_count {x : Int} (hx : x ≠ 0) (g : Nat) (G : List Nat) : ∀ e : Bool, (sub x e G).count g = G.count g + (if g + 1 = x.natAbs ∨ g = x.natAbs + 1 then G.count x.natAbs else 0) := by
  induction G with
  | nil => intro e; simp [sub]
  | cons h t ih =>
    intro e
    rw [sub, List.count_append, ih, img_count hx, List.count_cons, List.count_cons]
    simp only [beq_iff_eq]
    generalize x.natAbs = i
    generalize List.count g t = a
    generalize List.count i t = b
    by_cases hc : g + 1 = i ∨ g = i + 1
    · by_cases h2 : h = i
      · subst h2
        simp only [hc, and_self, if_true]; omega
      · simp only [hc, h2, false_and, if_true, if_false]; omega
    · simp only [hc, and_false, if_false]; omega
def fibn : Nat → Nat
  | 0 => 0
  | 1 => 1
  | n + 2 => fibn n + fibn (n + 1)
theorem fibn_le (n : Nat) : fibn n ≤ fibn (n + 1) := by
  cases n with
  | zero => decide
  | succ n => show _ ≤ fibn n + fibn (n + 1); omega
theorem fibn_mono {m n : Nat} (h : m ≤ n) : fibn m ≤ fibn n := by
  induction h with
  | refl => exact Nat.le_refl _
  | step _ ih => exact Nat.le_trans ih (fibn_le _)
/-- The crossings of the image of a generator. -/
def cG (w : List Int) (j g : Nat) : Nat := (rd (gapw (iact w j))).count g
section
variable {N : Nat}
theorem cG_step {x : Int} {w : List Int} (hw : Rg N (x :: w)) {j : Nat} (h1 : 1 ≤ j) (h2 : j ≤ N) (g : Nat) : cG (x :: w) j g ≤ cG w j g + (if g + 1 = x.natAbs ∨ g = x.natAbs + 1 then cG w j x.natAbs else 0) := by
  have hw' : Rg N w := fun z hz => hw z (by simp [hz])
  have hx := (hw x (by simp)).1
  have e : GE (gapw (iact (x :: w) j)) (sub x true (rd (gapw (iact w j)))) := by
    refine (gapw_ird _).trans ((isub_gapw hx fun y hy => (iact_lr hw' h1 h2 y hy).1).trans ?_)
    exact sub_ge x true (GE.rd _).symm
  have e' : rd (gapw (iact (x :: w) j)) = rd (sub x true (rd (gapw (iact w j)))) := e
  unfold cG
  rw [e', ← sub_count hx]
  exact rd_count _ _
theorem cG_bound : ∀ {w : List Int}, Rg N w → ∀ {j : Nat}, 1 ≤ j → j ≤ N → ∀ g, cG w j g ≤ fibn (w.length + 2) ∧ cG w j g + cG w j (g + 1) ≤ fibn (w.length + 3)
  | [], _, j, h1, h2, g => by
    have e : rd (gapw (iact [] j)) = [j - 1, j] := by
      show rd (gap (j : Int) ++ []) = _
      unfold gap
      rw [if_pos (by omega), Int.toNat_natCast, List.append_nil]
      exact rd_of ⟨by omega, trivial⟩
    have hc : ∀ g, cG [] j g = (if j - 1 = g then 1 else 0) + (if j = g then 1 else 0) := fun g => by
      unfold cG; rw [e]; simp only [List.count_cons, List.count_nil, beq_iff_eq]; omega
    rw [hc, hc]
    show _ ≤ 1 ∧ _ ≤ 2
    repeat' split
    all_goals omega
  | x :: w, hw, j, h1, h2, g => by
    have hw' : Rg N w := fun z hz => hw z (by simp [hz])
    have ih := cG_bound hw' h1 h2
    have s1 := cG_step hw h1 h2 g
    have s2 := cG_step hw h1 h2 (g + 1)
    have hx := hw x (by simp)
    have f3 : fibn (w.length + 4) = fibn (w.length + 2) + fibn (w.length + 3) := rfl
    have f2 := fibn_le (w.length + 2)
    rw [List.length_cons]
    show _ ≤ fibn (w.length + 3) ∧ _ ≤ fibn (w.length + 4)
    generalize hi : x.natAbs = i at s1 s2
    have hi1 : 1 ≤ i := by omega
    have a0 := ih g
    have a1 := ih (g + 1)
    have ai := ih i
    have am := ih (i - 1)
    rw [show i - 1 + 1 = i by omega] at am
    by_cases c1 : g + 1 = i
    · subst c1
      rw [if_pos (.inl rfl)] at s1
      rw [if_neg (by omega)] at s2
      have a2 := ih (g + 1 + 1)
      omega
    · by_cases c2 : g = i + 1
      · subst c2
        rw [if_pos (.inr rfl)] at s1
        rw [if_neg (by omega)] at s2
        have a2 := ih (i + 1 + 1)
        omega
      · rw [if_neg (by omega)] at s1
        by_cases c3 : g + 1 + 1 = i
        · subst c3
          rw [if_pos (.inl rfl)] at s2
          omega
        · by_cases c4 : g = i
          · subst c4
            rw [if_pos (.inr rfl)] at s2
            omega
          · rw [if_neg (by omega)] at s2
            omega
end
/-! From the crossings to the letters. -/
def arc (a b : Nat) : List Int := if a ≤ b then (List.range (b - a)).map (fun t => ((a + 1 + t : Nat) : Int)) else (List.range (a - b)).map (fun t => -((a - t : Nat) : Int))
def arcs : List Nat → List Int
  | a :: b :: t => arc a b ++ arcs t
  | _ => []
theorem xs_add (a k : Nat) : xs (a + k) = xs a ++ (List.range k).map (fun t => ((a + 1 + t : Nat) : Int)) := by
  induction k with
  | zero => simp
  | succ k ih =>
    rw [← Nat.add_assoc, xs, ih, List.range_succ, List.map_append, List.append_assoc]
    congr 3
    show ((a + k + 1 : Nat) : Int) = ((a + 1 + k : Nat) : Int)
    rw [show a + k + 1 = a + 1 + k by omega]
theorem neg_range (b k : Nat) : neg ((List.range k).map (fun t => ((b + 1 + t : Nat) : Int))) = (List.range k).map (fun t => -((b + k - t : Nat) : Int)) := by
  unfold neg
  rw [List.map_map]
  apply List.ext_getElem?
  intro i
  by_cases hi : i < k
  · rw [List.getElem?_reverse (by simpa using hi), List.length_map, List.length_range, List.getElem?_map, List.getElem?_map, List.getElem?_range (by omega), List.getElem?_range hi]
    show some (-((b + 1 + (k - 1 - i) : Nat) : Int)) = some _
    rw [show b + 1 + (k - 1 - i) = b + k - i by omega]
  · rw [List.getElem?_eq_none (by simp; omega), List.getElem?_eq_none (by simp; omega)]
theorem arc_ie (a b : Nat) : IE (neg (xs a) ++ xs b) (arc a b) := by
  unfold arc
  by_cases h : a ≤ b
  · rw [if_pos h]
    obtain ⟨k, rfl⟩ : ∃ k, b = a + k := ⟨b - a, by omega⟩
    rw [xs_add, ← List.append_assoc, Nat.add_sub_cancel_left]
    exact (IE.inv (xs a)).right _
  · rw [if_neg h]
    obtain ⟨k, rfl⟩ : ∃ k, a = b + k := ⟨a - b, by omega⟩
    rw [xs_add, neg_app, neg_range, Nat.add_sub_cancel_left, List.append_assoc]
    have := (IE.inv (xs b)).left ((List.range k).map (fun t => -((b + k - t : Nat) : Int)))
    rwa [List.append_nil] at this
theorem arcs_ie : ∀ (m : Nat) (G : List Nat), G.length = 2 * m → IE (kap true G) (arcs G)
  | 0, [], _ => .refl _
  | 0, _ :: _, h => by simp at h
  | m + 1, [], h => by simp at h
  | m + 1, [_], h => by simp at h; omega
  | m + 1, a :: b :: t, h => by
    have ih := arcs_ie m t (by simp at h; omega)
    show IE (neg (xs a) ++ (xs b ++ kap true t)) (arc a b ++ arcs t)
    rw [← List.append_assoc]
    exact (arc_ie a b).app ih
def wtg (g : Nat) : Nat := (2 * (g : Int) - 5).natAbs
theorem arc_len (a b : Nat) : 2 * (arc a b).length ≤ wtg a + wtg b := by
  unfold arc wtg
  split <;> rw [List.length_map, List.length_range] <;> omega
theorem arcs_len : ∀ (m : Nat) (G : List Nat), G.length = 2 * m → 2 * (arcs G).length ≤ (G.map wtg).sum
  | 0, [], _ => Nat.le_refl _
  | 0, _ :: _, h => by simp at h
  | m + 1, [], h => by simp at h
  | m + 1, [_], h => by simp at h; omega
  | m + 1, a :: b :: t, h => by
    have ih := arcs_len m t (by simp at h; omega)
    have := arc_len a b
    show 2 * (arc a b ++ arcs t).length ≤ _
    rw [List.length_append, List.map_cons, List.map_cons, List.sum_cons, List.sum_cons]
    omega
theorem wt_sum {G : List Nat} (h : ∀ g ∈ G, g ≤ 5) : (G.map wtg).sum = 5 * G.count 0 + 3 * G.count 1 + G.count 2 + G.count 3 + 3 * G.count 4 + 5 * G.count 5 := by
  induction G with
  | nil => rfl
  | cons a t ih =>
    have ha := h a (by simp)
    rw [List.map_cons, List.sum_cons, ih fun g hg => h g (by simp [hg])]
    simp only [List.count_cons, beq_iff_eq]
    have : a = 0 ∨ a = 1 ∨ a = 2 ∨ a = 3 ∨ a = 4 ∨ a = 5 := by omega
    rcases this with rfl | rfl | rfl | rfl | rfl | rfl <;> simp [wtg] <;> omega
theorem gap_le {N : Nat} {y : Int} (hy : Lr N y) : ∀ g ∈ gap y, g ≤ N := by
  intro g hg
  unfold Lr at hy
  unfold gap at hg
  split at hg <;> simp at hg <;> omega
/-- At most 5 strands, at most 16 letters: the images stay below the limit. -/
theorem iact_small {N : Nat} (hN : N ≤ 5) {w : List Int} (hw : Rg N w) (hl : w.length ≤ 16) {j : Nat} (h1 : 1 ≤ j) (h2 : j ≤ N) : (iact w j).length ≤ 20000 := by
  have hlr := iact_lr hw h1 h2
  have hG : ∀ g ∈ rd (gapw (iact w j)), g ≤ 5 := fun g hg => by
    have := rd_mem g hg
    unfold gapw at this
    rw [List.mem_flatMap] at this
    obtain ⟨y, hy, hg2⟩ := this
    have := gap_le (hlr y hy) g hg2
    omega
  have hpar : (gapw (iact w j)).length % 2 = 0 := by
    generalize iact w j = u
    induction u with
    | nil => rfl
    | cons y u ih => rw [gapw_cons, List.length_append, gap_len]; omega
  have hev := rd_par (gapw (iact w j))
  obtain ⟨m, hm⟩ : ∃ m, (rd (gapw (iact w j))).length = 2 * m := ⟨(rd (gapw (iact w j))).length / 2, by omega⟩
  have e1 : IE (arcs (rd (gapw (iact w j)))) (iact w j) := (arcs_ie m _ hm).symm.trans ((kap_ge true (GE.rd _)).trans (kap_gapw fun y hy => (hlr y hy).1))
  have e2 : iact w j = ird (arcs (rd (gapw (iact w j)))) := by
    have h3 : ird (arcs (rd (gapw (iact w j)))) = ird (iact w j) := e1
    rw [h3, ird_of (iact_rdc w j)]
  have l1 := ird_le (arcs (rd (gapw (iact w j))))
  rw [← e2] at l1
  have l2 := arcs_len m _ hm
  rw [wt_sum hG] at l2
  have b := cG_bound hw h1 h2
  have f1 : fibn (w.length + 2) ≤ fibn 18 := fibn_mono (by omega)
  have f2 : fibn (w.length + 3) ≤ fibn 19 := fibn_mono (by omega)
  have v1 : fibn 18 = 2584 := rfl
  have v2 : fibn 19 = 4181 := rfl
  have b0 := b 0
  have b2 := b 2
  have b4 := b 4
  have b5 := b 5
  unfold cG at b0 b2 b4 b5
  simp only [Nat.zero_add, Nat.reduceAdd] at b0 b2 b4 b5
  omega
/-! The action, from the first letter on. -/
theorem fact_iact : ∀ (w v : List Int) (j : Nat), fact w (iact v j) = iact (w.reverse ++ v) j
  | [], v, j => rfl
  | x :: w, v, j => by
    show fact w (iact (x :: v) j) = _
    rw [fact_iact w (x :: v) j, List.reverse_cons, List.append_assoc]; rfl
theorem afull_of {j : Nat} : ∀ (w v : List Int), (∀ u t, w = u ++ t → (iact (u.reverse ++ v) j).length ≤ 20000) → afull w (iact v j) = false
  | [], v, h => decide_eq_false (by have := h [] [] rfl; rw [List.reverse_nil, List.nil_append] at this; omega)
  | x :: w, v, h => by
    have h0 := h [] (x :: w) rfl
    rw [List.reverse_nil, List.nil_append] at h0
    rw [afull_cons (by omega)]
    show afull w (iact (x :: v) j) = false
    refine afull_of w (x :: v) fun u t e => ?_
    have := h (x :: u) t (by rw [e]; rfl)
    rwa [List.reverse_cons, List.append_assoc] at this
theorem Rg.rev {N : Nat} {w : List Int} (h : Rg N w) : Rg N w.reverse := fun x hx => h x (List.mem_reverse.1 hx)
theorem not_full {N : Nat} (hN : N ≤ 5) {w : List Int} (hw : Rg N w) (hl : w.length ≤ 16) {j : Nat} (h1 : 1 ≤ j) (h2 : j ≤ N) : afull w [(j : Int)] = false := by
  have := afull_of (j := j) w [] fun u t e => by
    subst e
    rw [List.append_nil]
    have hu : Rg N u := fun x hx => hw x (by simp [hx])
    refine iact_small hN hu.rev ?_ h1 h2
    rw [List.length_append] at hl
    rw [List.length_reverse]; omega
  exact this
end Gar
end Go.Proofs.Ytlkmcbgkohpmiaa

/- The images of the generators: the program and the reference of layer 35. -/
set_option linter.unusedVariables false
set_option linter.unusedSimpArgs false
namespace Go.Proofs.Ytlkmcbgkohpmiaa
open Ev
namespace Gar
def rowsA (s : Nat) (w : List Int) : List (List Int) := (List.range s).map fun k => fact w [((k + 1 : Nat) : Int)]
def fullA (s : Nat) (w : List Int) : Bool := (List.range s).any fun k => afull w [((k + 1 : Nat) : Int)]
theorem rowsA_len (s : Nat) (w : List Int) : (rowsA s w).length = s := by simp [rowsA]
theorem rowsA_at {s : Nat} {w : List Int} {k : Nat} (h : k < s) : (rowsA s w)[k]? = some (fact w [((k + 1 : Nat) : Int)]) := by simp [rowsA, h]
/-- A loop that makes a row for each number, and leaves at the first that is refused. -/
theorem rowLoop {R : Type} {body : List (List Int) × Int → Option ((List (List Int) × Int) ⊕ ((List (List Int) × Int) ⊕ R))} (f : Nat → List Int) (bad : Nat → Bool) (s : Nat) (off : Int) (r0 : R)
    (step : ∀ k, k < s → body ((List.range k).map f, (k : Int) + off) = if bad k = true then some (.inr (.inr r0)) else some (.inl ((List.range (k + 1)).map f, ((k + 1 : Nat) : Int) + off)))
    (last : body ((List.range s).map f, (s : Int) + off) = some (.inr (.inl ((List.range s).map f, (s : Int) + off)))) (n : Nat) (hn : s < n) :
    loopN n body ([], off) = some (if ((List.range s).any bad) = true then .inr r0 else .inl ((List.range s).map f, (s : Int) + off)) := by
  have key : ∀ (j k n : Nat), k + j = s → j < n → ((List.range k).any bad) = false → loopN n body ((List.range k).map f, (k : Int) + off) = some (if ((List.range s).any bad) = true then .inr r0 else .inl ((List.range s).map f, (s : Int) + off)) := by
    intro j
    induction j with
    | zero =>
      intro k n hk hn hb
      obtain ⟨n, rfl⟩ : ∃ n', n = n' + 1 := ⟨n - 1, by omega⟩
      obtain rfl : k = s := by omega
      rw [loop_inr last, hb]; rfl
    | succ j ih =>
      intro k n hk hn hb
      obtain ⟨n, rfl⟩ : ∃ n', n = n' + 1 := ⟨n - 1, by omega⟩
      have h := step k (by omega)
      cases hbk : bad k with
      | true =>
        rw [hbk, if_pos rfl] at h
        rw [loop_inr h, if_pos]
        exact List.any_eq_true.2 ⟨k, List.mem_range.2 (by omega), hbk⟩
      | false =>
        rw [hbk, if_neg (by decide)] at h
        rw [loop_inl h]
        refine ih (k + 1) n (by omega) (by omega) ?_
        rw [List.range_succ, List.any_append, hb]
        simp [hbk]
  have := key s 0 n (by omega) hn (by rfl)
  simpa using this
theorem gen_lr {s k : Nat} (h : k < s) : ∀ y ∈ [((k + 1 : Nat) : Int)], Lr s y := fun y hy => by
  rw [List.mem_singleton] at hy; subst hy; unfold Lr; omega
theorem ird_one (x : Int) : ird [x] = [x] := rfl
theorem artinImages {s : Nat} {w : List Int} (hv : okB (s : Int) w = true) (n : Nat) (hn : 1000000 ≤ n) : F.artin_Images n (s : Int) w = some (if fullA s w = true then ([], 5) else (rowsA s w, 0)) := by
  obtain ⟨a1, a2, a3, a4⟩ := okB_iff.1 hv
  unfold F.artin_Images
  rw [braidValid n (by omega), hv, Option.bind_some, Bool.not_true, cond_false]
  have := rowLoop (body := F.artin_Images_b0 n (s : Int) w) (fun k => fact w [((k + 1 : Nat) : Int)]) (fun k => afull w [((k + 1 : Nat) : Int)]) s 0 ([], 5) (fun k hk => by
    unfold F.artin_Images_b0
    dsimp only
    rw [decide_eq_true (by omega), cond_true, chk_ok (by omega) (by omega), Option.bind_some, show (k : Int) + 0 + 1 = ((k + 1 : Nat) : Int) by omega, artinAct hv (gen_lr hk) (by simp) n hn, Option.bind_some, ird_one]
    cases hb : afull w [((k + 1 : Nat) : Int)] with
    | true => rfl
    | false =>
      rw [if_neg (by decide), if_neg (by decide), List.range_succ, List.map_append]
      dsimp only
      rw [decide_eq_true rfl, Bool.not_true, cond_false, lim_ok (by simp; omega), Option.bind_some]
      rfl) (by
    unfold F.artin_Images_b0
    dsimp only
    rw [decide_eq_false (by omega), cond_false]) n (by omega)
  rw [this, Option.bind_some]
  unfold fullA rowsA
  cases (List.range s).any fun k => afull w [((k + 1 : Nat) : Int)] <;> rfl
theorem artinImages_bad {s : Int} {w : List Int} (hv : okB s w = false) (n : Nat) (hn : w.length < n) : F.artin_Images n s w = some ([], 1) := by
  unfold F.artin_Images
  rw [braidValid n hn, hv]; rfl
theorem refImages {s : Nat} {w : List Int} (hv : okB (s : Int) w = true) (n : Nat) (hn : 10000000000 ≤ n) : F.ref35_Images n (s : Int) w = some (if fullA s w = true then ([], false) else (rowsA s w, true)) := by
  obtain ⟨a1, a2, a3, a4⟩ := okB_iff.1 hv
  unfold F.ref35_Images
  have := rowLoop (body := F.ref35_Images_b0 n (s : Int) w) (fun k => fact w [((k + 1 : Nat) : Int)]) (fun k => afull w [((k + 1 : Nat) : Int)]) s 1 ([], false) (fun k hk => by
    unfold F.ref35_Images_b0
    dsimp only
    rw [decide_eq_true (by omega), cond_true, show (k : Int) + 1 = ((k + 1 : Nat) : Int) by omega, refAct hv (gen_lr hk) (by simp) n hn, Option.bind_some, ird_one]
    cases hb : afull w [((k + 1 : Nat) : Int)] with
    | true => rfl
    | false =>
      rw [if_neg (by decide), if_neg (by decide), List.range_succ, List.map_append]
      dsimp only
      rw [Bool.not_true, cond_false, lim_ok (by simp; omega), Option.bind_some, chk_ok (by omega) (by omega)]
      rfl) (by
    unfold F.ref35_Images_b0
    dsimp only
    rw [decide_eq_false (by omega), cond_false]) n (by omega)
  rw [this, Option.bind_some]
  unfold fullA rowsA
  cases (List.range s).any fun k => afull w [((k + 1 : Nat) : Int)] <;> rfl
theorem notFullA {s : Nat} (hs : s ≤ 5) {w : List Int} (hw : Rg s w) (hl : w.length ≤ 16) : fullA s w = false := by
  unfold fullA
  rw [Bool.eq_false_iff]
  intro h
  obtain ⟨k, h1, h2⟩ := List.any_eq_true.1 h
  have hk := List.mem_range.1 h1
  rw [not_full hs hw hl (by omega) (by omega)] at h2
  cases h2
theorem fact_rev (w : List Int) (j : Nat) : fact w [(j : Int)] = iact w.reverse j := by
  have := fact_iact w [] j
  rw [List.append_nil] at this
  exact this
/-- Relations read backwards are relations. -/
theorem BE.rev {N : Nat} {u v : List Int} (h : BE N u v) : BE N u.reverse v.reverse := by
  induction h with
  | refl w => exact .refl _
  | symm _ ih => exact ih.symm
  | trans _ _ h1 h2 => exact h1.trans h2
  | @far a b i k h1 h2 h3 h4 h5 =>
    have := (BE.far (N := N) b.reverse a.reverse h1 h2 h3 h4 h5).symm
    simpa using this
  | @braid a b i h1 h2 =>
    have := BE.braid (N := N) b.reverse a.reverse h1 h2
    simpa using this
  | @pn a b i h1 h2 =>
    have := BE.np (N := N) b.reverse a.reverse h1 h2
    simpa using this
  | @np a b i h1 h2 =>
    have := BE.pn (N := N) b.reverse a.reverse h1 h2
    simpa using this
theorem rowsA_be {s : Nat} {u v : List Int} (hu : Rg s u) (hv : Rg s v) (h : BE s u v) : rowsA s u = rowsA s v := by
  unfold rowsA
  refine List.map_inj_left.2 fun k hk => ?_
  have := List.mem_range.1 hk
  rw [fact_rev, fact_rev]
  exact h.rev.iact hu.rev hv.rev (by omega) (by omega)
end Gar
end Go.Proofs.Ytlkmcbgkohpmiaa
