/- Transitive, by the program and by the reference. -/
import Derived.Test.YtmlkiafidahnbaaPPtrans
set_option linter.unusedVariables false
set_option linter.unusedSimpArgs false
namespace Go.Proofs.Ytmlkiafidahnbaa
open Ev
namespace Gar
section
variable {N : Nat} {fs : List (Nat → Nat)}
theorem get0 {α : Type} {l : List α} {x : α} (h : l[0]? = some x) : Ev.get l 0 = some x := get_at (k := 0) rfl h
theorem lf_of : ∀ {l : List (List Int)}, (∀ p ∈ l, IsP p ∧ p.length = N) → ∃ fs, Pms' N fs ∧ l = lf N fs ∧ fs.length = l.length
  | [], _ => ⟨[], fun f hf => absurd hf (by simp), rfl, rfl⟩
  | p :: l, h => by
    obtain ⟨fs, h1, h2, h3⟩ := lf_of (l := l) fun q hq => h q (by simp [hq])
    obtain ⟨⟨f, g, hp, he⟩, hl⟩ := h p (by simp)
    rw [hl] at hp he
    refine ⟨f :: fs, fun x hx => ?_, ?_, by simp [h3]⟩
    · rcases List.mem_cons.1 hx with rfl | hx
      · exact ⟨g, hp⟩
      · exact h1 x hx
    · unfold lf at h2 ⊢
      rw [List.map_cons, ← h2, ← he]
theorem ptr_check {l : List (List Int)} {p0 : List Int} (h0 : l[0]? = some p0) (hl : l.length ≤ 1000) (hp : ∀ p ∈ l, p.length ≤ 1000) :
    ∃ r, loopN 200000000 (F.perm_Transitive_b0 200000000 l) 0 = some r ∧ ((∃ v, r = .inl v ∧ ∀ p ∈ l, IsP p ∧ p.length = p0.length) ∨ (r = .inr false ∧ ∃ p ∈ l, ¬ (IsP p ∧ p.length = p0.length))) := by
  refine loop_spec (body := F.perm_Transitive_b0 200000000 l) (fun s => ∃ k : Nat, s = (k : Int) ∧ k ≤ l.length ∧ ∀ j p, j < k → l[j]? = some p → IsP p ∧ p.length = p0.length) (fun s => l.length - s.toNat) _ (fun s ⟨k, e, hk, hc⟩ => ?_) 200000000 0 ⟨0, rfl, by omega, fun j p hj => by omega⟩ (by simp; omega)
  subst e
  unfold F.perm_Transitive_b0
  dsimp only
  by_cases hlt : k < l.length
  · have ka : l[k]? = some l[k] := List.getElem?_eq_getElem hlt
    have hm : l[k] ∈ l := List.getElem_mem _
    have hpl := hp _ hm
    rw [decide_eq_true (by omega), cond_true, get_at rfl ka, Option.bind_some]
    rcases perm_cases (p := l[k]) 200000000 (by omega) (by decide) with ⟨hv, hI⟩ | ⟨hv, hI⟩
    · rw [hv, Option.bind_some, Bool.not_true, cond_false, get0 h0, Option.bind_some]
      by_cases e : l[k].length = p0.length
      · rw [decide_eq_true (by omega), Bool.not_true, cond_false, chk_ok (by omega) (by omega), Option.bind_some]
        refine .inl ⟨_, rfl, ⟨k + 1, rfl, by omega, fun j p hj hjp => ?_⟩, by omega⟩
        by_cases e2 : j = k
        · subst e2; rw [ka] at hjp; obtain rfl := Option.some.inj hjp; exact ⟨hI, e⟩
        · exact hc j p (by omega) hjp
      · rw [decide_eq_false (by omega), Bool.not_false, cond_true]
        exact .inr ⟨_, rfl, .inr ⟨rfl, _, hm, fun h => e h.2⟩⟩
    · rw [hv, Option.bind_some, Bool.not_false, cond_true]
      exact .inr ⟨_, rfl, .inr ⟨rfl, _, hm, fun h => hI h.1⟩⟩
  · rw [decide_eq_false (by omega), cond_false]
    refine .inr ⟨_, rfl, .inl ⟨_, rfl, fun p hpm => ?_⟩⟩
    obtain ⟨j, hj⟩ := List.mem_iff_getElem?.1 hpm
    exact hc j p (by have := (List.getElem?_eq_some_iff.1 hj).1; omega) hj
theorem rtr_check {l : List (List Int)} {p0 : List Int} (h0 : l[0]? = some p0) (hl : l.length ≤ 1000) (hp : ∀ p ∈ l, p.length ≤ 1000) :
    ∃ r, loopN 200000000 (F.ref30_Transitive_b0 200000000 l) 0 = some r ∧ ((∃ v, r = .inl v ∧ ∀ p ∈ l, IsP p ∧ p.length = p0.length) ∨ (r = .inr false ∧ ∃ p ∈ l, ¬ (IsP p ∧ p.length = p0.length))) := by
  refine loop_spec (body := F.ref30_Transitive_b0 200000000 l) (fun s => ∃ k : Nat, s = (k : Int) ∧ k ≤ l.length ∧ ∀ j p, j < k → l[j]? = some p → IsP p ∧ p.length = p0.length) (fun s => l.length - s.toNat) _ (fun s ⟨k, e, hk, hc⟩ => ?_) 200000000 0 ⟨0, rfl, by omega, fun j p hj => by omega⟩ (by simp; omega)
  subst e
  unfold F.ref30_Transitive_b0
  dsimp only
  by_cases hlt : k < l.length
  · have ka : l[k]? = some l[k] := List.getElem?_eq_getElem hlt
    have hm : l[k] ∈ l := List.getElem_mem _
    have hpl := hp _ hm
    rw [decide_eq_true (by omega), cond_true, get_at rfl ka, Option.bind_some]
    rcases perm_cases (p := l[k]) 200000000 (by omega) (by decide) with ⟨hv, hI⟩ | ⟨hv, hI⟩
    · rw [ref_valid _ (by omega) (by decide) hv, Option.bind_some, Bool.not_true, cond_false, Option.bind_some, get0 h0, Option.bind_some]
      by_cases e : l[k].length = p0.length
      · rw [decide_eq_true (by omega), Bool.not_true, cond_false, chk_ok (by omega) (by omega), Option.bind_some]
        refine .inl ⟨_, rfl, ⟨k + 1, rfl, by omega, fun j p hj hjp => ?_⟩, by omega⟩
        by_cases e2 : j = k
        · subst e2; rw [ka] at hjp; obtain rfl := Option.some.inj hjp; exact ⟨hI, e⟩
        · exact hc j p (by omega) hjp
      · rw [decide_eq_false (by omega), Bool.not_false, cond_true]
        exact .inr ⟨_, rfl, .inr ⟨rfl, _, hm, fun h => e h.2⟩⟩
    · rw [ref_valid _ (by omega) (by decide) hv, Option.bind_some, Bool.not_false, cond_true]
      exact .inr ⟨_, rfl, .inr ⟨rfl, _, hm, fun h => hI h.1⟩⟩
  · rw [decide_eq_false (by omega), cond_false]
    refine .inr ⟨_, rfl, .inl ⟨_, rfl, fun p hpm => ?_⟩⟩
    obtain ⟨j, hj⟩ := List.mem_iff_getElem?.1 hpm
    exact hc j p (by have := (List.getElem?_eq_some_iff.1 hj).1; omega) hj
theorem tr_ok {l : List (List Int)} (h : Tr l) : ∃ p0, l[0]? = some p0 ∧ 0 < p0.length ∧ ∀ p ∈ l, IsP p ∧ p.length = p0.length := by
  obtain ⟨N, fs, h1, h2, h3, h4, _⟩ := h
  obtain ⟨f, t, rfl⟩ := List.exists_cons_of_ne_nil h2
  subst h4
  refine ⟨li N f, rfl, by rw [li_len]; exact h1, fun p hp => ?_⟩
  unfold lf at hp
  obtain ⟨f', hf', rfl⟩ := List.mem_map.1 hp
  obtain ⟨g, hg⟩ := h3 f' hf'
  exact ⟨isP_li hg, by rw [li_len, li_len]⟩
theorem mk_zero : (List.replicate N false).set (0 : Int).toNat true = mk N (ci [0]) := by
  rw [mk_nil]
  exact mk_set (T := []) (k := 0)
theorem ptrans {l : List (List Int)} (hl : l.length ≤ 1000) (hp : ∀ p ∈ l, p.length ≤ 1000) : ∃ b, F.perm_Transitive 200000000 l = some b ∧ (b = true ↔ Tr l) := by
  unfold F.perm_Transitive
  cases h0 : l[0]? with
  | none =>
    have hn : l.length = 0 := by rw [List.getElem?_eq_none_iff] at h0; omega
    rw [decide_eq_true (by omega), cond_true]
    refine ⟨false, rfl, ⟨fun h => (by cases h), fun h => ?_⟩⟩
    obtain ⟨p0, h1, _⟩ := tr_ok h
    rw [h0] at h1; cases h1
  | some p0 =>
    have hlen := (List.getElem?_eq_some_iff.1 h0).1
    have hp0 := hp p0 (List.mem_of_getElem? h0)
    rw [decide_eq_false (by omega), cond_false, get0 h0, Option.bind_some]
    by_cases hz : p0.length = 0
    · rw [decide_eq_true (by omega), cond_true]
      refine ⟨false, rfl, ⟨fun h => (by cases h), fun h => ?_⟩⟩
      obtain ⟨p1, h1, h2, _⟩ := tr_ok h
      rw [h0] at h1; obtain rfl := Option.some.inj h1; omega
    rw [decide_eq_false (by omega), cond_false]
    obtain ⟨r, hr, hc⟩ := ptr_check h0 hl hp
    rw [hr, Option.bind_some]
    rcases hc with ⟨v, rfl, hc⟩ | ⟨rfl, p, hpm, hc⟩
    · obtain ⟨fs, f1, f2, f3⟩ := lf_of hc
      generalize hN : p0.length = N at hz hc f1 f2 hp0
      dsimp only
      have hg : Ev.get (List.replicate ((N : Int)).toNat false) 0 = some false := get0 (by rw [show ((N : Int)).toNat = N by omega, List.getElem?_replicate, if_pos (by omega)])
      rw [Option.bind_some, hN, pos_ok (by omega) (by omega), Option.bind_some, hg, Option.bind_some, show ((N : Int)).toNat = N by omega, mk_zero, f2]
      obtain ⟨rs, v2, k1, k2, k3, k4⟩ := bfs_out (N := N) f1 (by omega) (by omega) (by omega)
      rw [k1, Option.bind_some]
      refine ⟨_, rfl, ?_⟩
      rw [tr_iff (by omega) (fun e => by rw [e] at f3; simp at f3; omega) f1, decide_eq_true_eq, ci_len, List.length_replicate]
      constructor
      · intro e x hx
        exact (k4 x).1 ((sub_nodup k2 (fun y hy => List.mem_range.2 (k3 y hy)) (by simp; omega)).2 x (List.mem_range.2 hx))
      · intro h
        have hpr : rs.Perm (List.range N) := by
          rw [List.perm_ext_iff_of_nodup k2 List.nodup_range]
          intro x
          rw [List.mem_range]
          exact ⟨k3 x, fun hx => (k4 x).2 (h x hx)⟩
        have := hpr.length_eq
        rw [List.length_range] at this
        omega
    · refine ⟨false, rfl, ⟨fun h => (by cases h), fun h => ?_⟩⟩
      obtain ⟨p1, h1, h2, h3⟩ := tr_ok h
      rw [h0] at h1; obtain rfl := Option.some.inj h1
      exact absurd (h3 p hpm) hc
/-! The passes of the reference. -/
def P3 (fs : List (Nat → Nat)) (v : Nat) (P : Nat → Bool) (x : Nat) : Bool := P x || (P v && fs.any fun f => f v == x)
def swp (fs : List (Nat → Nat)) (P : Nat → Bool) : Nat → Nat → Bool
  | 0 => P
  | v + 1 => P3 fs v (swp fs P v)
def pas (N : Nat) (fs : List (Nat → Nat)) : Nat → Nat → Bool
  | 0 => fun x => x == 0
  | t + 1 => swp fs (pas N fs t) N
theorem b3_eq (hf : Pms' N fs) (hN : N ≤ 1000) (hl : fs.length ≤ 1000) {v : Nat} (hv : v < N) (P : Nat → Bool) : loopN 200000000 (F.ref30_Transitive_b3 200000000 (lf N fs) (v : Int)) (0, bl N P) = some ((fs.length : Int), bl N (P3 fs v P)) := by
  have := count_loop (body := F.ref30_Transitive_b3 200000000 (lf N fs) (v : Int)) (fun k => ((k : Int), bl N (P3 (fs.take k) v P))) fs.length (r := ((fs.length : Int), bl N (P3 fs v P))) (fun k hk => by
    have hfa : fs[k]? = some fs[k] := List.getElem?_eq_getElem hk
    obtain ⟨g, hp⟩ := hf fs[k] (List.getElem_mem _)
    have hfv := hp.lt hv
    have hPv : P3 (fs.take k) v P v = P v := by unfold P3; cases P v <;> simp
    unfold F.ref30_Transitive_b3
    dsimp only
    rw [lf_len, decide_eq_true (by omega), cond_true, get_bl hv, Option.bind_some, hPv]
    cases hb : P v with
    | true =>
      rw [cond_true, get_at rfl (lf_at hfa), Option.bind_some, get_li (by omega) (by omega), Option.bind_some, Int.toNat_natCast, get_bl hfv, Option.bind_some, chk_ok (by omega) (by omega), Option.bind_some, Int.toNat_natCast, bl_set]
      congr 3
      refine bl_ext fun x hx => ?_
      unfold P3
      have hany : ((fs.take (k + 1)).any fun f => f v == x) = (((fs.take k).any fun f => f v == x) || (fs[k] v == x)) := by
        rw [List.take_add_one, hfa, List.any_append, Option.toList_some, List.any_cons, List.any_nil, Bool.or_false]
      rw [hany, hb]
      by_cases e : x = fs[k] v
      · subst e; simp
      · rw [if_neg e]
        have : (fs[k] v == x) = false := beq_eq_false_iff_ne.2 (fun h => e h.symm)
        rw [this, Bool.or_false]
    | false =>
      rw [cond_false, chk_ok (by omega) (by omega), Option.bind_some]
      congr 3
      refine bl_ext fun x hx => ?_
      unfold P3
      rw [hb]; simp) (by
    unfold F.ref30_Transitive_b3
    dsimp only
    rw [lf_len, decide_eq_false (by omega), cond_false, List.take_length]) 200000000 (by omega)
  have e : ((0 : Int), bl N P) = (((0 : Nat) : Int), bl N (P3 (fs.take 0) v P)) := by
    refine Prod.ext rfl (bl_ext fun x hx => ?_)
    unfold P3; simp
  rw [e, this]
theorem b2_eq (hf : Pms' N fs) (hN : N ≤ 1000) (hl : fs.length ≤ 1000) (P : Nat → Bool) (x97 : List Int) (hx : x97.length = N) : loopN 200000000 (F.ref30_Transitive_b2 200000000 (lf N fs) x97) (0, bl N P) = some ((N : Int), bl N (swp fs P N)) := by
  exact count_loop (body := F.ref30_Transitive_b2 200000000 (lf N fs) x97) (fun k => ((k : Int), bl N (swp fs P k))) N (fun k hk => by
    unfold F.ref30_Transitive_b2
    dsimp only
    rw [hx, decide_eq_true (by omega), cond_true, b3_eq hf hN hl hk, Option.bind_some]
    dsimp only
    rw [chk_ok (by omega) (by omega)]; rfl) (by
    unfold F.ref30_Transitive_b2
    dsimp only
    rw [hx, decide_eq_false (by omega)]; rfl) 200000000 (by omega)
theorem b1_eq (hf : Pms' N fs) (hN : N ≤ 1000) (hl : fs.length ≤ 1000) (x97 : List Int) (hx : x97.length = N) : loopN 200000000 (F.ref30_Transitive_b1 200000000 (lf N fs) x97) (0, bl N (pas N fs 0)) = some ((N : Int), bl N (pas N fs N)) := by
  exact count_loop (body := F.ref30_Transitive_b1 200000000 (lf N fs) x97) (fun k => ((k : Int), bl N (pas N fs k))) N (fun k hk => by
    unfold F.ref30_Transitive_b1
    dsimp only
    rw [hx, decide_eq_true (by omega), cond_true, b2_eq hf hN hl _ _ hx, Option.bind_some]
    dsimp only
    rw [chk_ok (by omega) (by omega)]; rfl) (by
    unfold F.ref30_Transitive_b1
    dsimp only
    rw [hx, decide_eq_false (by omega)]; rfl) 200000000 (by omega)
theorem swp_mono (P : Nat → Bool) (x : Nat) (h : P x = true) : ∀ k, swp fs P k x = true
  | 0 => h
  | k + 1 => by
    have := swp_mono P x h k
    show P3 fs k (swp fs P k) x = true
    unfold P3; rw [this]; rfl
theorem swp_step (P : Nat → Bool) {v : Nat} (h : P v = true) {f : Nat → Nat} (hfm : f ∈ fs) : ∀ k, v < k → swp fs P k (f v) = true
  | 0, hv => absurd hv (Nat.not_lt_zero _)
  | k + 1, hv => by
    show P3 fs k (swp fs P k) (f v) = true
    unfold P3
    by_cases e : v = k
    · subst e
      have h1 := swp_mono (fs := fs) P v h v
      have h2 : (fs.any fun f' => f' v == f v) = true := List.any_eq_true.2 ⟨f, hfm, beq_self_eq_true _⟩
      rw [h1, h2]; simp
    · rw [swp_step P h hfm k (by omega)]; rfl
theorem swp_in (P : Nat → Bool) (C : Nat → Prop) (hC : ∀ v, v < N → C v → ∀ f ∈ fs, C (f v)) (hP : ∀ x, P x = true → C x) : ∀ k, k ≤ N → ∀ x, swp fs P k x = true → C x
  | 0, _, x, h => hP x h
  | k + 1, hk, x, h => by
    have ih := swp_in P C hC hP k (by omega)
    have h' : P3 fs k (swp fs P k) x = true := h
    unfold P3 at h'
    rcases Bool.or_eq_true_iff.1 h' with h1 | h1
    · exact ih x h1
    · obtain ⟨h2, h3⟩ := Bool.and_eq_true_iff.1 h1
      obtain ⟨f, hfm, he⟩ := List.any_eq_true.1 h3
      have := eq_of_beq he
      subst this
      exact hC k (by omega) (ih k h2) f hfm
theorem countP_lt {α : Type} {P Q : α → Bool} : ∀ {l : List α}, (∀ x ∈ l, P x = true → Q x = true) → (∃ x ∈ l, P x = false ∧ Q x = true) → l.countP P + 1 ≤ l.countP Q
  | [], _, ⟨x, hx, _⟩ => absurd hx (by simp)
  | a :: l, h, ⟨x, hx, h1, h2⟩ => by
    rw [List.countP_cons, List.countP_cons]
    have hle : l.countP P ≤ l.countP Q := List.countP_mono_left fun y hy => h y (by simp [hy])
    rcases List.mem_cons.1 hx with rfl | hx
    · rw [h1, h2]; simp; omega
    · have := countP_lt (l := l) (fun y hy => h y (by simp [hy])) ⟨x, hx, h1, h2⟩
      by_cases e : P a = true
      · rw [if_pos e, if_pos (h a (by simp) e)]; omega
      · rw [if_neg e]; omega
theorem pas_closed (h0 : 0 < N) (hf : Pms' N fs) : ∀ t, (∀ v, v < N → pas N fs t v = true → ∀ f ∈ fs, pas N fs t (f v) = true) ∨ t + 1 ≤ (List.range N).countP (pas N fs t)
  | 0 => by
    right
    have := List.countP_pos_iff (p := pas N fs 0) (l := List.range N) |>.2 ⟨0, List.mem_range.2 h0, rfl⟩
    omega
  | t + 1 => by
    rcases pas_closed h0 hf t with hc | hc
    · left
      have e : pas N fs (t + 1) = pas N fs t := by
        funext x
        have h1 := swp_mono (fs := fs) (pas N fs t) x
        have h2 := swp_in (fs := fs) (N := N) (pas N fs t) (fun x => pas N fs t x = true) hc (fun _ h => h) N (Nat.le_refl N) x
        show swp fs (pas N fs t) N x = _
        rw [Bool.eq_iff_iff]
        exact ⟨h2, fun h => h1 h N⟩
      rw [e]; exact hc
    · by_cases hcl : ∀ v, v < N → pas N fs t v = true → ∀ f ∈ fs, pas N fs t (f v) = true
      · left
        have e : pas N fs (t + 1) = pas N fs t := by
          funext x
          have h1 := swp_mono (fs := fs) (pas N fs t) x
          have h2 := swp_in (fs := fs) (N := N) (pas N fs t) (fun x => pas N fs t x = true) hcl (fun _ h => h) N (Nat.le_refl N) x
          show swp fs (pas N fs t) N x = _
          rw [Bool.eq_iff_iff]
          exact ⟨h2, fun h => h1 h N⟩
        rw [e]; exact hcl
      · right
        have hex : ∃ v, v < N ∧ pas N fs t v = true ∧ ∃ f ∈ fs, pas N fs t (f v) = false := Classical.byContradiction fun hne => hcl fun v hv hp f hfm => by
          cases hb : pas N fs t (f v) with
          | true => rfl
          | false => exact absurd ⟨v, hv, hp, f, hfm, hb⟩ hne
        obtain ⟨v, hv, hp, f, hfm, hb⟩ := hex
        obtain ⟨g, hg⟩ := hf f hfm
        have := countP_lt (P := pas N fs t) (Q := pas N fs (t + 1)) (l := List.range N) (fun x _ h => swp_mono (pas N fs t) x h N) ⟨f v, List.mem_range.2 (hg.lt hv), hb, swp_step (pas N fs t) hp hfm N hv⟩
        omega
theorem pas_iff (h0 : 0 < N) (hf : Pms' N fs) (x : Nat) : pas N fs N x = true ↔ Rc fs 0 x := by
  have hle : (List.range N).countP (pas N fs N) ≤ N := by
    have := List.countP_le_length (p := pas N fs N) (l := List.range N)
    rwa [List.length_range] at this
  have hc : ∀ v, v < N → pas N fs N v = true → ∀ f ∈ fs, pas N fs N (f v) = true := (pas_closed h0 hf N).resolve_right (by omega)
  constructor
  · have key : ∀ t x, pas N fs t x = true → Rc fs 0 x := by
      intro t
      induction t with
      | zero => intro x hx; have : x = 0 := eq_of_beq hx; subst this; exact .refl
      | succ t ih => exact swp_in (N := N) (pas N fs t) (Rc fs 0) (fun v _ hv f hfm => .step hv hfm) ih N (Nat.le_refl N)
    exact key N x
  · intro h
    have hz : ∀ t, pas N fs t 0 = true := by
      intro t
      induction t with
      | zero => rfl
      | succ t ih => exact swp_mono (pas N fs t) 0 ih N
    have : pas N fs N x = true ∧ x < N := by
      induction h with
      | refl => exact ⟨hz N, h0⟩
      | step _ hfm ih =>
        obtain ⟨g, hg⟩ := hf _ hfm
        exact ⟨hc _ ih.2 ih.1 _ hfm, hg.lt ih.2⟩
    exact this.1
theorem b4_eq (P : Nat → Bool) (x97 : List Int) (hx : x97.length = N) (hN : N ≤ 1000) : ∃ r, loopN 200000000 (F.ref30_Transitive_b4 200000000 x97 (bl N P)) 0 = some r ∧ ((∃ v, r = .inl v ∧ ∀ x, x < N → P x = true) ∨ (r = .inr false ∧ ∃ x, x < N ∧ P x = false)) := by
  refine loop_spec (body := F.ref30_Transitive_b4 200000000 x97 (bl N P)) (fun s => ∃ k : Nat, s = (k : Int) ∧ k ≤ N ∧ ∀ j, j < k → P j = true) (fun s => N - s.toNat) _ (fun s ⟨k, e, hk, hc⟩ => ?_) 200000000 0 ⟨0, rfl, by omega, fun j hj => by omega⟩ (by simp; omega)
  subst e
  unfold F.ref30_Transitive_b4
  dsimp only
  by_cases hlt : k < N
  · rw [hx, decide_eq_true (by omega), cond_true, get_bl hlt, Option.bind_some]
    cases hb : P k with
    | true =>
      rw [Bool.not_true, cond_false, chk_ok (by omega) (by omega), Option.bind_some]
      refine .inl ⟨_, rfl, ⟨k + 1, rfl, by omega, fun j hj => ?_⟩, by omega⟩
      by_cases e : j = k
      · subst e; exact hb
      · exact hc j (by omega)
    | false =>
      rw [Bool.not_false, cond_true]
      exact .inr ⟨_, rfl, .inr ⟨rfl, k, hlt, hb⟩⟩
  · rw [hx, decide_eq_false (by omega), cond_false]
    exact .inr ⟨_, rfl, .inl ⟨_, rfl, fun x hx => hc x (by omega)⟩⟩
theorem rtrans {l : List (List Int)} (hl : l.length ≤ 1000) (hp : ∀ p ∈ l, p.length ≤ 1000) : ∃ b, F.ref30_Transitive 200000000 l = some b ∧ (b = true ↔ Tr l) := by
  unfold F.ref30_Transitive
  cases h0 : l[0]? with
  | none =>
    have hn : l.length = 0 := by rw [List.getElem?_eq_none_iff] at h0; omega
    rw [decide_eq_true (by omega), cond_true]
    refine ⟨false, rfl, ⟨fun h => (by cases h), fun h => ?_⟩⟩
    obtain ⟨p0, h1, _⟩ := tr_ok h
    rw [h0] at h1; cases h1
  | some p0 =>
    have hlen := (List.getElem?_eq_some_iff.1 h0).1
    have hp0 := hp p0 (List.mem_of_getElem? h0)
    rw [decide_eq_false (by omega), cond_false, get0 h0, Option.bind_some]
    by_cases hz : p0.length = 0
    · rw [decide_eq_true (by omega), cond_true]
      refine ⟨false, rfl, ⟨fun h => (by cases h), fun h => ?_⟩⟩
      obtain ⟨p1, h1, h2, _⟩ := tr_ok h
      rw [h0] at h1; obtain rfl := Option.some.inj h1; omega
    rw [decide_eq_false (by omega), cond_false]
    obtain ⟨r, hr, hc⟩ := rtr_check h0 hl hp
    rw [hr, Option.bind_some]
    rcases hc with ⟨v, rfl, hc⟩ | ⟨rfl, p, hpm, hc⟩
    · obtain ⟨fs, f1, f2, f3⟩ := lf_of hc
      generalize hN : p0.length = N at hz hc f1 f2 hp0
      dsimp only
      have hg : Ev.get (List.replicate ((N : Int)).toNat false) 0 = some false := get0 (by rw [show ((N : Int)).toNat = N by omega, List.getElem?_replicate, if_pos (by omega)])
      have hm : (List.replicate N false).set (0 : Int).toNat true = bl N (pas N fs 0) := by
        rw [mk_zero]
        unfold mk
        refine bl_ext fun x hx => ?_
        show decide ((x : Int) ∈ ci [0]) = (x == 0)
        rw [Bool.eq_iff_iff, decide_eq_true_eq, ci_mem, List.mem_singleton, beq_iff_eq]
      rw [Option.bind_some, hN, pos_ok (by omega) (by omega), Option.bind_some, hg, Option.bind_some, show ((N : Int)).toNat = N by omega, hm, f2, b1_eq f1 (by omega) (by omega) _ hN, Option.bind_some]
      dsimp only
      obtain ⟨r, k1, k2⟩ := b4_eq (pas N fs N) p0 hN (by omega)
      rw [k1, Option.bind_some]
      have hne : fs ≠ [] := fun e => by rw [e] at f3; simp at f3; omega
      rcases k2 with ⟨v, rfl, k2⟩ | ⟨rfl, x, hx, k2⟩
      · refine ⟨true, rfl, ⟨fun _ => ?_, fun _ => rfl⟩⟩
        rw [tr_iff (by omega) hne f1]
        intro x hx
        exact (pas_iff (by omega) f1 x).1 (k2 x hx)
      · refine ⟨false, rfl, ⟨fun h => (by cases h), fun h => ?_⟩⟩
        rw [tr_iff (by omega) hne f1] at h
        rw [(pas_iff (by omega) f1 x).2 (h x hx)] at k2
        cases k2
    · refine ⟨false, rfl, ⟨fun h => (by cases h), fun h => ?_⟩⟩
      obtain ⟨p1, h1, h2, h3⟩ := tr_ok h
      rw [h0] at h1; obtain rfl := Option.some.inj h1
      exact absurd (h3 p hpm) hc
end
end Gar
end Go.Proofs.Ytmlkiafidahnbaa
