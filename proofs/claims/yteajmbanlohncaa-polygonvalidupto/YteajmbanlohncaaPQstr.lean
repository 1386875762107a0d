/- The strands of the diagram of a code: as many as components. -/
import Derived.Test.YteajmbanlohncaaPQsph
set_option linter.unusedVariables false
set_option linter.unusedSimpArgs false
namespace Go.Proofs.Yteajmbanlohncaa
open Ev
namespace Pg
theorem turn2 (h : Nat) (hh : h ≤ 1000000) (n : Nat) : F.diagram_Turn n (h : Int) 2 = some ((turnN h 2 : Nat) : Int) := by
  have e1 : Int.tmod (h : Int) 4 = ((h % 4 : Nat) : Int) := Int.ofNat_tmod h 4
  have e2 : Int.tmod 2 4 = 2 := by decide
  have e3 : Int.tmod (((h % 4 : Nat) : Int) + 2 + 4) 4 = (((h % 4 + 2) % 4 : Nat) : Int) := by
    rw [show ((h % 4 : Nat) : Int) + 2 + 4 = ((h % 4 + 6 : Nat) : Int) from by omega]
    rw [show (4 : Int) = ((4 : Nat) : Int) from rfl, ← Int.ofNat_tmod]
    omega
  unfold F.diagram_Turn turnN
  rw [decide_eq_false (by omega), cond_false, nz_ok (by decide), Option.bind_some, e1, chk_ok (by omega) (by omega), Option.bind_some, Option.bind_some, Option.bind_some, e2, chk_ok (by omega) (by omega), Option.bind_some, chk_ok (by omega) (by omega), Option.bind_some, Option.bind_some, e3, chk_ok (by omega) (by omega), Option.bind_some]
  congr 1
  omega
def nx (μ : Nat → Nat) (h : Nat) : Nat := turnN (μ h) 2
theorem IV.pn {n : Nat} {μ : Nat → Nat} (h : IV n μ) : PI (4 * n) (nx μ) :=
  ⟨fun a ha => turnN_lt (h.lt a ha), fun a b ha hb e => by rw [← h.inv a ha, turnN_inj e, h.inv b hb]⟩
noncomputable def per {N : Nat} {f : Nat → Nat} (P : PI N f) (a : Nat) (ha : a < N) : Nat := Classical.choose (least_of (p := fun L => 0 < L ∧ it f L a = a) (Classical.choose_spec (P.period ha)))
theorem per_spec {N : Nat} {f : Nat → Nat} (P : PI N f) {a : Nat} (ha : a < N) : (0 < per P a ha ∧ it f (per P a ha) a = a) ∧ ∀ j, j < per P a ha → ¬ (0 < j ∧ it f j a = a) := by
  have h := Classical.choose_spec (least_of (p := fun L => 0 < L ∧ it f L a = a) (Classical.choose_spec (P.period ha)))
  exact ⟨h.1, h.2.2⟩
theorem per_le {N : Nat} {f : Nat → Nat} (P : PI N f) {a : Nat} (ha : a < N) : per P a ha ≤ N := by
  have hn : ((List.range (per P a ha)).map fun k => it f k a).Nodup := nodup_map List.nodup_range fun x hx y hy e => by
    have hx := List.mem_range.1 hx
    have hy := List.mem_range.1 hy
    have key : ∀ x y, x < y → y < per P a ha → it f x a = it f y a → False := fun x y h h2 e => (per_spec P ha).2 (y - x) (by omega) ⟨by omega, (P.back ha x (y - x) (by rw [show x + (y - x) = y from by omega]; exact e)).symm⟩
    rcases Nat.lt_trichotomy x y with h | h | h
    · exact (key x y h hy e).elim
    · exact h
    · exact (key y x h hx e.symm).elim
  have := nodup_lt (N := N) hn fun x hx => by
    obtain ⟨k, _, rfl⟩ := List.mem_map.1 hx
    exact P.it ha k
  rwa [List.length_map, List.length_range] at this
theorem per_all {N : Nat} {f : Nat → Nat} (P : PI N f) {a : Nat} (ha : a < N) (g : Nat) : (∃ i, i < per P a ha ∧ it f i a = g) ↔ Cn (adjI N f) a g := by
  constructor
  · rintro ⟨i, _, rfl⟩; exact P.cn ha i
  · intro h
    obtain ⟨k, rfl⟩ := P.fwd ha h
    obtain ⟨⟨h1, h2⟩, _⟩ := per_spec P ha
    refine ⟨k % per P a ha, Nat.mod_lt _ h1, ?_⟩
    have e : ∀ q r, it f (per P a ha * q + r) a = it f r a := by
      intro q
      induction q with
      | zero => intro r; simp
      | succ q ih =>
        intro r
        rw [Nat.mul_succ, Nat.add_assoc, ih]
        have : ∀ r, it f (per P a ha + r) a = it f r a := by
          intro r
          induction r with
          | zero => exact h2
          | succ r ih => show f _ = f _; rw [← ih]; rfl
        exact this r
    conv => rhs; rw [← Nat.div_add_mod k (per P a ha), e]
def cyc {N : Nat} {f : Nat → Nat} (m : Nat) (a : Nat) : List Int := (List.range m).map fun k => ((it f k a : Nat) : Int)
theorem cycle_eq {n : Nat} {M sg : List Int} {μ : Nat → Nat} (hM : MT (4 * n) M μ) (hn : n ≤ 64) {h : Nat} (hh : h < 4 * n) (lo : Int) (m : Nat) (hm : 300 < m) :
    F.diagram_cycle_diagram_Strands_c2 m (h : Int) sg M lo = some (cyc (N := 4 * n) (f := nx μ) (per hM.iv.pn h hh) h) := by
  have P := hM.iv.pn
  have hc2 : ∀ x, x < 4 * n → F.diagram_Strands_c2 m (x : Int) sg M lo = some ((nx μ x : Nat) : Int) := by
    intro x hx
    obtain ⟨q1, q2, _, _⟩ := hM.2 x hx
    unfold F.diagram_Strands_c2 F.diagram_Opposite
    rw [get_nat, q1, Option.bind_some, turn2 _ (by omega), Option.bind_some, Option.bind_some]
    rfl
  obtain ⟨⟨h1, h2⟩, h3⟩ := per_spec P hh
  have hpl := per_le P hh
  unfold F.diagram_cycle_diagram_Strands_c2
  rw [hc2 h hh, Option.bind_some]
  have h0 : (([(h : Int)] : List Int), ((nx μ h : Nat) : Int)) = (fun k : Nat => (cyc (N := 4 * n) (f := nx μ) (k + 1) h, ((it (nx μ) (k + 1) h : Nat) : Int))) 0 := by
    simp [cyc, it]
  have hl : loopN m (F.diagram_cycle_diagram_Strands_c2_b0 m (h : Int) sg M lo) ([(h : Int)], ((nx μ h : Nat) : Int)) = some (cyc (N := 4 * n) (f := nx μ) (per P h hh) h, (h : Int)) := by
    rw [h0]
    refine count_loop (fun k : Nat => (cyc (N := 4 * n) (f := nx μ) (k + 1) h, ((it (nx μ) (k + 1) h : Nat) : Int))) (per P h hh - 1) (fun k hk => ?_) ?_ m (by omega)
    · have hne : it (nx μ) (k + 1) h ≠ h := fun e => h3 (k + 1) (by omega) ⟨by omega, e⟩
      unfold F.diagram_cycle_diagram_Strands_c2_b0
      dsimp only
      rw [decide_eq_false (by omega), Bool.not_false, cond_true, lim_ok (by simp [cyc]; omega), Option.bind_some, hc2 _ (P.it hh _), Option.bind_some]
      congr 3
      unfold cyc
      rw [List.range_succ (n := k + 1), List.map_append]
      rfl
    · have e : per P h hh - 1 + 1 = per P h hh := by omega
      unfold F.diagram_cycle_diagram_Strands_c2_b0
      dsimp only
      rw [e, h2, decide_eq_true rfl, Bool.not_true, cond_false]
  rw [hl, Option.bind_some]
open Classical in
noncomputable def strs {n : Nat} {M : List Int} {μ : Nat → Nat} (hM : MT (4 * n) M μ) (sg : List Int) (k : Nat) : List (List Int) :=
  ((List.range k).filter fun h => decide (Outg sg h ∧ Rep (adjI (4 * n) (nx μ)) h)).map fun h => if hh : h < 4 * n then cyc (N := 4 * n) (f := nx μ) (per hM.iv.pn h hh) h else []
theorem strs_len {n : Nat} {M : List Int} {μ : Nat → Nat} (hM : MT (4 * n) M μ) (sg : List Int) (k : Nat) : (strs hM sg k).length = cnt k (fun h => Outg sg h ∧ Rep (adjI (4 * n) (nx μ)) h) := by
  unfold strs cnt
  rw [List.length_map]
  exact congrArg List.length (List.filter_congr fun x _ => decide_eq_decide.mpr Iff.rfl)
theorem outg_nx {sg M : List Int} {lo : Int} {μ : Nat → Nat} (D : DV sg M lo μ) {h : Nat} (hh : h < 4 * sg.length) : Outg sg (nx μ h) ↔ Outg sg h := by
  have ho := D.out h hh
  have hl := (D.mt.2 h hh).2.1
  have opp : ∀ x, x < 4 * sg.length → (Outg sg (turnN x 2) ↔ ¬ Outg sg x) := by
    intro x hx
    have hs := D.sgn _ (List.getElem_mem (show x / 4 < sg.length by omega))
    unfold Outg
    rw [show turnN x 2 / 4 = x / 4 from by unfold turnN; omega, getD_of' (show x / 4 < sg.length by omega)]
    have : turnN x 2 % 4 = (x % 4 + 2) % 4 := by unfold turnN; omega
    rw [this]
    omega
  unfold nx
  rw [opp _ hl, ho]
  exact Classical.not_not
theorem outg_cn {sg M : List Int} {lo : Int} {μ : Nat → Nat} (D : DV sg M lo μ) {a b : Nat} (h : Cn (adjI (4 * sg.length) (nx μ)) a b) : Outg sg a ↔ Outg sg b := by
  have : ∀ a b, Cn (adjI (4 * sg.length) (nx μ)) a b → Outg sg a → Outg sg b := fun a b h ha => Cn.closed (S := fun x => Outg sg x) (fun x y hx hxy => by
    obtain ⟨h1, h2, h3 | h3⟩ := hxy
    · rw [h3]; exact (outg_nx D h1).2 hx
    · rw [h3] at hx; exact (outg_nx D h2).1 hx) h ha
  exact ⟨this a b h, this b a (h.symm adjI_symm)⟩
open Classical in
theorem strands_eq {sg M : List Int} {lo : Int} {μ : Nat → Nat} (D : DV sg M lo μ) (m : Nat) (hm : 500 < m) : F.diagram_Strands m sg M lo = some (strs D.mt sg (4 * sg.length)) := by
  have h64 := D.n
  have hl := D.mt.1
  have P := D.mt.iv.pn
  let adj := adjI (4 * sg.length) (nx μ)
  unfold F.diagram_Strands
  rw [dvalid_true D m (by omega), Option.bind_some, Bool.not_true, cond_false]
  unfold F.diagram_cycles_diagram_Strands_c1_diagram_Strands_c2
  rw [pos_ok (by omega) (by omega), Option.bind_some]
  let seen : Nat → Nat → Bool := fun k g => decide (∃ h, h < k ∧ Outg sg h ∧ Cn adj h g)
  have hlp : loopN m (F.diagram_cycles_diagram_Strands_c1_diagram_Strands_c2_b0 m (M.length : Int) sg M lo) (([] : List (List Int)), 0, List.replicate (M.length : Int).toNat false) = some (strs D.mt sg (4 * sg.length), ((4 * sg.length : Nat) : Int), bset (4 * sg.length) (seen (4 * sg.length))) := by
    have h0 : (([] : List (List Int)), (0 : Int), List.replicate (M.length : Int).toNat false) = (fun k : Nat => (strs D.mt sg k, (k : Int), bset (4 * sg.length) (seen k))) 0 := by
      rw [Int.toNat_natCast, bset_rep, hl]
      dsimp only
      have : seen 0 = fun _ => false := by
        funext g
        exact decide_eq_false (by rintro ⟨h, hh, _⟩; omega)
      rw [this]
      rfl
    rw [h0]
    refine count_loop (fun k : Nat => (strs D.mt sg k, (k : Int), bset (4 * sg.length) (seen k))) (4 * sg.length) (fun k hk => ?_) ?_ m (by omega)
    · have skip : ¬ (Outg sg k ∧ Rep adj k) → strs D.mt sg (k + 1) = strs D.mt sg k := fun h => by
        unfold strs
        rw [List.range_succ, List.filter_append]
        simp [show ¬ (Outg sg k ∧ Rep (adjI (4 * sg.length) (nx μ)) k) from h]
      have hsl := strs_len D.mt sg k
      have hcl := cnt_le k (fun h => Outg sg h ∧ Rep (adjI (4 * sg.length) (nx μ)) h)
      unfold F.diagram_cycles_diagram_Strands_c1_diagram_Strands_c2_b0
      dsimp only
      rw [decide_eq_true (by omega), cond_true, get_nat, bset_get hk, Option.bind_some]
      cases hs : seen k k with
      | true =>
        obtain ⟨q, hq1, hq2, hq3⟩ := of_decide_eq_true hs
        rw [cond_true, chk_ok (by omega) (by omega), Option.bind_some, skip (fun h => h.2 q hq1 hq3)]
        have e : seen (k + 1) = seen k := by
          funext g
          refine decide_eq_decide.mpr ⟨fun ⟨h, h1, h2, h3⟩ => ?_, fun ⟨h, h1, h2, h3⟩ => ⟨h, by omega, h2, h3⟩⟩
          rcases Nat.lt_or_ge h k with z | z
          · exact ⟨h, z, h2, h3⟩
          · obtain rfl : h = k := by omega
            exact ⟨q, hq1, hq2, hq3.trans h3⟩
        rw [e]
        rfl
      | false =>
        have hns : ¬ ∃ h, h < k ∧ Outg sg h ∧ Cn adj h k := of_decide_eq_false hs
        rw [cond_false]
        have hc1 : F.diagram_Strands_c1 m (k : Int) sg M lo = some (decide (Outg sg k)) := by
          unfold F.diagram_Strands_c1
          rw [outg_eq hk h64, Option.bind_some]
        rw [hc1, Option.bind_some]
        by_cases ho : Outg sg k
        · have hr : Rep adj k := fun g hg hgk => hns ⟨g, hg, (outg_cn D hgk).2 ho, hgk⟩
          rw [decide_eq_true ho, Bool.not_true, cond_false, cycle_eq D.mt h64 hk lo m (by omega), Option.bind_some]
          have hpl := per_le P hk
          have hcl2 : (cyc (N := 4 * sg.length) (f := nx μ) (per D.mt.iv.pn k hk) k).length = per D.mt.iv.pn k hk := by simp [cyc]
          have hb1 : loopN m (F.diagram_cycles_diagram_Strands_c1_diagram_Strands_c2_b1 m (cyc (N := 4 * sg.length) (f := nx μ) (per D.mt.iv.pn k hk) k)) (0, bset (4 * sg.length) (seen k)) = some (((per D.mt.iv.pn k hk : Nat) : Int), bset (4 * sg.length) (seen (k + 1))) := by
            have h0 : ((0 : Int), bset (4 * sg.length) (seen k)) = (fun j : Nat => ((j : Int), bset (4 * sg.length) (fun g => decide (∃ i, i < j ∧ it (nx μ) i k = g) || seen k g))) 0 := by
              dsimp only
              refine Prod.ext rfl ?_
              refine bset_congr fun g hg => ?_
              rw [decide_eq_false (by rintro ⟨i, hi, _⟩; omega)]; rfl
            have h9 : (((per D.mt.iv.pn k hk : Nat) : Int), bset (4 * sg.length) (seen (k + 1))) = (fun j : Nat => ((j : Int), bset (4 * sg.length) (fun g => decide (∃ i, i < j ∧ it (nx μ) i k = g) || seen k g))) (per D.mt.iv.pn k hk) := by
              dsimp only
              congr 1
              refine bset_congr fun g hg => ?_
              rw [← Bool.decide_coe (seen k g), ← Bool.decide_or]
              refine decide_eq_decide.mpr ⟨fun ⟨h, h1, h2, h3⟩ => ?_, ?_⟩
              · rcases Nat.lt_or_ge h k with z | z
                · exact .inr (decide_eq_true ⟨h, z, h2, h3⟩)
                · obtain rfl : h = k := by omega
                  exact .inl ((per_all D.mt.iv.pn hk g).2 h3)
              · rintro (h | h)
                · exact ⟨k, by omega, ho, (per_all D.mt.iv.pn hk g).1 h⟩
                · obtain ⟨q, q1, q2, q3⟩ := of_decide_eq_true h
                  exact ⟨q, by omega, q2, q3⟩
            rw [h0, h9]
            refine count_loop (fun j : Nat => ((j : Int), bset (4 * sg.length) (fun g => decide (∃ i, i < j ∧ it (nx μ) i k = g) || seen k g))) (per D.mt.iv.pn k hk) (fun j hj => ?_) ?_ m (by omega)
            · have hx := P.it hk j
              have hgj : (cyc (N := 4 * sg.length) (f := nx μ) (per D.mt.iv.pn k hk) k)[j]? = some ((it (nx μ) j k : Nat) : Int) := by
                unfold cyc
                rw [List.getElem?_map, List.getElem?_range hj]; rfl
              unfold F.diagram_cycles_diagram_Strands_c1_diagram_Strands_c2_b1
              dsimp only
              rw [hcl2, decide_eq_true (by omega), cond_true, get_nat, hgj, Option.bind_some, get_nat, bset_get hx, Option.bind_some, chk_ok (by omega) (by omega), Option.bind_some, Int.toNat_natCast, bset_set hx]
              rw [show ((j : Int) + 1) = ((j + 1 : Nat) : Int) from by omega]
              congr 3
              refine bset_congr fun g hg => ?_
              rw [← Bool.or_assoc]
              congr 1
              rw [← Bool.decide_or]
              refine decide_eq_decide.mpr ⟨?_, fun ⟨i, h1, h2⟩ => ?_⟩
              · rintro (h | ⟨i, h1, h2⟩)
                · exact ⟨j, by omega, h.symm⟩
                · exact ⟨i, by omega, h2⟩
              · rcases Nat.lt_or_ge i j with z | z
                · exact .inr ⟨i, z, h2⟩
                · obtain rfl : i = j := by omega
                  exact .inl h2.symm
            · unfold F.diagram_cycles_diagram_Strands_c1_diagram_Strands_c2_b1
              dsimp only
              rw [hcl2, decide_eq_false (by omega), cond_false]
          rw [hb1, Option.bind_some]
          dsimp only
          rw [lim_ok (by rw [hsl]; simp; omega), Option.bind_some, chk_ok (by omega) (by omega), Option.bind_some]
          have e : strs D.mt sg (k + 1) = strs D.mt sg k ++ [cyc (N := 4 * sg.length) (f := nx μ) (per D.mt.iv.pn k hk) k] := by
            unfold strs
            rw [List.range_succ, List.filter_append, List.map_append]
            simp [show (Outg sg k ∧ Rep (adjI (4 * sg.length) (nx μ)) k) from ⟨ho, hr⟩, hk]
          rw [e]
          rfl
        · rw [decide_eq_false ho, Bool.not_false, cond_true, chk_ok (by omega) (by omega), Option.bind_some, skip (fun h => ho h.1)]
          have e : seen (k + 1) = seen k := by
            funext g
            refine decide_eq_decide.mpr ⟨fun ⟨h, h1, h2, h3⟩ => ?_, fun ⟨h, h1, h2, h3⟩ => ⟨h, by omega, h2, h3⟩⟩
            rcases Nat.lt_or_ge h k with z | z
            · exact ⟨h, z, h2, h3⟩
            · obtain rfl : h = k := by omega
              exact absurd h2 ho
          rw [e]
          rfl
    · unfold F.diagram_cycles_diagram_Strands_c1_diagram_Strands_c2_b0
      dsimp only
      rw [decide_eq_false (by omega), cond_false]
  rw [hlp, Option.bind_some, Option.bind_some]
/-- As many strands as components of the code. -/
theorem strs_comps {cs : List (List Vis)} {sg : List Int} {lo : Int} (h : GV cs sg lo) (hg : Int.tdiv (gen2 sg.length (muS sg cs)) 2 = 0) : cnt (4 * sg.length) (fun k => Outg sg k ∧ Rep (adjI (4 * sg.length) (nx (muS sg cs))) k) = cs.length := by
  have D := h.dv hg
  have P := D.mt.iv.pn
  have hr := h.2.2.2.2.2.1
  have hne := h.2.2.2.2.1
  have hnd := h.2.2.2.2.2.2.1
  have hflat : ∀ {j : Nat} (hj : j < cs.length) {v : Vis}, v ∈ cs[j] → v ∈ cs.flatten := fun {j} hj {v} hv => List.mem_flatten.2 ⟨_, List.getElem_mem hj, hv⟩
  have hnext : ∀ {j : Nat} (hj : j < cs.length) {i : Nat} (hi : i < cs[j].length), nx (muS sg cs) (outH sg cs[j][i]) = outH sg (cs[j].getD ((i + 1) % cs[j].length) v0) := by
    intro j hj i hi
    have hp : (outH sg cs[j][i], inH sg (cs[j].getD ((i + 1) % cs[j].length) v0)) ∈ allP sg cs := by
      unfold allP
      refine List.mem_flatMap.2 ⟨cs[j], List.getElem_mem hj, ?_⟩
      unfold prs
      exact List.mem_map.2 ⟨i, List.mem_range.2 hi, by rw [getD_of' hi]⟩
    unfold nx
    rw [(muS_pair h hp).2.2.1]
    unfold inH outH turnN
    split
    · split <;> omega
    · omega
  have hin : ∀ {v : Vis}, v ∈ cs.flatten → outH sg v < 4 * sg.length := fun {v} hv => (ends_lt (hr v hv).1 (hr v hv).2).2
  have hsame : ∀ {j : Nat} (hj : j < cs.length) {i : Nat} (hi : i < cs[j].length), Cn (adjI (4 * sg.length) (nx (muS sg cs))) (outH sg (cs[j].getD 0 v0)) (outH sg cs[j][i]) := by
    intro j hj i
    induction i with
    | zero => intro hi; rw [getD_of' hi]; exact .refl _
    | succ i ih =>
      intro hi
      have hs := ih (by omega)
      have hx := hnext hj (i := i) (by omega)
      rw [Nat.mod_eq_of_lt hi, getD_of' hi] at hx
      exact hs.step ⟨hin (hflat hj (List.getElem_mem _)), hin (hflat hj (List.getElem_mem _)), .inl hx.symm⟩
  have hclosed : ∀ {j : Nat} (hj : j < cs.length) {b : Nat}, Cn (adjI (4 * sg.length) (nx (muS sg cs))) (outH sg (cs[j].getD 0 v0)) b → ∃ v ∈ cs[j], b = outH sg v := by
    intro j hj b hb
    have hpos : 0 < cs[j].length := List.length_pos_iff.2 (hne _ (List.getElem_mem hj))
    refine Cn.closed (S := fun b => ∃ v ∈ cs[j], b = outH sg v) (fun x y => ?_) hb ⟨cs[j][0], List.getElem_mem _, by rw [getD_of' hpos]⟩
    rintro ⟨v, hv, rfl⟩ ⟨h1, h2, h3⟩
    obtain ⟨i, hi, rfl⟩ := List.mem_iff_getElem.1 hv
    rcases h3 with h3 | h3
    · rw [hnext hj hi] at h3
      have hm : (i + 1) % cs[j].length < cs[j].length := Nat.mod_lt _ hpos
      exact ⟨_, List.getElem_mem hm, by rw [h3, getD_of' hm]⟩
    · have hi' : (if i = 0 then cs[j].length - 1 else i - 1) < cs[j].length := by split <;> omega
      have hx := hnext hj hi'
      have e : ((if i = 0 then cs[j].length - 1 else i - 1) + 1) % cs[j].length = i := by
        split
        · rename_i h0
          rw [show cs[j].length - 1 + 1 = cs[j].length from by omega, Nat.mod_self, h0]
        · rw [show i - 1 + 1 = i from by omega, Nat.mod_eq_of_lt hi]
      rw [e, getD_of' hi, h3] at hx
      exact ⟨_, List.getElem_mem hi', (P.inj _ _ (hin (hflat hj (List.getElem_mem hi'))) h2 hx).symm⟩
  have hdis : ∀ {i j : Nat} (hi : i < cs.length) (hj : j < cs.length) {v : Vis}, v ∈ cs[i] → v ∈ cs[j] → i = j := by
    have hp := (List.pairwise_flatten.1 hnd).2
    rw [List.pairwise_iff_getElem] at hp
    intro i j hi hj v h1 h2
    rcases Nat.lt_trichotomy i j with q | q | q
    · exact absurd rfl (hp i j hi hj q v h1 v h2)
    · exact q
    · exact absurd rfl (hp j i hj hi q v h2 v h1)
  have hcov : ∀ k, k < 4 * sg.length → Outg sg k → ∃ j, ∃ hj : j < cs.length, ∃ v ∈ cs[j], k = outH sg v := by
    intro k hk ho
    have : k ∈ (allP sg cs).map (·.1) := by
      rcases h.pairs.2.2.2.2.2 k hk with hx | hx
      · exact hx
      · rw [(allP_in sg cs).mem_iff] at hx
        obtain ⟨v, hv, e⟩ := List.mem_map.1 hx
        rw [← e] at ho
        exact absurd ho (outg_in (hr v hv).1 (hr v hv).2 h.2.2.2.1)
    rw [allP_out] at this
    obtain ⟨v, hv, e⟩ := List.mem_map.1 this
    obtain ⟨w, hw, hvw⟩ := List.mem_flatten.1 hv
    obtain ⟨j, hj, rfl⟩ := List.mem_iff_getElem.1 hw
    exact ⟨j, hj, v, hvw, e.symm⟩
  have hconn : ∀ {j : Nat} (hj : j < cs.length) {v : Vis}, v ∈ cs[j] → Cn (adjI (4 * sg.length) (nx (muS sg cs))) (outH sg (cs[j].getD 0 v0)) (outH sg v) := by
    intro j hj v hv
    obtain ⟨i, hi, rfl⟩ := List.mem_iff_getElem.1 hv
    exact hsame hj hi
  classical
  have eL : cnt (4 * sg.length) (fun k => Outg sg k ∧ Rep (adjI (4 * sg.length) (nx (muS sg cs))) k) = ((List.range (4 * sg.length)).filter (fun k => decide (Outg sg k ∧ Rep (adjI (4 * sg.length) (nx (muS sg cs))) k))).length :=
    congrArg List.length (List.filter_congr fun x _ => decide_eq_decide.mpr Iff.rfl)
  rw [eL]
  apply Nat.le_antisymm
  · -- from representatives to components
    let L := (List.range (4 * sg.length)).filter (fun k => decide (Outg sg k ∧ Rep (adjI (4 * sg.length) (nx (muS sg cs))) k))
    have hL : ∀ k ∈ L, k < 4 * sg.length ∧ Outg sg k ∧ Rep (adjI (4 * sg.length) (nx (muS sg cs))) k := by
      intro k hk
      have := List.mem_filter.1 hk
      exact ⟨List.mem_range.1 this.1, of_decide_eq_true this.2⟩
    have hj : ∀ k, ∃ j, k ∈ L → ∃ hj : j < cs.length, ∃ v ∈ cs[j], k = outH sg v := by
      intro k
      by_cases hk : k ∈ L
      · obtain ⟨h1, h2, _⟩ := hL k hk
        obtain ⟨j, hj, h3⟩ := hcov k h1 h2
        exact ⟨j, fun _ => ⟨hj, h3⟩⟩
      · exact ⟨0, fun h => absurd h hk⟩
    let f : Nat → Nat := fun k => Classical.choose (hj k)
    have hf : ∀ k ∈ L, ∃ hj : f k < cs.length, ∃ v ∈ cs[f k], k = outH sg v := fun k hk => Classical.choose_spec (hj k) hk
    have hnd2 : (L.map f).Nodup := nodup_map (List.Nodup.sublist List.filter_sublist List.nodup_range) fun x hx y hy e => by
      obtain ⟨a1, v, hv, ev⟩ := hf x hx
      obtain ⟨b1, u, hu, eu⟩ := hf y hy
      have c1 := hconn a1 hv
      have c2 := hconn b1 hu
      rw [← ev] at c1
      rw [← eu] at c2
      have c3 : Cn (adjI (4 * sg.length) (nx (muS sg cs))) (outH sg (cs[f x].getD 0 v0)) y := by
        have : cs[f y] = cs[f x] := by congr 1; exact e.symm
        rw [this] at c2; exact c2
      exact rep_eq adjI_symm (hL x hx).2.2 (hL y hy).2.2 ((c1.symm adjI_symm).trans c3)
    have := nodup_lt (N := cs.length) hnd2 fun x hx => by
      obtain ⟨k, hk, rfl⟩ := List.mem_map.1 hx
      exact (hf k hk).1
    rw [List.length_map] at this
    exact this
  · -- from components to representatives
    let r : Nat → Nat := fun j => rp (adjI_symm (N := 4 * sg.length) (f := nx (muS sg cs))) (outH sg ((cs.getD j []).getD 0 v0))
    have hv0 : ∀ {j : Nat} (hj : j < cs.length), (cs.getD j []).getD 0 v0 ∈ cs[j] := by
      intro j hj
      have hpos : 0 < cs[j].length := List.length_pos_iff.2 (hne _ (List.getElem_mem hj))
      rw [getD_of' hj, getD_of' hpos]
      exact List.getElem_mem _
    have hnd2 : ((List.range cs.length).map r).Nodup := nodup_map List.nodup_range fun x hx y hy e => by
      have hx := List.mem_range.1 hx
      have hy := List.mem_range.1 hy
      have c1 := (rp_spec (adjI_symm (N := 4 * sg.length) (f := nx (muS sg cs))) (outH sg ((cs.getD x []).getD 0 v0))).2.1
      have c2 := (rp_spec (adjI_symm (N := 4 * sg.length) (f := nx (muS sg cs))) (outH sg ((cs.getD y []).getD 0 v0))).2.1
      have e' : rp (adjI_symm (N := 4 * sg.length) (f := nx (muS sg cs))) (outH sg ((cs.getD x []).getD 0 v0)) = rp (adjI_symm (N := 4 * sg.length) (f := nx (muS sg cs))) (outH sg ((cs.getD y []).getD 0 v0)) := e
      rw [e'] at c1
      have c3 := (c1.symm adjI_symm).trans c2
      rw [getD_of' hx] at c3
      obtain ⟨v, hv, ev⟩ := hclosed hx c3
      have hm := hv0 hy
      have : (cs.getD y []).getD 0 v0 = v := outH_inj (hr _ (hflat hy hm)).1 (hr _ (hflat hx hv)).1 ev
      rw [this] at hm
      exact hdis hx hy hv hm
    have := sub_len hnd2 (l2 := (List.range (4 * sg.length)).filter (fun k => decide (Outg sg k ∧ Rep (adjI (4 * sg.length) (nx (muS sg cs))) k))) fun x hx => by
      obtain ⟨j, hj, rfl⟩ := List.mem_map.1 hx
      have hj := List.mem_range.1 hj
      have hm := hv0 hj
      obtain ⟨q1, q2, q3⟩ := rp_spec (adjI_symm (N := 4 * sg.length) (f := nx (muS sg cs))) (outH sg ((cs.getD j []).getD 0 v0))
      have hlt := hin (hflat hj hm)
      have hout := outg_out (hr _ (hflat hj hm)).1 (hr _ (hflat hj hm)).2 h.2.2.2.1
      refine List.mem_filter.2 ⟨List.mem_range.2 ?_, decide_eq_true ⟨(outg_cn D q2).2 hout, q3⟩⟩
      exact Nat.lt_of_le_of_lt q1 hlt
    rw [List.length_map, List.length_range] at this
    exact this
end Pg
end Go.Proofs.Yteajmbanlohncaa
