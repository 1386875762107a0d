/- Joined: PQmir, PQmirlaw. -/
import Derived.Test.YteajmbanlohncaaPQsph
import Derived.Test.YteajmbanlohncaaPQanti
/- Mirrored codes have mirrored diagrams. -/
set_option linter.unusedVariables false
set_option linter.unusedSimpArgs false
namespace Go.Proofs.Yteajmbanlohncaa
open Ev
namespace Pg
theorem cls_eq_of {N : Nat} {adj adj' : Nat → Nat → Prop} (hs : ∀ a b, adj a b → adj b a) (hs' : ∀ a b, adj' a b → adj' b a) (f g : Nat → Nat) (hf : ∀ a, a < N → f a < N) (hg : ∀ a, a < N → g a < N) (fg : ∀ a, a < N → f (g a) = a) (gf : ∀ a, a < N → g (f a) = a)
  (h1 : ∀ a b, adj a b → Cn adj' (f a) (f b)) (h2 : ∀ a b, adj' a b → Cn adj (g a) (g b)) : cls N adj = cls N adj' := by
 apply Nat.le_antisymm
 ·
  refine cls_le_of hs hs' f hf fun a b ha hb h => ?_
  have := Cn.map (f := g) h2 h
  rwa [gf a ha, gf b hb] at this
 ·
  refine cls_le_of hs' hs g hg fun a b ha hb h => ?_
  have := Cn.map (f := f) h1 h
  rwa [fg a ha, fg b hb] at this
/-- A map of half-edges that stays at the crossing, and its inverse. -/
structure Tau (τ σ : Nat → Nat) : Prop where
 q : ∀ h, τ h / 4 = h / 4
 q' : ∀ h, σ h / 4 = h / 4
 l : ∀ h, σ (τ h) = h
 r : ∀ h, τ (σ h) = h
theorem Tau.lt {τ σ : Nat → Nat} (t : Tau τ σ) {h n : Nat} (hh : h < 4 * n) : τ h < 4 * n := by have := t.q h; omega
theorem Tau.lt' {τ σ : Nat → Nat} (t : Tau τ σ) {h n : Nat} (hh : h < 4 * n) : σ h < 4 * n := by have := t.q' h; omega
theorem flat_map_fl (b : Bool) (cs : List (List Vis)) : (cs.map (List.map (fl b))).flatten = cs.flatten.map (fl b) := by
 induction cs with
 | nil => rfl
 | cons c r ih => rw [List.map_cons, List.flatten_cons, List.flatten_cons, List.map_append, ih]
theorem GV.mir {cs : List (List Vis)} {sg : List Int} {lo : Int} (h : GV cs sg lo) (b : Bool) : GV (cs.map (List.map (fl b))) (sg.map (fun s => -s)) lo := by
 obtain ⟨h1, h2, h3, h4, h5, h6, h7, h8⟩ := h
 refine ⟨by rw [List.length_map]; exact h1, h2, h3, fun s hs => ?_, fun c hc => ?_, fun v hv => ?_, ?_, ?_⟩
 ·
  obtain ⟨s', hs', rfl⟩ := List.mem_map.1 hs
  have := h4 s' hs'
  omega
 ·
  obtain ⟨c', hc', rfl⟩ := List.mem_map.1 hc
  intro e
  exact h5 c' hc' (List.map_eq_nil_iff.1 e)
 ·
  rw [flat_map_fl] at hv
  obtain ⟨v', hv', rfl⟩ := List.mem_map.1 hv
  rw [List.length_map]
  exact h6 v' hv'
 ·
  rw [flat_map_fl]
  exact nodup_map h7 fun x _ y _ e => fl_inj e
 ·
  rw [flat_map_fl, List.length_map, List.length_map]
  exact h8
/-- The ends of mirrored visits. -/
def EndsTo (b : Bool) (sg : List Int) (τ : Nat → Nat) : Prop := ∀ v : Vis, 0 ≤ v.1 → v.1 < (sg.length : Int) → outH (sg.map (fun s => -s)) (fl b v) = τ (outH sg v) ∧ inH (sg.map (fun s => -s)) (fl b v) = τ (inH sg v)
theorem allP_mir {b : Bool} {sg : List Int} {τ : Nat → Nat} (hE : EndsTo b sg τ) {cs : List (List Vis)} (hr : ∀ v ∈ cs.flatten, 0 ≤ v.1 ∧ v.1 < (sg.length : Int)) : allP (sg.map (fun s => -s)) (cs.map (List.map (fl b))) = (allP sg cs).map fun p => (τ p.1, τ p.2) := by
 induction cs with
 | nil => rfl
 | cons w r ih =>
  have hw : ∀ v ∈ w, 0 ≤ v.1 ∧ v.1 < (sg.length : Int) := fun v hv => hr v (by rw [List.flatten_cons]; exact List.mem_append_left _ hv)
  have ih' := ih fun v hv => hr v (by rw [List.flatten_cons]; exact List.mem_append_right _ hv)
  unfold allP at *
  rw [List.map_cons, List.flatMap_cons, List.flatMap_cons, List.map_append, ih']
  congr 1
  unfold prs
  rw [List.length_map, List.map_map]
  refine List.map_congr_left fun i hi => ?_
  have hi := List.mem_range.1 hi
  have hm : (i + 1) % w.length < w.length := Nat.mod_lt _ (by omega)
  have a := hw _ (List.getElem_mem hi)
  have c := hw _ (List.getElem_mem hm)
  show (outH _ ((w.map (fl b)).getD i v0), inH _ ((w.map (fl b)).getD ((i + 1) % w.length) v0)) = (τ (outH sg (w.getD i v0)), τ (inH sg (w.getD ((i + 1) % w.length) v0)))
  rw [getD_of' (by rw [List.length_map]; exact hi), getD_of' (by rw [List.length_map]; exact hm), getD_of' hi, getD_of' hm, List.getElem_map, List.getElem_map, (hE _ a.1 a.2).1, (hE _ c.1 c.2).2]
/-- The mates of the mirrored code. -/
theorem mtS_mir {b : Bool} {cs : List (List Vis)} {sg : List Int} {lo : Int} (h : GV cs sg lo) {τ σ : Nat → Nat} (t : Tau τ σ) (hE : EndsTo b sg τ) :
  mtS (sg.map (fun s => -s)) (cs.map (List.map (fl b))) = iL (4 * sg.length) (fun j => (τ (muS sg cs (σ j)) : Int)) ∧ ∀ k, k < 4 * sg.length → muS (sg.map (fun s => -s)) (cs.map (List.map (fl b))) (τ k) = τ (muS sg cs k) := by
 have h' := h.mir b
 have hp := allP_mir hE (cs := cs) h.2.2.2.2.2.1
 have hl' : (mtS (sg.map (fun s => -s)) (cs.map (List.map (fl b)))).length = 4 * sg.length := by rw [h'.mt.1, List.length_map]
 have key : ∀ k, k < 4 * sg.length → (mtS (sg.map (fun s => -s)) (cs.map (List.map (fl b))))[τ k]? = some ((τ (muS sg cs k) : Nat) : Int) ∧ muS (sg.map (fun s => -s)) (cs.map (List.map (fl b))) (τ k) = τ (muS sg cs k) := by
  intro k hk
  rcases h.pairs.2.2.2.2.2 k hk with hx | hx
  ·
   obtain ⟨⟨a, c⟩, hpm, rfl⟩ := List.mem_map.1 hx
   obtain ⟨_, _, q3, _⟩ := muS_pair h hpm
   have hm : (τ a, τ c) ∈ allP (sg.map (fun s => -s)) (cs.map (List.map (fl b))) := by
    rw [hp]; exact List.mem_map.2 ⟨(a, c), hpm, rfl⟩
   obtain ⟨r1, _, r3, _⟩ := muS_pair h' hm
   dsimp only
   rw [q3]
   exact ⟨r1, r3⟩
  ·
   obtain ⟨⟨a, c⟩, hpm, rfl⟩ := List.mem_map.1 hx
   obtain ⟨_, _, _, q4, _⟩ := muS_pair h hpm
   have hm : (τ a, τ c) ∈ allP (sg.map (fun s => -s)) (cs.map (List.map (fl b))) := by
    rw [hp]; exact List.mem_map.2 ⟨(a, c), hpm, rfl⟩
   obtain ⟨_, r2, _, r4, _⟩ := muS_pair h' hm
   dsimp only
   rw [q4]
   exact ⟨r2, r4⟩
 refine ⟨?_, fun k hk => (key k hk).2⟩
 apply List.ext_getElem?
 intro j
 by_cases hj : j < 4 * sg.length
 ·
  have := (key (σ j) (t.lt' hj)).1
  rw [t.r] at this
  rw [this, iL_get hj]
 · rw [List.getElem?_eq_none (by omega), List.getElem?_eq_none (by rw [iL_len]; omega)]
theorem parts_mir {n : Nat} {μ μ' τ σ : Nat → Nat} (h : IV n μ) (h' : IV n μ') (t : Tau τ σ) (hm : ∀ k, k < 4 * n → μ' (τ k) = τ (μ k)) : cls n (adjP n μ') = cls n (adjP n μ) := by
 refine cls_congr fun x y hx hy => ⟨fun q => Cn.map (f := id) (fun c d hcd => Cn.one ?_) q, fun q => Cn.map (f := id) (fun c d hcd => Cn.one ?_) q⟩
 ·
  obtain ⟨h1, h2, s, hs, h3⟩ := hcd
  have e := hm (σ (4 * c + s)) (t.lt' (by omega))
  rw [t.r] at e
  refine ⟨h1, h2, σ (4 * c + s) % 4, by omega, ?_⟩
  have hq := t.q' (4 * c + s)
  show μ (4 * c + σ (4 * c + s) % 4) / 4 = d
  rw [show 4 * c + σ (4 * c + s) % 4 = σ (4 * c + s) from by omega, ← t.q, ← e, h3]
 ·
  obtain ⟨h1, h2, s, hs, h3⟩ := hcd
  have e := hm (4 * c + s) (by omega)
  refine ⟨h1, h2, τ (4 * c + s) % 4, by omega, ?_⟩
  have hq := t.q (4 * c + s)
  show μ' (4 * c + τ (4 * c + s) % 4) / 4 = d
  rw [show 4 * c + τ (4 * c + s) % 4 = τ (4 * c + s) from by omega, e, t.q, h3]
/-- Turned crossings: the faces go over into faces. -/
theorem faces_turn {n : Nat} {μ μ' τ σ : Nat → Nat} (h : IV n μ) (h' : IV n μ') (t : Tau τ σ) (hm : ∀ k, k < 4 * n → μ' (τ k) = τ (μ k)) (hturn : ∀ k, turnN (τ k) 3 = τ (turnN k 3)) : cls (4 * n) (adjF n μ') = cls (4 * n) (adjF n μ) := by
 have hfc : ∀ k, k < 4 * n → fc μ' (τ k) = τ (fc μ k) := fun k hk => by unfold fc; rw [hm k hk, hturn]
 refine (cls_eq_of adjF_symm adjF_symm τ σ (fun a ha => t.lt ha) (fun a ha => t.lt' ha) (fun a _ => t.r a) (fun a _ => t.l a) (fun a b hab => ?_) (fun a b hab => ?_)).symm
 ·
  obtain ⟨h1, h2, h3⟩ := hab
  refine Cn.one ⟨t.lt h1, t.lt h2, ?_⟩
  rcases h3 with h3 | h3
  · left; rw [hfc a h1, h3]
  · right; rw [hfc b h2, h3]
 ·
  obtain ⟨h1, h2, h3⟩ := hab
  refine Cn.one ⟨t.lt' h1, t.lt' h2, ?_⟩
  have e1 := hfc (σ a) (t.lt' h1)
  have e2 := hfc (σ b) (t.lt' h2)
  rw [t.r] at e1 e2
  rcases h3 with h3 | h3
  · left; rw [h3, e1, t.l]
  · right; rw [h3, e2, t.l]
theorem turn_13 (k : Nat) : turnN (turnN k 3) 1 = k ∧ turnN (turnN k 1) 3 = k := by unfold turnN; omega
/-- Reflected crossings: the faces go over into faces, backward. -/
theorem faces_flip {n : Nat} {μ μ' τ : Nat → Nat} (h : IV n μ) (h' : IV n μ') (t : Tau τ τ) (hm : ∀ k, k < 4 * n → μ' (τ k) = τ (μ k)) (hturn : ∀ k, turnN (τ k) 3 = τ (turnN k 1)) : cls (4 * n) (adjF n μ') = cls (4 * n) (adjF n μ) := by
 have main : ∀ μ μ' : Nat → Nat, IV n μ → IV n μ' → (∀ k, k < 4 * n → μ' (τ k) = τ (μ k)) → ∀ a b, adjF n μ a b → Cn (adjF n μ') (τ (μ a)) (τ (μ b)) := by
  intro μ μ' h h' hm a b hab
  have one : ∀ a, a < 4 * n → adjF n μ' (τ (μ (fc μ a))) (τ (μ a)) := by
   intro a ha
   have hf : fc μ a < 4 * n := turnN_lt (h.lt a ha)
   refine ⟨t.lt (h.lt _ hf), t.lt (h.lt a ha), .inl ?_⟩
   unfold fc
   rw [hm _ (h.lt _ (turnN_lt (h.lt a ha))), h.inv _ (turnN_lt (h.lt a ha)), hturn, (turn_13 _).1]
  obtain ⟨h1, h2, h3 | h3⟩ := hab
  · rw [h3]; exact (Cn.one (one a h1)).symm adjF_symm
  · rw [h3]; exact Cn.one (one b h2)
 have hm' : ∀ k, k < 4 * n → μ (τ k) = τ (μ' k) := by
  intro k hk
  have := hm (τ k) (t.lt hk)
  rw [t.l] at this
  rw [this, t.l]
 refine (cls_eq_of adjF_symm adjF_symm (fun a => τ (μ a)) (fun a => τ (μ' a)) (fun a ha => t.lt (h.lt a ha)) (fun a ha => t.lt (h'.lt a ha)) (fun a ha => ?_) (fun a ha => ?_) (main μ μ' h h' hm) (main μ' μ h' h hm')).symm
 ·
  show τ (μ (τ (μ' a))) = a
  rw [hm' _ (h'.lt a ha), t.l, h'.inv a ha]
 ·
  show τ (μ' (τ (μ a))) = a
  rw [hm _ (h.lt a ha), t.l, h.inv a ha]
end Pg
end Go.Proofs.Yteajmbanlohncaa

/- The plain law of PolygonMirrors. -/
set_option linter.unusedVariables false
set_option linter.unusedSimpArgs false
namespace Go.Proofs.Yteajmbanlohncaa
open Ev
namespace Pg
/-- Where the mirror moves a half-edge. -/
def tm (sg : List Int) (h : Nat) : Nat := if sg.getD (h / 4) 0 = 1 then turnN h 1 else turnN h 3
def tmi (sg : List Int) (h : Nat) : Nat := if sg.getD (h / 4) 0 = 1 then turnN h 3 else turnN h 1
theorem turn_q (h k : Nat) : turnN h k / 4 = h / 4 := by unfold turnN; omega
theorem tm_tau (sg : List Int) : Tau (tm sg) (tmi sg) := by
 refine ⟨fun h => ?_, fun h => ?_, fun h => ?_, fun h => ?_⟩
 · unfold tm; split <;> exact turn_q _ _
 · unfold tmi; split <;> exact turn_q _ _
 ·
  unfold tmi tm
  by_cases e : sg.getD (h / 4) 0 = 1
  · rw [if_pos e, turn_q, if_pos e, (turn_13 h).2]
  · rw [if_neg e, turn_q, if_neg e, (turn_13 h).1]
 ·
  unfold tmi tm
  by_cases e : sg.getD (h / 4) 0 = 1
  · rw [if_pos e, turn_q, if_pos e, (turn_13 h).1]
  · rw [if_neg e, turn_q, if_neg e, (turn_13 h).2]
theorem tm_turn (sg : List Int) (k : Nat) : turnN (tm sg k) 3 = tm sg (turnN k 3) := by
 unfold tm
 rw [turn_q]
 split <;> (unfold turnN; omega)
/-- Where the reflection moves a half-edge. -/
def rf (h : Nat) : Nat := 4 * (h / 4) + (4 - h % 4) % 4
theorem rf_tau : Tau rf rf := by
 refine ⟨fun h => ?_, fun h => ?_, fun h => ?_, fun h => ?_⟩ <;> (unfold rf; omega)
theorem rf_turn (k : Nat) : turnN (rf k) 3 = rf (turnN k 1) := by unfold turnN rf; omega
theorem neg_get {sg : List Int} {c : Nat} (hc : c < sg.length) : (sg.map (fun s => -s)).getD c 0 = -(sg.getD c 0) := by
 rw [getD_of' (by rw [List.length_map]; exact hc), getD_of' hc, List.getElem_map]
theorem ends_tm {sg : List Int} (hs : ∀ s ∈ sg, s = 1 ∨ s = -1) : EndsTo true sg (tm sg) := by
 intro v h0 h1
 obtain ⟨c, o⟩ := v
 obtain ⟨d, rfl⟩ : ∃ d : Nat, c = (d : Int) := ⟨c.toNat, by dsimp only at h0; omega⟩
 dsimp only at h0 h1
 have hd : d < sg.length := by omega
 have hsv := hs _ (List.getElem_mem hd)
 unfold outH inH tm fl
 dsimp only
 rw [Int.toNat_natCast, neg_get hd, getD_of' hd]
 have q : ∀ k, k < 4 → (4 * d + k) / 4 = d := fun k hk => by omega
 cases o with
 | false =>
  simp only [Bool.false_xor, if_true, Bool.false_eq_true, if_false]
  rw [q 2 (by omega), q 0 (by omega), getD_of' hd]
  rcases hsv with e | e <;> rw [e] <;> simp [turnN] <;> omega
 | true =>
  simp only [Bool.true_xor, Bool.not_true, Bool.false_eq_true, if_false, if_true]
  rcases hsv with e | e <;> rw [e] <;> simp [turnN]
  · rw [q 1 (by omega), q 3 (by omega), List.getElem?_eq_getElem hd, e]; simp
  · rw [q 1 (by omega), q 3 (by omega), List.getElem?_eq_getElem hd, e]; simp
theorem ends_rf {sg : List Int} (hs : ∀ s ∈ sg, s = 1 ∨ s = -1) : EndsTo false sg rf := by
 intro v h0 h1
 obtain ⟨c, o⟩ := v
 obtain ⟨d, rfl⟩ : ∃ d : Nat, c = (d : Int) := ⟨c.toNat, by dsimp only at h0; omega⟩
 dsimp only at h0 h1
 have hd : d < sg.length := by omega
 have hsv := hs _ (List.getElem_mem hd)
 unfold outH inH fl
 dsimp only
 rw [Int.toNat_natCast, neg_get hd, getD_of' hd]
 cases o with
 | false => simp [rf]; omega
 | true => rcases hsv with e | e <;> rw [e] <;> simp [rf] <;> omega
theorem turn_by (h : Nat) (hh : h ≤ 1000000) (b : Int) (hb : -4 < b) (hb2 : b ≤ 4) (n : Nat) : F.diagram_Turn n (h : Int) b = some ((4 * (h / 4) + (((h % 4 : Nat) : Int) + Int.tmod b 4 + 4).toNat % 4 : Nat) : Int) := by
 have e1 : Int.tmod (h : Int) 4 = ((h % 4 : Nat) : Int) := Int.ofNat_tmod h 4
 have eb : b = -3 ∨ b = -2 ∨ b = -1 ∨ b = 0 ∨ b = 1 ∨ b = 2 ∨ b = 3 ∨ b = 4 := by omega
 have hbm : -3 ≤ Int.tmod b 4 ∧ Int.tmod b 4 ≤ 3 := by rcases eb with rfl | rfl | rfl | rfl | rfl | rfl | rfl | rfl <;> decide
 unfold F.diagram_Turn
 rw [decide_eq_false (by omega), cond_false, nz_ok (by decide), Option.bind_some, e1]
 generalize Int.tmod b 4 = t at *
 obtain ⟨u, hu⟩ : ∃ u : Nat, ((h % 4 : Nat) : Int) + t + 4 = (u : Int) := ⟨(((h % 4 : Nat) : Int) + t + 4).toNat, by omega⟩
 rw [chk_ok (by omega) (by omega), Option.bind_some, Option.bind_some, Option.bind_some, chk_ok (by omega) (by omega), Option.bind_some, chk_ok (by omega) (by omega), Option.bind_some, Option.bind_some, hu, Int.toNat_natCast, show Int.tmod (u : Int) 4 = ((u % 4 : Nat) : Int) from Int.ofNat_tmod u 4, chk_ok (by omega) (by omega), Option.bind_some]
 congr 1
 omega
theorem move_tm {sg : List Int} {h : Nat} (hh : h < 4 * sg.length) (hs : sg.length ≤ 64) (M : List Int) (lo : Int) (n : Nat) : F.mirror_move_c1 n (h : Int) sg M lo = some ((tm sg h : Nat) : Int) := by
 have e1 : Int.tdiv (h : Int) 4 = ((h / 4 : Nat) : Int) := Int.ofNat_tdiv h 4
 have hl : h / 4 < sg.length := by omega
 unfold F.mirror_move_c1 F.mirror_exchange_c1 F.mirror_Mirror_c1 tm
 rw [nz_ok (by decide), Option.bind_some, e1, chk_ok (by omega) (by omega), Option.bind_some, Option.bind_some, Option.bind_some, Bool.not_true, cond_false, get_nat, List.getElem?_eq_getElem hl, Option.bind_some, getD_of' hl]
 by_cases e : sg[h / 4] = 1
 ·
  rw [decide_eq_true e, cond_true, Option.bind_some, turn_by h (by omega) _ (by decide) (by decide), Option.bind_some, if_pos e]
  unfold turnN
  rw [show Int.tmod (-3) 4 = -3 from by decide]
  congr 2
  omega
 ·
  rw [decide_eq_false e, cond_false, Option.bind_some, turn_by h (by omega) _ (by decide) (by decide), Option.bind_some, if_neg e]
  unfold turnN
  rw [show Int.tmod (-1) 4 = -1 from by decide]
  congr 2
  omega
theorem move_rf {h : Nat} (hh : h ≤ 1000) (n : Nat) : F.mirror_move_c1_v2 n (h : Int) = some ((rf h : Nat) : Int) := by
 have e1 : Int.tdiv (h : Int) 4 = ((h / 4 : Nat) : Int) := Int.ofNat_tdiv h 4
 have e2 : Int.tmod (h : Int) 4 = ((h % 4 : Nat) : Int) := Int.ofNat_tmod h 4
 unfold F.mirror_move_c1_v2 F.mirror_Reflect_c1 rf
 rw [nz_ok (by decide), Option.bind_some, e1, chk_ok (by omega) (by omega), Option.bind_some, Option.bind_some, e2, chk_ok (by omega) (by omega), Option.bind_some, chk_ok (by omega) (by omega), Option.bind_some, Option.bind_some, turn_by h (by omega) _ (by omega) (by omega), Option.bind_some]
 congr 2
 have : h % 4 = 0 ∨ h % 4 = 1 ∨ h % 4 = 2 ∨ h % 4 = 3 := by omega
 rcases this with e | e | e | e <;> rw [e]
 · rw [show Int.tmod (4 - 2 * ((0 : Nat) : Int)) 4 = 0 from by decide]; omega
 · rw [show Int.tmod (4 - 2 * ((1 : Nat) : Int)) 4 = 2 from by decide]; omega
 · rw [show Int.tmod (4 - 2 * ((2 : Nat) : Int)) 4 = 0 from by decide]; omega
 · rw [show Int.tmod (4 - 2 * ((3 : Nat) : Int)) 4 = -2 from by decide]; omega
theorem neg_list {sg : List Int} : sg.map (fun s => -s) = iL sg.length (fun c => -(sg.getD c 0)) := by
 apply List.ext_getElem?
 intro j
 by_cases hj : j < sg.length
 · rw [List.getElem?_map, List.getElem?_eq_getElem hj, iL_get hj, getD_of' hj]; rfl
 · rw [List.getElem?_eq_none (by simp; omega), List.getElem?_eq_none (by rw [iL_len]; omega)]
theorem signs_loop {sg : List Int} (hs : ∀ s ∈ sg, s = 1 ∨ s = -1) (hl : sg.length ≤ 64) (body : Int × List Int → Option ((Int × List Int) ⊕ (Int × List Int)))
  (hb : ∀ v q, body (v, q) = cond (decide (v < (sg.length : Int))) ((Ev.get sg v).bind fun x => (chk (x * (-1))).bind fun z => (Ev.get q v).bind fun y => (chk (v + 1)).bind fun u => some (.inl (u, q.set v.toNat z))) (some (.inr (v, q)))) (n : Nat) (hn : 100 < n) :
  loopN n body (0, List.replicate (sg.length : Int).toNat (0 : Int)) = some ((sg.length : Int), sg.map (fun s => -s)) := by
 have h0 : ((0 : Int), List.replicate (sg.length : Int).toNat (0 : Int)) = (fun k : Nat => ((k : Int), iL sg.length (fun c => if c < k then -(sg.getD c 0) else 0))) 0 := by
  rw [Int.toNat_natCast, iL_rep]; rfl
 rw [h0, neg_list]
 refine count_loop (fun k : Nat => ((k : Int), iL sg.length (fun c => if c < k then -(sg.getD c 0) else 0))) sg.length (fun k hk => ?_) ?_ n (by omega)
 ·
  have := hs _ (List.getElem_mem hk)
  rw [hb, decide_eq_true (by omega), cond_true, get_nat, List.getElem?_eq_getElem hk, Option.bind_some, chk_ok (by omega) (by omega), Option.bind_some, get_nat, iL_get hk, Option.bind_some, chk_ok (by omega) (by omega), Option.bind_some, Int.toNat_natCast, iL_set]
  rw [show ((k : Int) + 1) = ((k + 1 : Nat) : Int) from by omega]
  congr 3
  refine iL_congr fun j hj => ?_
  by_cases e : j = k
  · subst e; rw [if_pos rfl, if_pos (by omega), getD_of' hk]; omega
  ·
   rw [if_neg e]
   by_cases h : j < k
   · rw [if_pos h, if_pos (by omega)]
   · rw [if_neg h, if_neg (by omega)]
 ·
  rw [hb, decide_eq_false (by omega), cond_false]
  congr 3
  refine iL_congr fun j hj => by rw [if_pos hj]
theorem moves_loop {n : Nat} {M : List Int} {μ : Nat → Nat} (hM : MT (4 * n) M μ) (hn : n ≤ 64) {τ σ : Nat → Nat} (t : Tau τ σ) (mv : Int → Option Int) (hmv : ∀ h, h < 4 * n → mv (h : Int) = some ((τ h : Nat) : Int)) (body : Int × List Int → Option ((Int × List Int) ⊕ (Int × List Int)))
  (hb : ∀ v q, body (v, q) = cond (decide (v < (M.length : Int))) ((Ev.get M v).bind fun x => (mv v).bind fun y => (mv x).bind fun z => (Ev.get q y).bind fun u => (chk (v + 1)).bind fun c => some (.inl (c, q.set y.toNat z))) (some (.inr (v, q)))) (m : Nat) (hm : 300 < m) :
  loopN m body (0, List.replicate (M.length : Int).toNat (0 : Int)) = some ((M.length : Int), iL (4 * n) (fun j => (τ (μ (σ j)) : Int))) := by
 have hl := hM.1
 have h0 : ((0 : Int), List.replicate (M.length : Int).toNat (0 : Int)) = (fun k : Nat => ((k : Int), iL (4 * n) (fun j => if σ j < k then (τ (μ (σ j)) : Int) else 0))) 0 := by
  rw [Int.toNat_natCast, iL_rep, hl]; rfl
 rw [h0, hl]
 refine count_loop (fun k : Nat => ((k : Int), iL (4 * n) (fun j => if σ j < k then (τ (μ (σ j)) : Int) else 0))) (4 * n) (fun k hk => ?_) ?_ m (by omega)
 ·
  obtain ⟨q1, q2, _, _⟩ := hM.2 k hk
  rw [hb, decide_eq_true (by omega), cond_true, get_nat, q1, Option.bind_some, hmv k hk, Option.bind_some, hmv _ q2, Option.bind_some, get_nat, iL_get (t.lt hk), Option.bind_some, chk_ok (by omega) (by omega), Option.bind_some, Int.toNat_natCast, iL_set]
  rw [show ((k : Int) + 1) = ((k + 1 : Nat) : Int) from by omega]
  congr 3
  refine iL_congr fun j hj => ?_
  by_cases e : j = τ k
  · subst e; rw [if_pos rfl, t.l, if_pos (by omega)]
  ·
   have hne : σ j ≠ k := fun h => e (by rw [← h, t.r])
   rw [if_neg e]
   by_cases h : σ j < k
   · rw [if_pos h, if_pos (by omega)]
   · rw [if_neg h, if_neg (by omega)]
 ·
  rw [hb, decide_eq_false (by omega), cond_false]
  congr 3
  refine iL_congr fun j hj => by rw [if_pos (t.lt' hj)]
theorem mirror_eq {sg M : List Int} {lo : Int} {μ : Nat → Nat} (D : DV sg M lo μ) (m : Nat) (hm : 500 < m) : F.mirror_Mirror m sg M lo = some (sg.map (fun s => -s), iL (4 * sg.length) (fun j => (tm sg (μ (tmi sg j)) : Int)), lo, 0) := by
 have h64 := D.n
 have hl := D.mt.1
 unfold F.mirror_Mirror F.mirror_exchange_mirror_Mirror_c1 F.mirror_move_mirror_exchange_c1_mirror_exchange_c2
 rw [dvalid_true D m (by omega), Option.bind_some, Bool.not_true, cond_false, pos_ok (by omega) (by omega), Option.bind_some, pos_ok (by omega) (by omega), Option.bind_some]
 unfold F.mirror_move_mirror_exchange_c1_mirror_exchange_c2_j0
 rw [signs_loop D.sgn h64 _ (fun v q => rfl) m (by omega), Option.bind_some]
 dsimp only
 rw [moves_loop D.mt h64 (tm_tau sg) (fun z => F.mirror_move_c1 m z sg M lo) (fun h hh => move_tm hh h64 M lo m) _ (fun v q => rfl) m (by omega), Option.bind_some, Option.bind_some, Option.bind_some]
theorem reflect_eq {sg M : List Int} {lo : Int} {μ : Nat → Nat} (D : DV sg M lo μ) (m : Nat) (hm : 500 < m) : F.mirror_Reflect m sg M lo = some (sg.map (fun s => -s), iL (4 * sg.length) (fun j => (rf (μ (rf j)) : Int)), lo, 0) := by
 have h64 := D.n
 have hl := D.mt.1
 unfold F.mirror_Reflect F.mirror_move_mirror_Reflect_c1_mirror_Reflect_c2
 rw [dvalid_true D m (by omega), Option.bind_some, Bool.not_true, cond_false, pos_ok (by omega) (by omega), Option.bind_some, pos_ok (by omega) (by omega), Option.bind_some]
 unfold F.mirror_move_mirror_Reflect_c1_mirror_Reflect_c2_j0
 rw [signs_loop D.sgn h64 _ (fun v q => rfl) m (by omega), Option.bind_some]
 dsimp only
 rw [moves_loop D.mt h64 rf_tau (fun z => F.mirror_move_c1_v2 m z) (fun h hh => move_rf (by omega) m) _ (fun v q => rfl) m (by omega), Option.bind_some, Option.bind_some]
end Pg
end Go.Proofs.Yteajmbanlohncaa
