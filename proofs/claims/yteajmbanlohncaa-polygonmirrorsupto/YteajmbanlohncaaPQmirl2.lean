/- The plain law of PolygonMirrors: the two mirrors of a list of polygons. -/
import Derived.Test.YteajmbanlohncaaPQmirlaw
set_option linter.unusedVariables false
set_option linter.unusedSimpArgs false
namespace Go.Proofs.Yteajmbanlohncaa
open Ev
namespace Pg
/-- Heights negated. -/
def gz (p : Pt) : Pt := (p.1, (p.2.1, -p.2.2))
/-- The coordinates to the right negated. -/
def gx (p : Pt) : Pt := (-p.1, (p.2.1, p.2.2))
theorem gz_fit {p : Pt} (h : Fit p) : Fit (gz p) := by unfold Fit gz at *; dsimp only; omega
theorem gx_fit {p : Pt} (h : Fit p) : Fit (gx p) := by unfold Fit gx at *; dsimp only; omega
theorem cross_ne {e f : Ed} (h : (cr e.1 e.2.1 f.1 f.2.1).1 = 1) : (e.2.1.1 - e.1.1) * (f.2.1.2.1 - f.1.2.1) - (e.2.1.2.1 - e.1.2.1) * (f.2.1.1 - f.1.1) ≠ 0 := by
 have h1 := (cr_one h).1
 have : (e.2.1.1 - e.1.1) * (f.2.1.2.1 - f.1.2.1) - (e.2.1.2.1 - e.1.2.1) * (f.2.1.1 - f.1.1) = T e.1 e.2.1 f.2.1 - T e.1 e.2.1 f.1 := by unfold T; grind
 rw [this]
 unfold Opp at h1
 omega
theorem sgE_swap {e f : Ed} (h : (cr e.1 e.2.1 f.1 f.2.1).1 = 1) : sgE f e = - sgE e f := by
 have h1 := cross_ne h
 have h2 : (f.2.1.1 - f.1.1) * (e.2.1.2.1 - e.1.2.1) - (f.2.1.2.1 - f.1.2.1) * (e.2.1.1 - e.1.1) = -((e.2.1.1 - e.1.1) * (f.2.1.2.1 - f.1.2.1) - (e.2.1.2.1 - e.1.2.1) * (f.2.1.1 - f.1.1)) := by grind
 unfold sgE
 rw [h2]
 generalize (e.2.1.1 - e.1.1) * (f.2.1.2.1 - f.1.2.1) - (e.2.1.2.1 - e.1.2.1) * (f.2.1.1 - f.1.1) = z at *
 split <;> split <;> omega
theorem cr_z {a b c d : Pt} (ha : Fit a) (hb : Fit b) (hc : Fit c) (hd : Fit d) : (cr (gz a) (gz b) (gz c) (gz d)).1 = (cr a b c d).1 ∧ ((cr a b c d).1 = 1 → (cr (gz a) (gz b) (gz c) (gz d)).2 = !(cr a b c d).2) := by
 have t : ∀ a b c, T (gz a) (gz b) (gz c) = T a b c := fun _ _ _ => rfl
 have o : ∀ a b c, On (gz a) (gz b) (gz c) ↔ On a b c := fun _ _ _ => Iff.rfl
 have u : ∀ a b c d, hU (gz a) (gz b) (gz c) (gz d) = -hU a b c d := by
  intro a b c d
  unfold hU
  simp only [t]
  unfold gz
  dsimp only
  grind
 have f1 : Fit a ∧ Fit b ∧ Fit c ∧ Fit d := ⟨ha, hb, hc, hd⟩
 have f2 : Fit (gz a) ∧ Fit (gz b) ∧ Fit (gz c) ∧ Fit (gz d) := ⟨gz_fit ha, gz_fit hb, gz_fit hc, gz_fit hd⟩
 unfold cr
 rw [if_pos f1, if_pos f2]
 simp only [t, o, u]
 by_cases h2 : Opp (T a b c) (T a b d) ∧ Opp (T c d a) (T c d b)
 ·
  rw [if_pos h2, if_pos h2]
  by_cases h3 : hU a b c d = hU c d a b
  ·
   rw [if_pos h3, if_pos (by omega)]
   exact ⟨rfl, fun h => by cases h⟩
  ·
   rw [if_neg h3, if_neg (by omega)]
   refine ⟨rfl, fun _ => ?_⟩
   dsimp only
   by_cases h4 : (T c d a < 0 ↔ T a b c < 0)
   ·
    rw [if_pos h4, if_pos h4]
    by_cases h5 : hU c d a b < hU a b c d
    · rw [decide_eq_true h5, decide_eq_false (by omega)]; rfl
    · rw [decide_eq_false h5, decide_eq_true (by omega)]; rfl
   ·
    rw [if_neg h4, if_neg h4]
    by_cases h5 : hU a b c d < hU c d a b
    · rw [decide_eq_true h5, decide_eq_false (by omega)]; rfl
    · rw [decide_eq_false h5, decide_eq_true (by omega)]; rfl
 ·
  rw [if_neg h2, if_neg h2]
  refine ⟨rfl, fun h => ?_⟩
  exfalso
  revert h
  dsimp only
  split <;> (intro h; cases h)
theorem T_x (a b c : Pt) : T (gx a) (gx b) (gx c) = -T a b c := by unfold T gx; dsimp only; grind
theorem On_x (a b c : Pt) : On (gx a) (gx b) (gx c) ↔ On a b c := by
 unfold On
 rw [T_x]
 unfold gx
 dsimp only
 omega
theorem cr_x {a b c d : Pt} (ha : Fit a) (hb : Fit b) (hc : Fit c) (hd : Fit d) : cr (gx a) (gx b) (gx c) (gx d) = cr a b c d := by
 have u : ∀ a b c d, hU (gx a) (gx b) (gx c) (gx d) = hU a b c d := by
  intro a b c d
  unfold hU
  simp only [T_x]
  unfold gx
  dsimp only
  grind
 have f1 : Fit a ∧ Fit b ∧ Fit c ∧ Fit d := ⟨ha, hb, hc, hd⟩
 have f2 : Fit (gx a) ∧ Fit (gx b) ∧ Fit (gx c) ∧ Fit (gx d) := ⟨gx_fit ha, gx_fit hb, gx_fit hc, gx_fit hd⟩
 unfold cr
 rw [if_pos f1, if_pos f2]
 simp only [T_x, On_x, u]
 have e1 : (Opp (-T a b c) (-T a b d) ∧ Opp (-T c d a) (-T c d b)) = (Opp (T a b c) (T a b d) ∧ Opp (T c d a) (T c d b)) := propext (by unfold Opp; omega)
 simp only [e1]
 by_cases h2 : Opp (T a b c) (T a b d) ∧ Opp (T c d a) (T c d b)
 ·
  rw [if_pos h2, if_pos h2]
  have e2 : (-T c d a < 0 ↔ -T a b c < 0) = (T c d a < 0 ↔ T a b c < 0) := propext (by unfold Opp at h2; omega)
  simp only [e2]
 · rw [if_neg h2, if_neg h2]
theorem anti_z {es : List Ed} (hF : FitE es) : Anti gz true es := by
 refine ⟨fun i k _ _ => Iff.rfl, fun i k _ _ => Iff.rfl, fun i k hi hk => ?_, fun i k hi hk h1 => ?_, fun i k _ _ => ⟨rfl, rfl⟩, fun i k hi hk h1 o => ?_⟩
 ·
  have a := hF.at hi
  have b := hF.at hk
  exact (cr_z a.1 a.2 b.1 b.2).1
 ·
  have a := hF.at hi
  have b := hF.at hk
  rw [(cr_z a.1 a.2 b.1 b.2).2 h1, Bool.xor_true]
 ·
  have e1 : sgE (mapE gz (eAt es i)) (mapE gz (eAt es k)) = sgE (eAt es i) (eAt es k) := rfl
  have e2 : sgE (mapE gz (eAt es k)) (mapE gz (eAt es i)) = sgE (eAt es k) (eAt es i) := rfl
  have e3 := sgE_swap h1
  rw [e1, e2]
  cases o with
  | true => simp only [Bool.xor_true, Bool.not_true, Bool.false_eq_true, if_false, if_true]; exact e3
  | false => simp only [Bool.xor_true, Bool.not_false, Bool.false_eq_true, if_false, if_true]; omega
theorem anti_x {es : List Ed} (hF : FitE es) : Anti gx false es := by
 refine ⟨fun i k _ _ => ?_, fun i k _ _ => On_x _ _ _, fun i k hi hk => ?_, fun i k hi hk h1 => ?_, fun i k _ _ => ?_, fun i k hi hk h1 o => ?_⟩
 · unfold Flat gx; dsimp only; omega
 ·
  have a := hF.at hi
  have b := hF.at hk
  rw [cr_x a.1 a.2 b.1 b.2]
 ·
  have a := hF.at hi
  have b := hF.at hk
  rw [cr_x a.1 a.2 b.1 b.2, Bool.xor_false]
 ·
  unfold prt whl mapE
  dsimp only
  rw [T_x, T_x]
  omega
 ·
  have key : ∀ e f : Ed, (e.2.1.1 - e.1.1) * (f.2.1.2.1 - f.1.2.1) - (e.2.1.2.1 - e.1.2.1) * (f.2.1.1 - f.1.1) ≠ 0 → sgE (mapE gx e) (mapE gx f) = - sgE e f := by
   intro e f h
   have h2 : ((mapE gx e).2.1.1 - (mapE gx e).1.1) * ((mapE gx f).2.1.2.1 - (mapE gx f).1.2.1) - ((mapE gx e).2.1.2.1 - (mapE gx e).1.2.1) * ((mapE gx f).2.1.1 - (mapE gx f).1.1) = -((e.2.1.1 - e.1.1) * (f.2.1.2.1 - f.1.2.1) - (e.2.1.2.1 - e.1.2.1) * (f.2.1.1 - f.1.1)) := by
    unfold mapE gx
    dsimp only
    grind
   unfold sgE
   rw [h2]
   generalize (e.2.1.1 - e.1.1) * (f.2.1.2.1 - f.1.2.1) - (e.2.1.2.1 - e.1.2.1) * (f.2.1.1 - f.1.1) = z at *
   split <;> split <;> omega
  have n1 := cross_ne h1
  have n2 : ((eAt es k).2.1.1 - (eAt es k).1.1) * ((eAt es i).2.1.2.1 - (eAt es i).1.2.1) - ((eAt es k).2.1.2.1 - (eAt es k).1.2.1) * ((eAt es i).2.1.1 - (eAt es i).1.1) ≠ 0 := by
   have : ((eAt es k).2.1.1 - (eAt es k).1.1) * ((eAt es i).2.1.2.1 - (eAt es i).1.2.1) - ((eAt es k).2.1.2.1 - (eAt es k).1.2.1) * ((eAt es i).2.1.1 - (eAt es i).1.1) = -(((eAt es i).2.1.1 - (eAt es i).1.1) * ((eAt es k).2.1.2.1 - (eAt es k).1.2.1) - ((eAt es i).2.1.2.1 - (eAt es i).1.2.1) * ((eAt es k).2.1.1 - (eAt es k).1.1)) := by grind
   omega
  cases o with
  | true => simp only [Bool.xor_false, if_true]; exact key _ _ n1
  | false => simp only [Bool.xor_false, Bool.false_eq_true, if_false]; exact key _ _ n2
theorem Vd_map {g : Pt → Pt} (hg : ∀ p, Fit p → Fit (g p)) {l : List (List Pt)} (h : Vd l) : Vd (mapL g l) := by
 refine ⟨fun p hp => ?_, by rw [mapL_sum]; exact h.2⟩
 unfold mapL at hp
 obtain ⟨q, hq, rfl⟩ := List.mem_map.1 hp
 refine ⟨by rw [List.length_map]; exact (h.1 q hq).1, fun x hx => ?_⟩
 obtain ⟨y, hy, rfl⟩ := List.mem_map.1 hx
 exact hg y ((h.1 q hq).2 y hy)
theorem movedG {g : Pt → Pt} {l : List (List Pt)} (hl : l.length ≤ 1000000) (hs : sumlen l ≤ 1000000) (n : Nat) (hn : 1000000 < n) (one : Pt → Option Pt) (hone : ∀ p ∈ l, ∀ x ∈ p, one x = some (g x))
  (b0 : List (List Pt) × Int → Option ((List (List Pt) × Int) ⊕ (List (List Pt) × Int))) (b1 : List Pt → List Pt × Int → Option ((List Pt × Int) ⊕ (List Pt × Int)))
  (h1 : ∀ p q v, b1 p (q, v) = cond (decide (v < (p.length : Int))) ((Ev.get p v).bind fun x => (one x).bind fun y => (lim (q.length + ([(y.1, (y.2.1, y.2.2))] : List Pt).length)).bind fun u => (chk (v + 1)).bind fun z => some (.inl (q ++ [(y.1, (y.2.1, y.2.2))], z))) (some (.inr (q, v))))
  (h0 : ∀ q v, v < (l.length : Int) → b0 (q, v) = (Ev.get l v).bind fun x => (loopN n (b1 x) ([], 0)).bind fun o => (lim (q.length + ([o.1] : List (List Pt)).length)).bind fun u => (chk (v + 1)).bind fun z => some (.inl (q ++ [o.1], z)))
  (h9 : ∀ q v, ¬ v < (l.length : Int) → b0 (q, v) = some (.inr (q, v))) : loopN n b0 ([], 0) = some (mapL g l, (l.length : Int)) := by
 have row : ∀ p ∈ l, loopN n (b1 p) ([], 0) = some (p.map g, (p.length : Int)) := by
  intro p hp
  have hpl := sumlen_mem hp
  have e0 : (([] : List Pt), (0 : Int)) = (fun j : Nat => ((p.take j).map g, (j : Int))) 0 := by simp
  rw [e0]
  refine count_loop (fun j : Nat => ((p.take j).map g, (j : Int))) p.length (fun j hj => ?_) ?_ n (by omega)
  ·
   have hg : p[j]? = some p[j] := List.getElem?_eq_getElem hj
   rw [h1, decide_eq_true (by omega), cond_true, get_nat, hg, Option.bind_some, hone p hp _ (List.getElem_mem hj), Option.bind_some, lim_ok (by simp; omega), Option.bind_some, chk_ok (by omega) (by omega), Option.bind_some, List.take_add_one, hg, List.map_append]
   rfl
  · rw [h1, decide_eq_false (by omega), cond_false, List.take_length]
 have e0 : (([] : List (List Pt)), (0 : Int)) = (fun j : Nat => (mapL g (l.take j), (j : Int))) 0 := by simp [mapL]
 rw [e0]
 refine count_loop (fun j : Nat => (mapL g (l.take j), (j : Int))) l.length (fun j hj => ?_) ?_ n (by omega)
 ·
  have hg : l[j]? = some l[j] := List.getElem?_eq_getElem hj
  rw [h0 _ _ (by omega), get_nat, hg, Option.bind_some, row _ (List.getElem_mem hj), Option.bind_some]
  dsimp only
  rw [lim_ok (by simp [mapL]; omega), Option.bind_some, chk_ok (by omega) (by omega), Option.bind_some, List.take_add_one, hg]
  unfold mapL
  rw [List.map_append]
  rfl
 · rw [h9 _ _ (by omega), List.take_length]
end Pg
open Pg in
theorem law46_PolygonMirrors_true (x0 : List (List (Int × (Int × Int)))) (o0 : Ev.Sh.ok (.sl (.sl (.pr (.int .i64) (.pr (.int .i64) (.int .i64))))) x0) (b0 : Ev.Sh.bulk (.sl (.sl (.pr (.int .i64) (.pr (.int .i64) (.int .i64))))) x0 ≤ 1048576) :
  ∃ n, F.law46_PolygonMirrors n x0 = some true := by
 have s1 := sumlen_bulk x0
 have s2 := len_bulk x0
 have hs1 : sumlen x0 ≤ 1048576 := Nat.le_trans s1 b0
 have hs2 : x0.length ≤ 1048576 := Nat.le_trans s2 b0
 refine ⟨200000000, ?_⟩
 unfold F.law46_PolygonMirrors
 rw [awake46, Option.bind_some, Bool.not_true, cond_false, generic_law x0 200000000 (by omega) (by omega) (by decide), Option.bind_some]
 by_cases hf : Few x0
 case neg => rw [if_neg hf]; rfl
 rw [if_pos hf]
 dsimp only
 by_cases h0 : (projS x0).2.2.2 = 0
 case neg => rw [decide_eq_false h0]; rfl
 obtain ⟨hv, hg, hG, h1, hp, hcnt⟩ := proj_parts h0
 have hf1 := hf.1
 have hf2 := hf.2
 have hF : FitE (edS 0 x0) := fit_edS 0 fun p hp => (hv.1 p hp).2
 have mz : F.law46_moved_law46_PolygonMirrors_c1 200000000 x0 = some (mapL gz x0) := by
  unfold F.law46_moved_law46_PolygonMirrors_c1
  rw [movedG (g := gz) (l := x0) (by omega) (by omega) 200000000 (by decide) (fun x => F.law46_PolygonMirrors_c1 200000000 x.1 x.2.1 x.2.2) (fun p hp x hx => by
   have hfx := (hv.1 p hp).2 x hx
   unfold Pg.Fit at hfx
   show F.law46_PolygonMirrors_c1 200000000 x.1 x.2.1 x.2.2 = some (gz x)
   unfold F.law46_PolygonMirrors_c1
   rw [chk_ok (by omega) (by omega), Option.bind_some]
   rfl) _ (fun p => F.law46_moved_law46_PolygonMirrors_c1_b1 200000000 p) (fun p q v => rfl) (fun q v h => by unfold F.law46_moved_law46_PolygonMirrors_c1_b0; dsimp only; rw [decide_eq_true h]; rfl) (fun q v h => by unfold F.law46_moved_law46_PolygonMirrors_c1_b0; dsimp only; rw [decide_eq_false h]; rfl), Option.bind_some]
 have mx : F.law46_moved_law46_PolygonMirrors_c2 200000000 x0 = some (mapL gx x0) := by
  unfold F.law46_moved_law46_PolygonMirrors_c2
  rw [movedG (g := gx) (l := x0) (by omega) (by omega) 200000000 (by decide) (fun x => F.law46_PolygonMirrors_c2 200000000 x.1 x.2.1 x.2.2) (fun p hp x hx => by
   have hfx := (hv.1 p hp).2 x hx
   unfold Pg.Fit at hfx
   show F.law46_PolygonMirrors_c2 200000000 x.1 x.2.1 x.2.2 = some (gx x)
   unfold F.law46_PolygonMirrors_c2
   rw [chk_ok (by omega) (by omega), Option.bind_some]
   rfl) _ (fun p => F.law46_moved_law46_PolygonMirrors_c2_b1 200000000 p) (fun p q v => rfl) (fun q v h => by unfold F.law46_moved_law46_PolygonMirrors_c2_b0; dsimp only; rw [decide_eq_true h]; rfl) (fun q v h => by unfold F.law46_moved_law46_PolygonMirrors_c2_b0; dsimp only; rw [decide_eq_false h]; rfl), Option.bind_some]
 have D := hG.dv h1
 have pz := proj_anti (anti_z hF) hv (Vd_map (fun _ => gz_fit) hv) hg hcnt
 have px := proj_anti (anti_x hF) hv (Vd_map (fun _ => gx_fit) hv) hg hcnt
 rw [decide_eq_true h0, Bool.not_true, cond_false, mz, Option.bind_some, proj_eq _ 200000000 (by rw [mapL_sum]; omega) (by unfold mapL; rw [List.length_map]; omega) (by decide), Option.bind_some, mx, Option.bind_some, proj_eq _ 200000000 (by rw [mapL_sum]; omega) (by unfold mapL; rw [List.length_map]; omega) (by decide), Option.bind_some, pz, px, hp]
 dsimp only
 rw [mirror_eq D _ (by decide), Option.bind_some, reflect_eq D _ (by decide), Option.bind_some]
 clear pz px hp h0
 generalize (codeS (edS 0 x0) (srt (edS 0 x0)) x0).1 = cs at *
 generalize (codeS (edS 0 x0) (srt (edS 0 x0)) x0).2.1 = sg at *
 generalize (codeS (edS 0 x0) (srt (edS 0 x0)) x0).2.2 = lo at *
 have I := D.mt.iv
 have gd : ∀ (b : Bool) (τ σ : Nat → Nat), Tau τ σ → EndsTo b sg τ → (∀ μ', IV sg.length μ' → (∀ k, k < 4 * sg.length → μ' (τ k) = τ (muS sg cs k)) → cls (4 * sg.length) (adjF sg.length μ') = cls (4 * sg.length) (adjF sg.length (muS sg cs))) →
   gdS (cs.map (List.map (fl b))) (sg.map (fun s => -s)) lo = (sg.map (fun s => -s), iL (4 * sg.length) (fun j => (τ (muS sg cs (σ j)) : Int)), lo, 0) := by
  intro b τ σ t hE hfaces
  have hG' := hG.mir b
  obtain ⟨e1, e2⟩ := mtS_mir hG t hE
  have I' := hG'.mt.iv
  rw [List.length_map] at I'
  have hgen : gen2 (sg.map (fun s => -s)).length (muS (sg.map (fun s => -s)) (cs.map (List.map (fl b)))) = gen2 sg.length (muS sg cs) := by
   unfold gen2
   rw [List.length_map, parts_mir I I' t e2, hfaces _ I' e2]
  unfold gdS
  rw [if_pos hG', if_pos (by rw [hgen]; exact h1), e1]
 have gz' := gd true (tm sg) (tmi sg) (tm_tau sg) (ends_tm D.sgn) (fun μ' I' e2 => faces_turn I I' (tm_tau sg) e2 (tm_turn sg))
 have gx' := gd false rf rf rf_tau (ends_rf D.sgn) (fun μ' I' e2 => faces_flip I I' rf_tau e2 rf_turn)
 rw [gz', gx']
 have h64 := D.n
 have q1 := equalD (sg.map (fun s => -s), iL (4 * sg.length) (fun j => (tm sg (muS sg cs (tmi sg j)) : Int)), lo, 0) 200000000 (by dsimp only; rw [List.length_map]; omega) (by dsimp only; rw [iL_len]; omega) (by dsimp only; rw [List.length_map]; omega) (by dsimp only; rw [iL_len]; omega)
 have q2 := equalD (sg.map (fun s => -s), iL (4 * sg.length) (fun j => (rf (muS sg cs (rf j)) : Int)), lo, 0) 200000000 (by dsimp only; rw [List.length_map]; omega) (by dsimp only; rw [iL_len]; omega) (by dsimp only; rw [List.length_map]; omega) (by dsimp only; rw [iL_len]; omega)
 dsimp only at q1 q2 ⊢
 rw [decide_eq_true rfl, cond_true, cond_true, cond_true, cond_true, q1, Option.bind_some, cond_true, q2, Option.bind_some]
end Go.Proofs.Yteajmbanlohncaa
