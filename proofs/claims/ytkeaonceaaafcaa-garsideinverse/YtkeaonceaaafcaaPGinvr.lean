/- The normal form of the inverse; the plain law of GarsideInverse. -/
import Derived.Test.YtkeaonceaaafcaaPGwrd
import Derived.Test.YtkeaonceaaafcaaPGcen
import Derived.Test.YtkeaonceaaafcaaPGsim
set_option linter.unusedVariables false
set_option linter.unusedSimpArgs false
namespace Go.Proofs.Ytkeaonceaaafcaa
open Ev
namespace Gar
section
variable {N : Nat} {H : List Nat}
theorem wd_nil {f : Nat → Nat} (h : Wd N f []) : f = fun k => k := by
  generalize hv : ([] : List Nat) = v at h
  cases h with
  | nil => rfl
  | cons => cases hv
theorem wd_rest {u v : List Nat} : ∀ {h f g : Nat → Nat}, Wd N h (u ++ v) → Wd N f u → Pm N f g → Wd N (fun k => h (g k)) v := by
  induction u with
  | nil =>
    intro h f g h1 h2 hp
    have e := wd_nil h2
    subst e
    rw [hp.id_inv]; exact h1
  | cons i u ih =>
    intro h f g h1 h2 hp
    cases h1 with
    | cons a1 a2 a3 a4 =>
      cases h2 with
      | cons b1 b2 b3 b4 =>
        have := ih a4 b4 (hp.ex a1 a2)
        have e : (fun k => h (tr i (tr i (g k)))) = fun k => h (g k) := by funext k; rw [tr_tr a1]
        rwa [e] at this
theorem ext_word : ∀ (m : Nat) {f g : Nat → Nat} {w : List Nat}, Pm N f g → N * N - inv (lst N f) = m → Wd N f w → ∃ X, Wd N (dl N) (w ++ X) := by
  intro m
  induction m using Nat.strongRecOn with
  | _ m ih =>
    intro f g w hp hm hw
    by_cases hall : ∀ j, 1 ≤ j → j < N → ds g j
    · have hg : g = dl N := ds_all hp.symm hall
      subst hg
      have hf : f = dl N := (hp.symm).uniq dl_pm
      subst hf
      exact ⟨[], by rw [List.append_nil]; exact hw⟩
    · obtain ⟨i, hi⟩ := Classical.not_forall.1 hall
      obtain ⟨i1, hi⟩ := Classical.not_imp.1 hi
      obtain ⟨i2, hi⟩ := Classical.not_imp.1 hi
      have hne : g (i - 1) ≠ g i := fun e => by have := hp.symm.inj e; omega
      have hlt : g (i - 1) < g i := by unfold ds at hi; omega
      have hup := inv_up hp i1 i2 hlt
      have hb := inv_lst_le (N := N) (fun k => tr i (f k))
      have hp' : Pm N (fun k => tr i (f k)) (fun k => g (tr i k)) := (hp.symm.ex i1 i2).symm
      obtain ⟨X, hX⟩ := ih (N * N - inv (lst N fun k => tr i (f k))) (by omega) hp' rfl (hw.snoc hp i1 i2 hlt)
      exact ⟨i :: X, by rw [List.append_assoc] at hX; exact hX⟩
theorem comp_word {f g : Nat → Nat} {w : List Nat} (hp : Pm N f g) (hw : Wd N f w) : ∃ X, Wd N (dl N) (w ++ X) ∧ Wd N (fun k => dl N (g k)) X := by
  obtain ⟨X, hX⟩ := ext_word _ hp rfl hw
  exact ⟨X, hX, wd_rest hX hw hp⟩
theorem slide_neg (hH : Wd N (dl N) H) {u : List Nat} (hu : ∀ i ∈ u, 1 ≤ i ∧ i < N) : BE N (pos u ++ neg (pos H)) (neg (pos H) ++ pos (tw N u)) := by
  have h1 := (slide hH (tw_rng hu)).be
  rw [tw_tw hu, pos_app, pos_app] at h1
  have hR := Hrg hH
  have h2 : BE N (neg (pos H) ++ (pos (tw N u) ++ pos H) ++ neg (pos H)) (neg (pos H) ++ (pos H ++ pos u) ++ neg (pos H)) := h1.app _ _
  have h3 : BE N (neg (pos H) ++ (pos (tw N u) ++ pos H) ++ neg (pos H)) (neg (pos H) ++ pos (tw N u)) := by
    have := (BE.cancel hR).left (neg (pos H) ++ pos (tw N u))
    rw [List.append_nil] at this
    simpa [List.append_assoc] using this
  have h4 : BE N (neg (pos H) ++ (pos H ++ pos u) ++ neg (pos H)) (pos u ++ neg (pos H)) := by
    have := (BE.cancel' hR).right (pos u ++ neg (pos H))
    rw [List.nil_append] at this
    simpa [List.append_assoc] using this
  exact h4.symm.trans (h2.symm.trans h3)
/-- Turned as often as the half twist is passed. -/
def tk (N : Nat) (m : Int) (u : List Nat) : List Nat := if m % 2 = 0 then u else tw N u
theorem tk_tw {m m' : Int} (h : m' = m + 1 ∨ m' = m - 1) {u : List Nat} (hu : ∀ i ∈ u, 1 ≤ i ∧ i < N) : tw N (tk N m u) = tk N m' u := by
  unfold tk
  by_cases h0 : m % 2 = 0
  · rw [if_pos h0, if_neg (by omega)]
  · rw [if_neg h0, if_pos (by omega), tw_tw hu]
theorem tk_rng {m : Int} {u : List Nat} (hu : ∀ i ∈ u, 1 ≤ i ∧ i < N) : ∀ i ∈ tk N m u, 1 ≤ i ∧ i < N := by
  unfold tk; split
  · exact hu
  · exact tw_rng hu
theorem slide_pw (hH : Wd N (dl N) H) {u : List Nat} (hu : ∀ i ∈ u, 1 ≤ i ∧ i < N) (m : Int) : BE N (pos u ++ pw H m) (pw H m ++ pos (tk N m u)) := by
  have up : ∀ m : Nat, BE N (pos u ++ pw H (m : Int)) (pw H (m : Int) ++ pos (tk N (m : Int) u)) := by
    intro m
    induction m with
    | zero => rw [show ((0 : Nat) : Int) = 0 from rfl, show pw H 0 = [] from rfl, List.append_nil, List.nil_append]; exact .refl _
    | succ m ih =>
      have e : ((m + 1 : Nat) : Int) = (m : Int) + 1 := by omega
      have h1 := (pw_up hH (m : Int)).left (pos u)
      have h2 := ih.right (pos H)
      have h3 := (slide hH (tk_rng (m := (m : Int)) hu)).be.left (pw H (m : Int))
      rw [tk_tw (m' := (m : Int) + 1) (.inl rfl) hu, pos_app, pos_app] at h3
      have h4 := (pw_up hH (m : Int)).right (pos (tk N ((m : Int) + 1) u))
      rw [e]
      refine h1.trans ?_
      rw [← List.append_assoc]
      refine h2.trans ?_
      rw [List.append_assoc]
      refine h3.trans ?_
      rw [← List.append_assoc]
      exact h4.symm
  have down : ∀ m : Nat, BE N (pos u ++ pw H (-(m : Int))) (pw H (-(m : Int)) ++ pos (tk N (-(m : Int)) u)) := by
    intro m
    induction m with
    | zero => rw [show -((0 : Nat) : Int) = 0 from rfl, show pw H 0 = [] from rfl, List.append_nil, List.nil_append]; exact .refl _
    | succ m ih =>
      have e : -((m + 1 : Nat) : Int) = -(m : Int) - 1 := by omega
      have h1 := (pw_down hH (-(m : Int))).left (pos u)
      have h2 := ih.right (neg (pos H))
      have h3 := (slide_neg hH (tk_rng (m := -(m : Int)) hu)).left (pw H (-(m : Int)))
      rw [tk_tw (m' := -(m : Int) - 1) (.inr rfl) hu] at h3
      have h4 := (pw_down hH (-(m : Int))).right (pos (tk N (-(m : Int) - 1) u))
      rw [e]
      refine h1.trans ?_
      rw [← List.append_assoc]
      refine h2.trans ?_
      rw [List.append_assoc]
      refine h3.trans ?_
      rw [← List.append_assoc]
      exact h4.symm
  rcases (show 0 ≤ m ∨ m < 0 by omega) with h | h
  · have := up m.toNat
    rwa [show ((m.toNat : Nat) : Int) = m by omega] at this
  · have := down (-m).toNat
    rwa [show -(((-m).toNat : Nat) : Int) = m by omega] at this
theorem neg_pw (hH : Wd N (dl N) H) (p : Int) : BE N (neg (pw H p)) (pw H (-p)) := by
  have h1 := pw_addz hH p (-p)
  rw [show p + -p = 0 by omega, show pw H 0 = [] from rfl] at h1
  have h2 := BE.cancel (pw_rg hH p)
  exact BE.lcan (pw_rg hH p) (h2.trans h1.symm)
/-! The factors of the inverse. -/
def star (N : Nat) (q : Pr) : Pr := (fun k => dl N (q.2 k), fun k => q.1 (dl N k))
def tnP (N : Nat) (q : Pr) : Pr := (tn N q.1, tn N q.2)
def iq (N : Nat) : List Pr → List Pr
  | [] => []
  | q :: qs => (iq N qs ++ [star N q]).map (tnP N)
theorem star_pm {q : Pr} (h : Pm N q.1 q.2) : Pm N (star N q).1 (star N q).2 :=
  ⟨fun k hk => by show dl N (q.2 k) = k; rw [h.symm.fix k hk, dl_pm.fix k hk], fun k => by show q.1 (dl N (dl N (q.2 k))) = k; rw [dl_dl, h.fg], fun k => by show dl N (q.2 (q.1 (dl N k))) = k; rw [h.gf, dl_dl]⟩
theorem fsts_tnP (qs : List Pr) : fsts (qs.map (tnP N)) = (fsts qs).map (tn N) := by unfold fsts; rw [List.map_map, List.map_map]; rfl
theorem iq_len (qs : List Pr) : (iq N qs).length = qs.length := by
  induction qs with
  | nil => rfl
  | cons q qs ih => simp [iq, ih]
theorem iq_pms {qs : List Pr} (h : Pms N qs) : Pms N (iq N qs) := by
  induction qs with
  | nil => exact fun q hq => by simp [iq] at hq
  | cons q qs ih =>
    intro x hx
    obtain ⟨y, hy, rfl⟩ := List.mem_map.1 hx
    rcases List.mem_append.1 hy with hy | hy
    · exact (ih h.drop1 y hy).tn
    · rw [List.mem_singleton] at hy; subst hy; exact (star_pm (h q (by simp))).tn
theorem inv_word (hH : Wd N (dl N) H) : ∀ {qs : List Pr} {v : List Nat}, Pms N qs → Wl N (fsts qs) v → ∃ v', Wl N (fsts (iq N qs)) v' ∧ BE N (neg (pos v)) (pw H (-(qs.length : Int)) ++ pos v') := by
  intro qs
  induction qs with
  | nil =>
    intro v hq hv
    cases hv
    exact ⟨[], .nil, .refl _⟩
  | cons q qs ih =>
    intro v hq hv
    have hv' : Wl N (q.1 :: fsts qs) v := hv
    cases hv' with
    | @cons _ _ w v1 k1 k2 =>
    have hq1 := hq q (by simp)
    obtain ⟨v2, h1, h2⟩ := ih hq.drop1 k2
    obtain ⟨X, x1, x2⟩ := comp_word hq1 k1
    have hu : Wl N (fsts (iq N qs ++ [star N q])) (v2 ++ X) := by
      have e : fsts (iq N qs ++ [star N q]) = fsts (iq N qs) ++ [(star N q).1] := by unfold fsts; rw [List.map_append]; rfl
      rw [e]
      have h4 : Wl N [(star N q).1] (X ++ []) := .cons x2 .nil
      rw [List.append_nil] at h4
      exact h1.app h4
    refine ⟨tw N (v2 ++ X), by rw [iq, fsts_tnP]; exact hu.tn, ?_⟩
    have hw : BE N (neg (pos w)) (pos X ++ neg (pos H)) := by
      have e1 : BE N (pos w ++ pos X) (pos H) := by
        have := (x1.uniq hH).be
        rwa [pos_app] at this
      have hR := Hrg hH
      have hwR : Rg N (pos w) := Rg.pos k1.rng
      have e2 := (e1.right (neg (pos H))).trans (BE.cancel hR)
      rw [List.append_assoc] at e2
      exact BE.lcan hwR ((BE.cancel hwR).trans e2.symm)
    have e3 : neg (pos (w ++ v1)) = neg (pos v1) ++ neg (pos w) := by rw [pos_app, neg_app]
    rw [e3]
    have f1 := h2.mul hw
    have f2 := (slide_neg hH hu.rng).left (pw H (-(qs.length : Int)))
    have f3 := (pw_down hH (-(qs.length : Int))).right (pos (tw N (v2 ++ X)))
    rw [show -(((q :: qs).length : Nat) : Int) = -(qs.length : Int) - 1 by rw [List.length_cons]; omega]
    refine f1.trans ?_
    have e4 : pw H (-(qs.length : Int)) ++ pos v2 ++ (pos X ++ neg (pos H)) = pw H (-(qs.length : Int)) ++ (pos (v2 ++ X) ++ neg (pos H)) := by rw [pos_app]; simp [List.append_assoc]
    rw [e4]
    refine f2.trans ?_
    rw [← List.append_assoc]
    exact f3.symm
theorem ds_tn {f g : Nat → Nat} (h : Pm N f g) {j : Nat} (h1 : 1 ≤ j) (h2 : j < N) : ds (tn N f) j ↔ ds f (N - j) := by
  unfold ds tn
  have a := h.lt (show N - 1 - j < N by omega)
  have b := h.lt (show N - 1 - (j - 1) < N by omega)
  rw [dl_lt h2, dl_lt (show j - 1 < N by omega), dl_lt a, dl_lt b, show N - 1 - (j - 1) = N - j by omega, show N - 1 - j = N - j - 1 by omega]
  rw [show N - 1 - (j - 1) = N - j by omega] at b
  rw [show N - 1 - j = N - j - 1 by omega] at a
  omega
theorem ds_dl {f g : Nat → Nat} (h : Pm N f g) {j : Nat} (h1 : 1 ≤ j) (h2 : j < N) : ds (fun k => dl N (f k)) j ↔ ¬ ds f j := by
  unfold ds
  have a := h.lt h2
  have b := h.lt (show j - 1 < N by omega)
  have hne : f (j - 1) ≠ f j := fun e => by have := h.inj e; omega
  dsimp only
  rw [dl_lt a, dl_lt b]
  omega
theorem LWp.tn {a b : Pr} (ha : Pm N a.1 a.2) (hb : Pm N b.1 b.2) (h : LWp N a b) : LWp N (tnP N a) (tnP N b) := fun j j1 j2 hd =>
  (ds_tn ha.symm j1 j2).2 (h (N - j) (by omega) (by omega) ((ds_tn hb j1 j2).1 hd))
theorem LWi.tn {qs : List Pr} (hp : Pms N qs) (h : LWi N qs) : LWi N (qs.map (tnP N)) := fun i a b ha hb => by
  rw [List.getElem?_map] at ha hb
  obtain ⟨a', ha', rfl⟩ := Option.map_eq_some_iff.1 ha
  obtain ⟨b', hb', rfl⟩ := Option.map_eq_some_iff.1 hb
  exact (h i a' b' ha' hb').tn (hp a' (List.mem_of_getElem? ha')) (hp b' (List.mem_of_getElem? hb'))
theorem LWi.snoc {qs : List Pr} {x : Pr} (h : LWi N qs) (hl : ∀ y, qs[qs.length - 1]? = some y → LWp N y x) : LWi N (qs ++ [x]) := fun i a b ha hb => by
  have hlt := (List.getElem?_eq_some_iff.1 hb).1
  rw [List.length_append, List.length_singleton] at hlt
  rw [List.getElem?_append_left (by omega)] at ha
  by_cases hi : i + 1 < qs.length
  · rw [List.getElem?_append_left hi] at hb
    exact h i a b ha hb
  · rw [List.getElem?_append_right (by omega), show i + 1 - qs.length = 0 by omega] at hb
    injection hb with hb
    subst hb
    exact hl a (by rw [show qs.length - 1 = i by omega]; exact ha)
theorem iq_lw {qs : List Pr} (hp : Pms N qs) (h : LWi N qs) : LWi N (iq N qs) := by
  induction qs with
  | nil => exact fun i a b ha => by simp [iq] at ha
  | cons q qs ih =>
    have hP := iq_pms hp.drop1
    have hq := hp q (by simp)
    have hall : Pms N (iq N qs ++ [star N q]) := fun x hx => by
      rcases List.mem_append.1 hx with hx | hx
      · exact hP x hx
      · rw [List.mem_singleton] at hx; subst hx; exact star_pm hq
    refine LWi.tn hall ((ih hp.drop1 h.tail).snoc fun y hy => ?_)
    cases qs with
    | nil => simp [iq] at hy
    | cons q2 rest =>
      have e : (iq N (q2 :: rest))[(iq N (q2 :: rest)).length - 1]? = some (tnP N (star N q2)) := by
        simp only [iq, List.length_map, List.length_append, List.length_singleton, Nat.add_sub_cancel]
        rw [List.getElem?_map, List.getElem?_append_right (Nat.le_refl _), Nat.sub_self]
        rfl
      rw [e] at hy
      injection hy with hy
      subst hy
      have hq2 := hp q2 (by simp)
      have hL : LWp N q q2 := h 0 q q2 rfl rfl
      intro j j1 j2 hd
      have h1 : ¬ ds q.2 j := (ds_dl hq.symm j1 j2).1 hd
      have h2 : ¬ ds q2.1 j := fun hc => h1 (hL j j1 j2 hc)
      have h3 := (ds_dl hq2 j1 j2).2 h2
      have e2 : (tnP N (star N q2)).2 = fun k => dl N (q2.1 k) := by
        funext k
        show dl N (q2.1 (dl N (dl N k))) = _
        rw [dl_dl]
      rw [e2]; exact h3
theorem tn_id {f : Nat → Nat} (h : tn N f = fun k => k) : f = fun k => k := by
  have := congrArg (tn N) h
  rw [tn_tn] at this
  rw [this]
  funext k
  unfold tn; rw [dl_dl]
theorem tn_dl {f : Nat → Nat} (h : tn N f = dl N) : f = dl N := by
  have := congrArg (tn N) h
  rw [tn_tn] at this
  rw [this]
  funext k
  unfold tn; rw [dl_dl]
theorem star_id {q : Pr} (hp : Pm N q.1 q.2) (h : (star N q).1 = fun k => k) : q.1 = dl N := by
  have hg : q.2 = dl N := by
    funext k
    have := congrFun h k
    have h2 : dl N (q.2 k) = k := this
    rw [← dl_dl (N := N) (q.2 k), h2]
  have hp' := hp
  rw [hg] at hp'
  exact hp'.symm.uniq dl_pm
theorem star_dl {q : Pr} (hp : Pm N q.1 q.2) (h : (star N q).1 = dl N) : q.1 = fun k => k := by
  have hg : q.2 = fun k => k := by
    funext k
    have := congrFun h k
    have h2 : dl N (q.2 k) = dl N k := this
    have h3 := congrArg (dl N) h2
    rwa [dl_dl, dl_dl] at h3
  have hp' := hp
  rw [hg] at hp'
  exact hp'.symm.uniq (Pm.id N)
theorem iq_no {qs : List Pr} (hp : Pms N qs) (h1 : ∀ q ∈ qs, q.1 ≠ fun k => k) (h2 : ∀ q ∈ qs, q.1 ≠ dl N) : (∀ q ∈ iq N qs, q.1 ≠ fun k => k) ∧ ∀ q ∈ iq N qs, q.1 ≠ dl N := by
  induction qs with
  | nil => exact ⟨fun q hq => by simp [iq] at hq, fun q hq => by simp [iq] at hq⟩
  | cons q qs ih =>
    obtain ⟨k1, k2⟩ := ih hp.drop1 (fun x hx => h1 x (by simp [hx])) (fun x hx => h2 x (by simp [hx]))
    have hq := hp q (by simp)
    constructor
    · intro x hx
      obtain ⟨y, hy, rfl⟩ := List.mem_map.1 hx
      rcases List.mem_append.1 hy with hy | hy
      · exact fun e => k1 y hy (tn_id e)
      · rw [List.mem_singleton] at hy; subst hy; exact fun e => h2 q (by simp) (star_id hq (tn_id e))
    · intro x hx
      obtain ⟨y, hy, rfl⟩ := List.mem_map.1 hx
      rcases List.mem_append.1 hy with hy | hy
      · exact fun e => k2 y hy (tn_dl e)
      · rw [List.mem_singleton] at hy; subst hy; exact fun e => h1 q (by simp) (star_dl hq (tn_dl e))
def iqs (N : Nat) (p : Int) (qs : List Pr) : List Pr := if p % 2 = 0 then iq N qs else (iq N qs).map (tnP N)
theorem nv_neg {p : Int} {qs : List Pr} {b : List Int} (h : NV N p qs b) (hb : Rg N b) : NV N (-(p + (qs.length : Int))) (iqs N p qs) (neg b) := by
  have hlen : (iqs N p qs).length = qs.length := by unfold iqs; split <;> simp [iq_len]
  have hnl : (neg b).length = b.length := by simp [neg]
  have hlo := h.lo
  have hhi := h.hi
  have hno := iq_no h.pms h.noId h.noDl
  refine ⟨?_, ?_, ?_, ?_, fun H hH => ?_, by rw [hnl]; omega, by rw [hnl, hlen]; omega⟩
  · unfold iqs; split
    · exact iq_pms h.pms
    · intro x hx
      obtain ⟨y, hy, rfl⟩ := List.mem_map.1 hx
      exact (iq_pms h.pms y hy).tn
  · unfold iqs; split
    · exact iq_lw h.pms h.lw
    · exact (iq_lw h.pms h.lw).tn (iq_pms h.pms)
  · unfold iqs; split
    · exact hno.1
    · intro x hx
      obtain ⟨y, hy, rfl⟩ := List.mem_map.1 hx
      exact fun e => hno.1 y hy (tn_id e)
  · unfold iqs; split
    · exact hno.2
    · intro x hx
      obtain ⟨y, hy, rfl⟩ := List.mem_map.1 hx
      exact fun e => hno.2 y hy (tn_dl e)
  · obtain ⟨v, v1, v2⟩ := h.ns H hH
    obtain ⟨v', w1, w2⟩ := inv_word hH h.pms v1
    have hR1 : Rg N (pw H p ++ pos v) := (pw_rg hH p).app (Rg.pos v1.rng)
    have e1 := BE.neg hb hR1 v2
    rw [neg_app] at e1
    have e2 := w2.mul (neg_pw hH p)
    have e3 := (slide_pw hH w1.rng (-p)).left (pw H (-(qs.length : Int)))
    have e4 := (pw_addz hH (-(qs.length : Int)) (-p)).right (pos (tk N (-p) v'))
    refine ⟨tk N (-p) v', ?_, ?_⟩
    · unfold iqs tk
      by_cases hp : p % 2 = 0
      · rw [if_pos hp, if_pos (by omega)]; exact w1
      · rw [if_neg hp, if_neg (by omega), fsts_tnP]; exact w1.tn
    · refine e1.trans (e2.trans ?_)
      rw [List.append_assoc]
      refine e3.trans ?_
      rw [← List.append_assoc, show -(p + (qs.length : Int)) = -(qs.length : Int) + -p by omega]
      exact e4
end
theorem neg_ok {s : Int} {w : List Int} (hv : okB s w = true) : okB s (neg w) = true := by
  obtain ⟨a1, a2, a3, a4⟩ := okB_iff.1 hv
  refine okB_iff.2 ⟨a1, a2, by simp [neg]; omega, fun x hx => ?_⟩
  have := (okB_rg hv).neg x hx
  omega
end Gar
open Gar in
theorem law34_GarsideInverse_true (x0 : Int × List Int) (o0 : Ev.Sh.ok (.pr (.int .i64) (.sl (.int .i64))) x0) : ∃ n, F.law34_GarsideInverse n x0.1 x0.2 = some true := by
  refine ⟨300000000, ?_⟩
  obtain ⟨s, w⟩ := x0
  dsimp only
  unfold F.law34_GarsideInverse
  rw [Gar.awake34, Option.bind_some, Bool.not_true, cond_false]
  by_cases hl : (40 : Int) < (w.length : Int)
  · rw [decide_eq_true hl, cond_true]; rfl
  rw [decide_eq_false hl, cond_false, braidValid _ (by omega), Option.bind_some]
  cases hv : okB s w with
  | false => rw [Bool.not_false, cond_true]; rfl
  | true =>
    obtain ⟨a1, a2, a3, a4⟩ := okB_iff.1 hv
    have hvn := neg_ok hv
    have hnl : (neg w).length = w.length := by simp [neg]
    have hR := okB_rg hv
    have hM : okB s (w ++ neg w) = true := okB_iff.2 ⟨a1, a2, by rw [List.length_append, hnl]; omega, fun x hx => by
      rcases List.mem_append.1 hx with hx | hx
      · exact a4 x hx
      · have := hR.neg x hx; omega⟩
    have h0 : okB s [] = true := okB_iff.2 ⟨a1, a2, by simp, fun x hx => by simp at hx⟩
    have hmul : F.braid_Mul 300000000 s w s (neg w) = some (s, w ++ neg w, 0) := by
      unfold F.braid_Mul
      rw [braidValid _ (by omega), Option.bind_some, hv, Bool.not_true, cond_false, braidValid _ (by omega), Option.bind_some, hvn, Bool.not_true, cond_false, decide_eq_true rfl, Bool.not_true, cond_false, chk_ok (by omega) (by omega), Option.bind_some, decide_eq_false (by omega), cond_false, concat_all _ _ (by simp; omega) (by simp) (by omega), Option.bind_some]
      simp
    have hone : F.garside_Form 300000000 s (w ++ neg w) = some (s, 0, [], 0) := by
      rw [form_be hM h0 300000000 (by omega) (BE.cancel hR)]
      obtain ⟨N, rfl⟩ : ∃ N : Nat, s = (N : Int) := ⟨s.toNat, by omega⟩
      exact form_nv (N := N) h0 300000000 (by omega) (p := 0) (qs := []) ⟨fun q hq => by simp at hq, fun i a b ha => by simp at ha, fun q hq => by simp at hq, fun q hq => by simp at hq, fun H _ => NS.nil, by simp, by simp⟩
    obtain ⟨p, qs, f1, f2⟩ := form_eq hv 300000000 (by omega)
    have hnv := nv_neg f2 hR
    have hlen : (iqs s.toNat p qs).length = qs.length := by unfold iqs; split <;> simp [iq_len]
    have f3 : F.garside_Form 300000000 s (neg w) = some (s, -(p + (qs.length : Int)), ls s.toNat (iqs s.toNat p qs), 0) := by
      obtain ⟨N, rfl⟩ : ∃ N : Nat, s = (N : Int) := ⟨s.toNat, by omega⟩
      rw [Int.toNat_natCast] at hnv ⊢
      exact form_nv (N := N) hvn 300000000 (by omega) hnv
    have c1 := garCanon hv f2 300000000 (by omega)
    have c2 := garCanon hvn hnv 300000000 (by omega)
    have hb := f2.len hv
    rw [Bool.not_true, cond_false, braidInverse hv _ (by omega), Option.bind_some]
    dsimp only
    rw [hmul, Option.bind_some]
    dsimp only
    rw [hone, Option.bind_some, f1, Option.bind_some, f3, Option.bind_some]
    dsimp only
    rw [c1, Option.bind_some, c2, Option.bind_some]
    dsimp only
    rw [decide_eq_true rfl, cond_true, cond_true, cond_true, cond_true, cond_true]
    rw [show ((([] : List (List Int)).length : Nat) : Int) = 0 from rfl, decide_eq_true rfl, cond_true, chk_ok (by omega) (by omega), Option.bind_some, decide_eq_true rfl, cond_true, chk_ok (by omega) (by omega), Option.bind_some, hlen, decide_eq_true (by omega)]
end Go.Proofs.Ytkeaonceaaafcaa
