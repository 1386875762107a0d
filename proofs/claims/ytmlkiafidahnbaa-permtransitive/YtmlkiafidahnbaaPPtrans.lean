/- Which points are reached: what the program and the reference of layer 30 find. -/
import Derived.Test.YtmlkiafidahnbaaPPtells
set_option linter.unusedVariables false
set_option linter.unusedSimpArgs false
namespace Go.Proofs.Ytmlkiafidahnbaa
open Ev
namespace Gar
/-- x is reached from a. -/
inductive Rc (fs : List (Nat → Nat)) (a : Nat) : Nat → Prop
  | refl : Rc fs a a
  | step {x : Nat} {f : Nat → Nat} : Rc fs a x → f ∈ fs → Rc fs a (f x)
def ci (rs : List Nat) : List Int := rs.map fun k : Nat => (k : Int)
theorem ci_at {rs : List Nat} {k x : Nat} (h : rs[k]? = some x) : (ci rs)[k]? = some (x : Int) := by unfold ci; rw [List.getElem?_map, h]; rfl
theorem ci_len {rs : List Nat} : (ci rs).length = rs.length := by simp [ci]
theorem ci_mem {rs : List Nat} {x : Nat} : (x : Int) ∈ ci rs ↔ x ∈ rs := by
  unfold ci
  rw [List.mem_map]
  constructor
  · rintro ⟨k, hk, e⟩
    obtain rfl : k = x := by omega
    exact hk
  · intro h; exact ⟨x, h, rfl⟩
theorem ci_snoc {rs : List Nat} {x : Nat} : ci rs ++ [(x : Int)] = ci (rs ++ [x]) := by simp [ci]
theorem nodup_len {rs : List Nat} {N : Nat} (hn : rs.Nodup) (hr : ∀ x ∈ rs, x < N) : rs.length ≤ N := by
  rcases Nat.lt_or_ge N rs.length with h | h
  · have h0 : rs ≠ [] := fun e => by subst e; simp at h
    obtain ⟨y, hy⟩ := List.exists_mem_of_ne_nil _ h0
    have := (sub_nodup (l1 := rs) (l2 := List.range N ++ [y]) hn (fun x hx => List.mem_append_left _ (List.mem_range.2 (hr x hx))) (by simp; omega)).1
    rw [List.nodup_append] at this
    exact absurd rfl (this.2.2 y (List.mem_range.2 (hr y hy)) y (by simp))
  · exact h
section
variable {N : Nat} {fs : List (Nat → Nat)}
def lf (N : Nat) (fs : List (Nat → Nat)) : List (List Int) := fs.map (li N)
theorem lf_len : (lf N fs).length = fs.length := by simp [lf]
theorem lf_at {k : Nat} {f : Nat → Nat} (h : fs[k]? = some f) : (lf N fs)[k]? = some (li N f) := by simp [lf, h]
def Pms' (N : Nat) (fs : List (Nat → Nat)) : Prop := ∀ f ∈ fs, ∃ g, Pm N f g
theorem bfs_in (hf : Pms' N fs) (hN : N ≤ 1000) (hl : fs.length ≤ 1000) {rs : List Nat} {v y : Nat} (hv : rs[v]? = some y) (hn : rs.Nodup) (hr : ∀ x ∈ rs, x < N ∧ Rc fs 0 x) :
    ∃ rs' i, loopN 200000000 (F.perm_Transitive_b2 200000000 (lf N fs) (v : Int)) (ci rs, 0, mk N (ci rs)) = some (ci rs', i, mk N (ci rs')) ∧ (∃ E, rs' = rs ++ E) ∧ rs'.Nodup ∧ (∀ x ∈ rs', x < N ∧ Rc fs 0 x) ∧ ∀ f ∈ fs, f y ∈ rs' := by
  obtain ⟨r, h1, rs', i, h2, h3, h4, h5, h6⟩ := loop_spec (body := F.perm_Transitive_b2 200000000 (lf N fs) (v : Int))
    (fun s => ∃ (rs' : List Nat) (i : Nat), s = (ci rs', (i : Int), mk N (ci rs')) ∧ i ≤ fs.length ∧ (∃ E, rs' = rs ++ E) ∧ rs'.Nodup ∧ (∀ x ∈ rs', x < N ∧ Rc fs 0 x) ∧ ∀ j f, j < i → fs[j]? = some f → f y ∈ rs')
    (fun s => fs.length - s.2.1.toNat)
    (fun r => ∃ (rs' : List Nat) (i : Int), r = (ci rs', i, mk N (ci rs')) ∧ (∃ E, rs' = rs ++ E) ∧ rs'.Nodup ∧ (∀ x ∈ rs', x < N ∧ Rc fs 0 x) ∧ ∀ f ∈ fs, f y ∈ rs')
    (fun s ⟨rs', i, e, hi, ⟨E, hE⟩, hn', hr', hc⟩ => by
      subst e
      have hy : rs'[v]? = some y := by
        rw [hE, List.getElem?_append_left (List.getElem?_eq_some_iff.1 hv).1]; exact hv
      have hym : y ∈ rs' := List.mem_of_getElem? hy
      unfold F.perm_Transitive_b2
      dsimp only
      by_cases hlt : i < fs.length
      · have hfa : fs[i]? = some fs[i] := List.getElem?_eq_getElem hlt
        obtain ⟨g, hp⟩ := hf fs[i] (List.getElem_mem _)
        have hfy := hp.lt (hr' y hym).1
        have hyl := (hr' y hym).1
        rw [lf_len, decide_eq_true (by omega), cond_true, get_at rfl (lf_at hfa), Option.bind_some, get_at rfl (ci_at hy), Option.bind_some, get_li (by omega) (by omega), Option.bind_some, Int.toNat_natCast, mk_get hfy, Option.bind_some]
        by_cases hm : fs[i] y ∈ rs'
        · rw [decide_eq_true (ci_mem.2 hm), Bool.not_true, cond_false, chk_ok (by omega) (by omega), Option.bind_some]
          refine .inl ⟨_, rfl, ⟨rs', i + 1, rfl, by omega, ⟨E, hE⟩, hn', hr', fun j f hj hjf => ?_⟩, by dsimp only; omega⟩
          by_cases e : j = i
          · subst e; rw [hfa] at hjf; obtain rfl := Option.some.inj hjf; exact hm
          · exact hc j f (by omega) hjf
        · have hlen := nodup_len hn' (fun x hx => (hr' x hx).1)
          rw [decide_eq_false (fun h => hm (ci_mem.1 h)), Bool.not_false, cond_true, Option.bind_some, lim_ok (by rw [ci_len]; simp; omega), Option.bind_some, chk_ok (by omega) (by omega), Option.bind_some, Int.toNat_natCast, mk_set, ci_snoc]
          refine .inl ⟨_, rfl, ⟨rs' ++ [fs[i] y], i + 1, rfl, by omega, ⟨E ++ [fs[i] y], by rw [hE, List.append_assoc]⟩, ?_, ?_, fun j f hj hjf => ?_⟩, by dsimp only; omega⟩
          · rw [List.nodup_append]
            exact ⟨hn', by simp, fun a ha b hb e => hm (by rw [List.mem_singleton] at hb; subst hb; subst e; exact ha)⟩
          · intro x hx
            rcases List.mem_append.1 hx with hx | hx
            · exact hr' x hx
            · rw [List.mem_singleton] at hx; subst hx
              exact ⟨hfy, .step (hr' y hym).2 (List.getElem_mem _)⟩
          · by_cases e : j = i
            · subst e; rw [hfa] at hjf; obtain rfl := Option.some.inj hjf; simp
            · exact List.mem_append_left _ (hc j f (by omega) hjf)
      · rw [lf_len, decide_eq_false (by omega), cond_false]
        refine .inr ⟨_, rfl, rs', (i : Int), rfl, ⟨E, hE⟩, hn', hr', fun f hfm => ?_⟩
        obtain ⟨j, hj⟩ := List.mem_iff_getElem?.1 hfm
        exact hc j f (by have := (List.getElem?_eq_some_iff.1 hj).1; omega) hj) 200000000 (ci rs, ((0 : Nat) : Int), mk N (ci rs)) ⟨rs, 0, rfl, by omega, ⟨[], by simp⟩, hn, hr, fun j f hj => by omega⟩ (by dsimp only; omega)
  subst h2
  exact ⟨rs', i, h1, h3, h4, h5, h6⟩
theorem bfs_out (hf : Pms' N fs) (hN : N ≤ 1000) (h0 : 0 < N) (hl : fs.length ≤ 1000) :
    ∃ rs v, loopN 200000000 (F.perm_Transitive_b1 200000000 (lf N fs)) ([0], 0, mk N (ci [0])) = some (ci rs, v, mk N (ci rs)) ∧ rs.Nodup ∧ (∀ x ∈ rs, x < N) ∧ ∀ x, x ∈ rs ↔ Rc fs 0 x := by
  obtain ⟨r, h1, rs, v, h2, h3, h4, h5⟩ := loop_spec (body := F.perm_Transitive_b1 200000000 (lf N fs))
    (fun s => ∃ (rs : List Nat) (v : Nat), s = (ci rs, (v : Int), mk N (ci rs)) ∧ v ≤ rs.length ∧ rs.Nodup ∧ (∀ x ∈ rs, x < N ∧ Rc fs 0 x) ∧ 0 ∈ rs ∧ ∀ j y, j < v → rs[j]? = some y → ∀ f ∈ fs, f y ∈ rs)
    (fun s => N - s.2.1.toNat)
    (fun r => ∃ (rs : List Nat) (v : Int), r = (ci rs, v, mk N (ci rs)) ∧ rs.Nodup ∧ (∀ x ∈ rs, x < N) ∧ ∀ x, x ∈ rs ↔ Rc fs 0 x)
    (fun s ⟨rs, v, e, hv, hn, hr, hz, hc⟩ => by
      subst e
      have hlen := nodup_len hn (fun x hx => (hr x hx).1)
      unfold F.perm_Transitive_b1
      dsimp only
      by_cases hlt : v < rs.length
      · have hva : rs[v]? = some rs[v] := List.getElem?_eq_getElem hlt
        obtain ⟨rs', i, k1, ⟨E, hE⟩, k3, k4, k5⟩ := bfs_in hf hN hl hva hn hr
        rw [ci_len, decide_eq_true (by omega), cond_true, k1, Option.bind_some]
        dsimp only
        rw [chk_ok (by omega) (by omega), Option.bind_some]
        refine .inl ⟨_, rfl, ⟨rs', v + 1, rfl, by rw [hE, List.length_append]; omega, k3, k4, by rw [hE]; exact List.mem_append_left _ hz, fun j y hj hy f hfm => ?_⟩, by dsimp only; omega⟩
        have hjl : j < rs.length := by omega
        rw [hE, List.getElem?_append_left hjl] at hy
        by_cases e : j = v
        · subst e
          rw [hva] at hy
          obtain rfl := Option.some.inj hy
          exact k5 f hfm
        · rw [hE]
          exact List.mem_append_left _ (hc j y (by omega) hy f hfm)
      · rw [ci_len, decide_eq_false (by omega), cond_false]
        refine .inr ⟨_, rfl, rs, _, rfl, hn, fun x hx => (hr x hx).1, fun x => ⟨fun hx => (hr x hx).2, fun hx => ?_⟩⟩
        induction hx with
        | refl => exact hz
        | step _ hfm ih =>
          obtain ⟨j, hj⟩ := List.mem_iff_getElem?.1 ih
          exact hc j _ (by have := (List.getElem?_eq_some_iff.1 hj).1; omega) hj _ hfm) 200000000 (ci [0], ((0 : Nat) : Int), mk N (ci [0])) ⟨[0], 0, rfl, by simp, by simp, fun x hx => by rw [List.mem_singleton] at hx; subst hx; exact ⟨h0, .refl⟩, by simp, fun j y hj => by omega⟩ (by dsimp only; omega)
  subst h2
  exact ⟨rs, v, h1, h3, h4, h5⟩
/-- The lists that the program takes. -/
def okL (l : List (List Int)) : Prop := ∃ N fs, 0 < N ∧ fs ≠ [] ∧ Pms' N fs ∧ l = lf N fs
/-- .. and act transitively. -/
def Tr (l : List (List Int)) : Prop := ∃ N fs, 0 < N ∧ fs ≠ [] ∧ Pms' N fs ∧ l = lf N fs ∧ ∀ x, x < N → Rc fs 0 x
theorem li_inj {N : Nat} {f g f' g' : Nat → Nat} (h : Pm N f g) (h' : Pm N f' g') (e : li N f = li N f') : f = f' := li_eq h.fix h'.fix e
theorem lf_inj : ∀ {fs fs' : List (Nat → Nat)}, Pms' N fs → Pms' N fs' → lf N fs = lf N fs' → fs = fs'
  | [], [], _, _, _ => rfl
  | [], _ :: _, _, _, e => by simp [lf] at e
  | _ :: _, [], _, _, e => by simp [lf] at e
  | f :: fs, f' :: fs', h, h', e => by
    unfold lf at e
    rw [List.map_cons, List.map_cons] at e
    obtain ⟨e1, e2⟩ := List.cons.inj e
    obtain ⟨g, hg⟩ := h f (by simp)
    obtain ⟨g', hg'⟩ := h' f' (by simp)
    rw [li_inj hg hg' e1, lf_inj (fun x hx => h x (by simp [hx])) (fun x hx => h' x (by simp [hx])) e2]
theorem tr_iff {fs : List (Nat → Nat)} (h0 : 0 < N) (hne : fs ≠ []) (hf : Pms' N fs) : Tr (lf N fs) ↔ ∀ x, x < N → Rc fs 0 x := by
  constructor
  · rintro ⟨M, fs', h1, h2, h3, h4, h5⟩
    have hNM : N = M := by
      obtain ⟨f, t, rfl⟩ := List.exists_cons_of_ne_nil hne
      obtain ⟨f', t', rfl⟩ := List.exists_cons_of_ne_nil h2
      unfold lf at h4
      rw [List.map_cons, List.map_cons] at h4
      have := congrArg List.length (List.cons.inj h4).1
      rwa [li_len, li_len] at this
    subst hNM
    rw [lf_inj hf h3 h4]
    exact h5
  · intro h
    exact ⟨N, fs, h0, hne, hf, rfl, h⟩
end
end Gar
end Go.Proofs.Ytmlkiafidahnbaa
