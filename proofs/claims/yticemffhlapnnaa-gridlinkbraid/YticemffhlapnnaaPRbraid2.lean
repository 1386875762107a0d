/- The rows at the end, and the law. -/
import Derived.Test.YticemffhlapnnaaPRbraid
import Derived.Test.YticemffhlapnnaaPRawake
set_option linter.unusedVariables false
set_option linter.unusedSimpArgs false
namespace Go.Proofs.Yticemffhlapnnaa
namespace Gl
open Ev
theorem tops {s K : Nat} {mk : List (Int × Int)} {od bot top pr l9 : List Int} {z26 : Int} {w : List Int} (hB : BI s K mk od bot top pr) (hK : w.length = K) (hz : z26 = 2 * (s : Int) + K) (h9 : l9.length = s) (hs : s + K < 1000) (n : Nat) (hn : 2000 < n) :
    ∃ mk' : List (Int × Int), ∃ top' : List Int, loopN n (F.gridlink_Braid_b3 n z26 l9 pr) (0, mk) = some ((s : Int), mk') ∧ loopN n (F.ref44_Braid_b5 n s w pr) (0, top) = some ((s : Int), top') ∧ mk'.map Prod.fst = bot ∧ mk'.map Prod.snd = top' := by
  obtain ⟨r1, r2, e1, e2, mk', top', h1, h2, h3, h4⟩ := two_loop (b1 := F.gridlink_Braid_b3 n z26 l9 pr) (b2 := F.ref44_Braid_b5 n s w pr)
    (I := fun j a b => ∃ mk' top', a = ((j : Int), mk') ∧ b = ((j : Int), top') ∧ mk'.map Prod.fst = bot ∧ mk'.length = s + K ∧ top'.length = s + K ∧ ∀ i, i < s + K → (∃ j', j ≤ j' ∧ pr[j']? = some (i : Int)) ∨ (mk'[i]?).map Prod.snd = top'[i]?)
    (Q := fun a b => ∃ mk' top', a = ((s : Int), mk') ∧ b = ((s : Int), top') ∧ mk'.map Prod.fst = bot ∧ mk'.map Prod.snd = top') s
    (fun j a b hj ⟨mk', top', ha, hb, hf, hm, ht, hg⟩ => by
      subst ha hb
      have hjl : j < pr.length := by rw [hB.pl]; exact hj
      obtain ⟨c, hc⟩ : ∃ c, pr[j]? = some c := ⟨_, List.getElem?_eq_getElem hjl⟩
      have bc := hB.pb c (List.mem_of_getElem? hc)
      obtain ⟨te, hte⟩ : ∃ te, top'[c.toNat]? = some te := ⟨_, List.getElem?_eq_getElem (by omega)⟩
      obtain ⟨me, hme⟩ : ∃ me, mk'[c.toNat]? = some me := ⟨_, List.getElem?_eq_getElem (by omega)⟩
      have g1 : Ev.get pr (j : Int) = some c := get_at rfl hc
      have g3 : Ev.get mk' c = some me := get_at (k := c.toNat) (by omega) hme
      have g4 : Ev.get top' c = some te := get_at (k := c.toNat) (by omega) hte
      have q1 : F.gridlink_Braid_b3 n z26 l9 pr ((j : Int), mk') = some (.inl ((j : Int) + 1, mk'.set c.toNat (me.1, z26 - 1 - j))) := by
        unfold F.gridlink_Braid_b3
        dsimp only
        rw [decide_eq_true (show (j : Int) < (l9.length : Int) by omega), cond_true, g1, Option.bind_some, chk_ok (z := z26 - 1) (by omega) (by omega), Option.bind_some,
          chk_ok (z := z26 - 1 - j) (by omega) (by omega), Option.bind_some, g3, Option.bind_some, chk_ok (z := (j : Int) + 1) (by omega) (by omega), Option.bind_some]
      have q2 : F.ref44_Braid_b5 n s w pr ((j : Int), top') = some (.inl ((j : Int) + 1, top'.set c.toNat (2 * (s : Int) + (w.length : Int) - 1 - j))) := by
        unfold F.ref44_Braid_b5
        dsimp only
        rw [decide_eq_true (show (j : Int) < (s : Int) by omega), cond_true, g1, Option.bind_some, chk_ok (z := 2 * (s : Int)) (by omega) (by omega), Option.bind_some,
          chk_ok (z := 2 * (s : Int) + (w.length : Int)) (by omega) (by omega), Option.bind_some, chk_ok (z := 2 * (s : Int) + (w.length : Int) - 1) (by omega) (by omega), Option.bind_some,
          chk_ok (z := 2 * (s : Int) + (w.length : Int) - 1 - j) (by omega) (by omega), Option.bind_some, g4, Option.bind_some, chk_ok (z := (j : Int) + 1) (by omega) (by omega), Option.bind_some]
      refine ⟨_, _, q1, q2, mk'.set c.toNat (me.1, z26 - 1 - j), top'.set c.toNat (2 * (s : Int) + (w.length : Int) - 1 - j), rfl, rfl, ?_, by rw [List.length_set, hm], by rw [List.length_set, ht], ?_⟩
      · rw [List.map_set, hf]
        have : bot[c.toNat]? = some me.1 := by rw [← hf, List.getElem?_map, hme]; rfl
        apply List.ext_getElem?
        intro i
        rw [List.getElem?_set]
        by_cases e1 : c.toNat = i
        · subst e1
          rw [if_pos rfl, if_pos (by rw [hB.bl]; omega), this]
        · rw [if_neg e1]
      · intro i hi
        by_cases e1 : i = c.toNat
        · right
          rw [e1, List.getElem?_set_self (by omega), List.getElem?_set_self (by omega), hz, hK]
          rfl
        · rcases hg i hi with ⟨j', hj', hp⟩ | hm2
          · left
            refine ⟨j', ?_, hp⟩
            rcases Nat.lt_or_ge j j' with q | q
            · exact q
            · exfalso
              have : j' = j := by omega
              subst this
              rw [hc] at hp
              have := Option.some.inj hp
              omega
          · right
            rw [List.getElem?_set_ne (Ne.symm e1), List.getElem?_set_ne (Ne.symm e1)]
            exact hm2)
    (fun a b ⟨mk', top', ha, hb, hf, hm, ht, hg⟩ => by
      subst ha hb
      unfold F.gridlink_Braid_b3 F.ref44_Braid_b5
      dsimp only
      rw [decide_eq_false (show ¬ (s : Int) < (l9.length : Int) by omega), decide_eq_false (show ¬ (s : Int) < (s : Int) by omega), cond_false, cond_false]
      refine ⟨_, _, rfl, rfl, _, _, rfl, rfl, hf, List.ext_getElem? fun i => ?_⟩
      rw [List.getElem?_map]
      rcases Nat.lt_or_ge i (s + K) with hi | hi
      · rcases hg i hi with ⟨j', hj', hp⟩ | h
        · have := (List.getElem?_eq_some_iff.1 hp).1
          rw [hB.pl] at this; omega
        · exact h
      · rw [List.getElem?_eq_none (by omega), List.getElem?_eq_none (by omega)]
        rfl) s 0 n (0, mk) (0, top) (by omega) (by omega)
    ⟨mk, top, rfl, rfl, hB.fs, hB.ml, hB.tl, fun i hi => by
      rcases hB.ag i hi with h | h
      · obtain ⟨j, hj⟩ := List.mem_iff_getElem?.1 h
        exact .inl ⟨j, Nat.zero_le _, hj⟩
      · exact .inr h⟩
  exact ⟨mk', top', by rw [e1, h1], by rw [e2, h2], h3, h4⟩
theorem rows1 {N : Nat} {mk : List (Int × Int)} {od : List Int} (ho : ∀ c ∈ od, 0 ≤ c ∧ c < (N : Int)) (hm : mk.length = N) (hl : od.length < 1000) (n : Nat) (hn : 2000 < n) :
    ∃ X O : List Int, X.length = od.length ∧ O.length = od.length ∧ loopN n (F.gridlink_Braid_b4 n od mk) (0, ([] : List Int), ([] : List Int)) = some ((od.length : Int), X, O) ∧ loopN n (F.ref44_Braid_b6 n od (mk.map Prod.fst) (mk.map Prod.snd)) (0, ([] : List Int), ([] : List Int)) = some ((od.length : Int), X, O) := by
  obtain ⟨r1, r2, e1, e2, X, O, h1, h2, h3, h4⟩ := two_loop (b1 := F.gridlink_Braid_b4 n od mk) (b2 := F.ref44_Braid_b6 n od (mk.map Prod.fst) (mk.map Prod.snd))
    (I := fun j a b => ∃ X O : List Int, a = ((j : Int), X, O) ∧ b = ((j : Int), X, O) ∧ X.length = j ∧ O.length = j)
    (Q := fun a b => ∃ X O : List Int, a = ((od.length : Int), X, O) ∧ b = ((od.length : Int), X, O) ∧ X.length = od.length ∧ O.length = od.length) od.length
    (fun j a b hj ⟨X, O, ha, hb, hX, hO⟩ => by
      subst ha hb
      obtain ⟨c, hc⟩ : ∃ c, od[j]? = some c := ⟨_, List.getElem?_eq_getElem hj⟩
      have bc := ho c (List.mem_of_getElem? hc)
      obtain ⟨me, hme⟩ : ∃ me, mk[c.toNat]? = some me := ⟨_, List.getElem?_eq_getElem (by omega)⟩
      have g1 : Ev.get od (j : Int) = some c := get_at rfl hc
      have g3 : Ev.get mk c = some me := get_at (k := c.toNat) (by omega) hme
      have g4 : Ev.get (mk.map Prod.fst) c = some me.1 := get_at (k := c.toNat) (by omega) (by rw [List.getElem?_map, hme]; rfl)
      have g5 : Ev.get (mk.map Prod.snd) c = some me.2 := get_at (k := c.toNat) (by omega) (by rw [List.getElem?_map, hme]; rfl)
      unfold F.gridlink_Braid_b4 F.ref44_Braid_b6
      dsimp only
      rw [decide_eq_true (show (j : Int) < (od.length : Int) by omega), cond_true, cond_true, g1]
      simp only [Option.bind_some]
      rw [g3, g4, g5]
      simp only [Option.bind_some]
      rw [lim_ok (n := X.length + ([me.1] : List Int).length) (by simp only [List.length_cons, List.length_nil]; omega), lim_ok (n := O.length + ([me.2] : List Int).length) (by simp only [List.length_cons, List.length_nil]; omega), chk_ok (by omega) (by omega)]
      simp only [Option.bind_some]
      exact ⟨_, _, rfl, rfl, _, _, rfl, rfl, by simp [hX], by simp [hO]⟩)
    (fun a b ⟨X, O, ha, hb, hX, hO⟩ => by
      subst ha hb
      unfold F.gridlink_Braid_b4 F.ref44_Braid_b6
      dsimp only
      rw [decide_eq_false (show ¬ ((od.length : Nat) : Int) < (od.length : Int) by omega), cond_false, cond_false]
      exact ⟨_, _, rfl, rfl, _, _, rfl, rfl, hX, hO⟩) od.length 0 n (0, [], []) (0, [], []) (by omega) (by omega) ⟨[], [], rfl, rfl, rfl, rfl⟩
  exact ⟨X, O, h3, h4, by rw [e1, h1], by rw [e2, h2]⟩
theorem rows2 {s : Nat} {z26 : Int} {w X0 O0 : List Int} (hz : z26 = 2 * (s : Int) + w.length) (hl : s + w.length < 1000) (hX0 : X0.length < 1000) (hO0 : O0.length < 1000) (n : Nat) (hn : 2000 < n) :
    ∃ X O : List Int, ∃ v1 v2 : Int, X.length = X0.length + s ∧ O.length = O0.length + s ∧ loopN n (F.gridlink_Braid_b5 n s z26) (0, X0, O0) = some (v1, X, O) ∧ loopN n (F.ref44_Braid_b7 n s w) ((s : Int) - 1, X0, O0) = some (v2, X, O) := by
  obtain ⟨r1, r2, e1, e2, X, O, h1, h2, h3, h4⟩ := two_loop (b1 := F.gridlink_Braid_b5 n s z26) (b2 := F.ref44_Braid_b7 n s w)
    (I := fun j a b => ∃ X O : List Int, a = ((j : Int), X, O) ∧ b = ((s : Int) - 1 - j, X, O) ∧ X.length = X0.length + j ∧ O.length = O0.length + j)
    (Q := fun a b => ∃ X O : List Int, a = ((s : Int), X, O) ∧ b = ((s : Int) - 1 - s, X, O) ∧ X.length = X0.length + s ∧ O.length = O0.length + s) s
    (fun j a b hj ⟨X, O, ha, hb, hX, hO⟩ => by
      subst ha hb
      unfold F.gridlink_Braid_b5 F.ref44_Braid_b7
      dsimp only
      rw [decide_eq_true (show (j : Int) < (s : Int) by omega), decide_eq_true (show 0 ≤ (s : Int) - 1 - j by omega), cond_true, cond_true]
      rw [chk_ok (z := (s : Int) - 1) (by omega) (by omega), chk_ok (z := z26 - 1) (by omega) (by omega), chk_ok (z := 2 * (s : Int)) (by omega) (by omega)]
      simp only [Option.bind_some]
      rw [chk_ok (z := (s : Int) - 1 - j) (by omega) (by omega), chk_ok (z := 2 * (s : Int) + (w.length : Int)) (by omega) (by omega)]
      simp only [Option.bind_some]
      rw [chk_ok (z := z26 - 1 - ((s : Int) - 1 - j)) (by omega) (by omega), chk_ok (z := 2 * (s : Int) + (w.length : Int) - 1) (by omega) (by omega)]
      simp only [Option.bind_some]
      rw [chk_ok (z := 2 * (s : Int) + (w.length : Int) - 1 - ((s : Int) - 1 - j)) (by omega) (by omega), chk_ok (z := (j : Int) + 1) (by omega) (by omega), chk_ok (z := (s : Int) - 1 - j - 1) (by omega) (by omega)]
      simp only [Option.bind_some, List.length_cons, List.length_nil]
      rw [lim_ok (n := X.length + (0 + 1)) (by omega), lim_ok (n := O.length + (0 + 1)) (by omega)]
      simp only [Option.bind_some]
      refine ⟨_, _, rfl, rfl, _, _, rfl, ?_, by simp [hX]; omega, by simp [hO]; omega⟩
      rw [← hz, show (s : Int) - 1 - (j : Int) - 1 = (s : Int) - 1 - ((j + 1 : Nat) : Int) by omega])
    (fun a b ⟨X, O, ha, hb, hX, hO⟩ => by
      subst ha hb
      unfold F.gridlink_Braid_b5 F.ref44_Braid_b7
      dsimp only
      rw [decide_eq_false (show ¬ (s : Int) < (s : Int) by omega), decide_eq_false (show ¬ 0 ≤ (s : Int) - 1 - s by omega), cond_false, cond_false]
      exact ⟨_, _, rfl, rfl, _, _, rfl, rfl, hX, hO⟩) s 0 n (0, X0, O0) ((s : Int) - 1, X0, O0) (by omega) (by omega) ⟨X0, O0, rfl, by simp, rfl, rfl⟩
  exact ⟨X, O, _, _, h3, h4, by rw [e1, h1], by rw [e2, h2]⟩
end Gl
end Go.Proofs.Yticemffhlapnnaa
