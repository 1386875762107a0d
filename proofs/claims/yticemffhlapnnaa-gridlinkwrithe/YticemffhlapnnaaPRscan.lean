/- The reference puts a new column beside another one. -/
import Derived.Test.YticemffhlapnnaaPRtwo
set_option linter.unusedVariables false
set_option linter.unusedSimpArgs false
namespace Go.Proofs.Yticemffhlapnnaa
namespace Gl
open Ev
def beside (x f v : Int) (c : Int) : List Int := if c = x then (if v = 0 then [f, x] else [x, f]) else [c]
theorem beside_len (x f v : Int) (l : List Int) : (l.flatMap (beside x f v)).length ≤ 2 * l.length := by
  induction l with
  | nil => simp
  | cons a l ih =>
    rw [List.flatMap_cons, List.length_append, List.length_cons]
    have : (beside x f v a).length ≤ 2 := by unfold beside; split <;> try split
                                             all_goals simp
    omega
theorem beside_not {x f v : Int} : ∀ {l : List Int}, x ∉ l → l.flatMap (beside x f v) = l
  | [], _ => rfl
  | a :: l, h => by
    rw [List.flatMap_cons, beside_not (fun hm => h (List.mem_cons_of_mem _ hm))]
    have : a ≠ x := fun e => h (e ▸ List.mem_cons_self)
    simp [beside, this]
theorem scan_step (n : Nat) {l6 l7 q acc : List Int} {v14 v15 c x : Int} {k : Nat} (hc : l6[k]? = some c) (hx : Ev.get q v14 = some x) (hv : v15 = 0 ∨ v15 = 1) (hk : k < 1000000) (ha : acc.length < 1000000) :
    F.ref44_Braid_b3 n l6 l7 q v14 v15 (acc, (k : Int)) = some (.inl (acc ++ beside x (l7.length : Int) v15 c, (k : Int) + 1)) := by
  have hlt : (k : Int) < (l6.length : Int) := by have := (List.getElem?_eq_some_iff.1 hc).1; omega
  have hc' : Ev.get l6 (k : Int) = some c := get_at rfl hc
  have hf : ∀ a b : Int, ([a] : List Int).length = 1 := fun _ _ => rfl
  unfold F.ref44_Braid_b3 F.ref44_Braid_j4
  dsimp only
  rw [decide_eq_true hlt, cond_true, hc', hx, Option.bind_some, Option.bind_some]
  by_cases e : c = x
  · rw [decide_eq_true e, cond_true]
    rcases hv with e2 | e2
    · rw [decide_eq_true e2, cond_true, lim_ok (by simp only [List.length_cons, List.length_nil]; omega), Option.bind_some, Option.bind_some,
        lim_ok (by simp only [List.length_append, List.length_cons, List.length_nil]; omega), Option.bind_some, Option.bind_some, Option.bind_some, decide_eq_true e, cond_true,
        decide_eq_false (show ¬ v15 = 1 by omega), cond_false, chk_ok (by omega) (by omega), Option.bind_some]
      unfold beside
      rw [if_pos e, if_pos e2, e, List.append_assoc]
      rfl
    · rw [decide_eq_false (show ¬ v15 = 0 by omega), cond_false, Option.bind_some,
        lim_ok (by simp only [List.length_append, List.length_cons, List.length_nil]; omega), Option.bind_some, Option.bind_some, Option.bind_some, decide_eq_true e, cond_true,
        decide_eq_true e2, cond_true, lim_ok (by simp only [List.length_append, List.length_cons, List.length_nil]; omega), Option.bind_some, chk_ok (by omega) (by omega), Option.bind_some]
      unfold beside
      rw [if_pos e, if_neg (by omega), e, List.append_assoc]
      rfl
  · rw [decide_eq_false e, cond_false, Option.bind_some,
      lim_ok (by simp only [List.length_append, List.length_cons, List.length_nil]; omega), Option.bind_some, Option.bind_some, Option.bind_some, decide_eq_false e, cond_false, chk_ok (by omega) (by omega), Option.bind_some]
    unfold beside
    rw [if_neg e]
theorem scan_eq (n : Nat) {L R l7 q : List Int} {v14 v15 x : Int} (hL : x ∉ L) (hR : x ∉ R) (hx : Ev.get q v14 = some x) (hv : v15 = 0 ∨ v15 = 1) (hl : (L ++ x :: R).length < 400000) (hn : (L ++ x :: R).length < n) :
    loopN n (F.ref44_Braid_b3 n (L ++ x :: R) l7 q v14 v15) (([] : List Int), 0) = some (L ++ (beside x (l7.length : Int) v15 x ++ R), ((L ++ x :: R).length : Int)) := by
  have key := count_loop (body := F.ref44_Braid_b3 n (L ++ x :: R) l7 q v14 v15) (fun k => (((L ++ x :: R).take k).flatMap (beside x (l7.length : Int) v15), (k : Int))) (L ++ x :: R).length
    (r := (L ++ (beside x (l7.length : Int) v15 x ++ R), ((L ++ x :: R).length : Int))) (fun k hk => ?_) ?_ n hn
  · exact key
  · have h1 := beside_len x (l7.length : Int) v15 ((L ++ x :: R).take k)
    have h2 : ((L ++ x :: R).take k).length ≤ k := by rw [List.length_take]; omega
    have h3 : (L ++ x :: R)[k]? = some (L ++ x :: R)[k] := List.getElem?_eq_getElem hk
    show F.ref44_Braid_b3 n (L ++ x :: R) l7 q v14 v15 (_, (k : Int)) = _
    rw [scan_step n h3 hx hv (by omega) (by omega), List.take_add_one, h3, List.flatMap_append]
    simp
  · show F.ref44_Braid_b3 n (L ++ x :: R) l7 q v14 v15 (_, ((L ++ x :: R).length : Int)) = _
    unfold F.ref44_Braid_b3
    dsimp only
    rw [decide_eq_false (by omega), cond_false, List.take_length, List.flatMap_append, List.flatMap_cons, beside_not hL, beside_not hR]
end Gl
end Go.Proofs.Yticemffhlapnnaa
