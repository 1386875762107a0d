/- Visits, half-edges, and mates. -/
import Derived.Test.YticemffhlapnnaaPLoop
set_option linter.unusedVariables false
set_option linter.unusedSimpArgs false
namespace Go.Proofs.Yticemffhlapnnaa
open Ev
namespace Pg
theorem getD_of' {α : Type} {xs : List α} {k : Nat} (h : k < xs.length) (d : α) : xs.getD k d = xs[k] := by simp [List.getD, List.getElem?_eq_getElem h]
abbrev Vis := Int × Bool
def v0 : Vis := (0, false)
def inH (sg : List Int) (v : Vis) : Nat := 4 * v.1.toNat + (if v.2 then (if sg.getD v.1.toNat 0 = 1 then 3 else 1) else 0)
def outH (sg : List Int) (v : Vis) : Nat := 4 * v.1.toNat + (if v.2 then (if sg.getD v.1.toNat 0 = 1 then 1 else 3) else 2)
def setP (M : List Int) (p : Nat × Nat) : List Int := (M.set p.1 (p.2 : Int)).set p.2 (p.1 : Int)
def prs (sg : List Int) (w : List Vis) (m : Nat) : List (Nat × Nat) := (List.range m).map fun i => (outH sg (w.getD i v0), inH sg (w.getD ((i + 1) % w.length) v0))
def allP (sg : List Int) (cs : List (List Vis)) : List (Nat × Nat) := cs.flatMap fun w => prs sg w w.length
def mtS (sg : List Int) (cs : List (List Vis)) : List Int := (allP sg cs).foldl setP (List.replicate (4 * sg.length) 0)
theorem setP_len (M : List Int) (p : Nat × Nat) : (setP M p).length = M.length := by simp [setP]
theorem fold_len (ps : List (Nat × Nat)) (M : List Int) : (ps.foldl setP M).length = M.length := by
  induction ps generalizing M with
  | nil => rfl
  | cons p r ih => rw [List.foldl_cons, ih, setP_len]
theorem ends_lt {sg : List Int} {v : Vis} (h0 : 0 ≤ v.1) (h1 : v.1 < (sg.length : Int)) : inH sg v < 4 * sg.length ∧ outH sg v < 4 * sg.length := by
  unfold inH outH
  constructor <;> (split <;> (try split) <;> omega)
theorem prs_succ (sg : List Int) (w : List Vis) (m : Nat) : prs sg w (m + 1) = prs sg w m ++ [(outH sg (w.getD m v0), inH sg (w.getD ((m + 1) % w.length) v0))] := by
  unfold prs
  rw [List.range_succ, List.map_append]; rfl
theorem nodup_map {α β : Type} {l : List α} {f : α → β} (hn : l.Nodup) (h : ∀ x ∈ l, ∀ y ∈ l, f x = f y → x = y) : (l.map f).Nodup := by
  unfold List.Nodup
  rw [List.pairwise_map]
  exact List.Pairwise.imp_of_mem (fun ha hb hne e => hne (h _ ha _ hb e)) hn
end Pg
end Go.Proofs.Yticemffhlapnnaa
