/-
  No cell of these rows narrows 'for every input' (looked for: loops, veiled, ifaces, maps, wideKeys, modest, calm, conditions, laid).
  DERIVED. THE GIVEN ROWS OF THIS SEAT. 6 by the template 'for every input the law returns true; each argument reads behind the call as it read before'; 0 by the template 'total and deterministic' (their statements: YtlkmcbgkohpmiaaTotals.lean).
  GIVEN WITH THE SEED: the statements are not yours to turn. If you find one false, say at which input.
  Laid BY PROGRAM, IN A SANDBOX (cutbox-rows.mjs): the forced cells as the released guide's own fill.sh prints them over the translation f219e3882e8105f5… (all of the seat's roots in one cut). By AI agents, Wed Nov 11 2026. No macro, syntax, notation, axiom, sorry.
-/
import Derived.Test.YtlkmcbgkohpmiaaChecked
import GoSem.Claim
import GoSem.ClaimJoined
import GoSem.ClaimMapViews
import Derived.JoinedTies
import Derived.KernelRfl
namespace Go.Proofs.Ytlkmcbgkohpmiaa
/- THE CELL 'sum', in the pinned program and in every row, IS THE sha256 OF THE DUMP (.gsa) THAT YtlkmcbgkohpmiaaProg.lean LOADS. Nothing in Lean hashes anything: it is a label: what it is worth is what the hold of that sum in a sandbox is worth. -/
noncomputable def Try.pinned : Pinned := { name := "ytlkmcbgkohpmiaa", sum := "f219e3882e8105f5ad1f7ae5334ee2191c8272acb1e7f5b3532a488df03cca96", checked := Try.checked }
namespace Rows
def none {H : Type} : Left H := { results := [], args := [] }

/-- 'unravellaw35.ArtinActs': WHATEVER THE INPUT: true; the input reads as it did. -/
def artinActsSpec : ChangeSpec := { name := "artinActs", fn := fun _ => fun
  | [d1, d2] => { results := [.lit (.bool true)], args := [d1, d2] }
  | _ => none }
def artinActsRow : OpenClaim := { program := "ytlkmcbgkohpmiaa", sum := "f219e3882e8105f5ad1f7ae5334ee2191c8272acb1e7f5b3532a488df03cca96", func := "unravel/unravellaw35.ArtinActs", spec := "artinActs", unfollowed := true, recurses := true, apart := false }
def ArtinActsSaid : Prop := artinActsRow.holds Try.pinned (OpenSpec.ofChange artinActsSpec)

/-- ITS FALSE NEIGHBOUR: 'it returns false'. Refute it at one input. -/
def artinActsWrong : ChangeSpec := { name := "artinActs", fn := fun _ => fun
  | [d1, d2] => { results := [.lit (.bool false)], args := [d1, d2] }
  | _ => none }
def ArtinActsWrongFalsely : Prop := artinActsRow.holds Try.pinned (OpenSpec.ofChange artinActsWrong)

/-- 'unravellaw35.ArtinRelations': WHATEVER THE INPUT: true; the input reads as it did. -/
def artinRelationsSpec : ChangeSpec := { name := "artinRelations", fn := fun _ => fun
  | [d1, d2, d3, d4] => { results := [.lit (.bool true)], args := [d1, d2, d3, d4] }
  | _ => none }
def artinRelationsRow : OpenClaim := { program := "ytlkmcbgkohpmiaa", sum := "f219e3882e8105f5ad1f7ae5334ee2191c8272acb1e7f5b3532a488df03cca96", func := "unravel/unravellaw35.ArtinRelations", spec := "artinRelations", unfollowed := true, recurses := true, apart := false }
def ArtinRelationsSaid : Prop := artinRelationsRow.holds Try.pinned (OpenSpec.ofChange artinRelationsSpec)

/-- ITS FALSE NEIGHBOUR: 'it returns false'. Refute it at one input. -/
def artinRelationsWrong : ChangeSpec := { name := "artinRelations", fn := fun _ => fun
  | [d1, d2, d3, d4] => { results := [.lit (.bool false)], args := [d1, d2, d3, d4] }
  | _ => none }
def ArtinRelationsWrongFalsely : Prop := artinRelationsRow.holds Try.pinned (OpenSpec.ofChange artinRelationsWrong)

/-- 'unravellaw35.ArtinLong': WHATEVER THE INPUT: true; the input reads as it did. -/
def artinLongSpec : ChangeSpec := { name := "artinLong", fn := fun _ => fun
  | [d1, d2] => { results := [.lit (.bool true)], args := [d1, d2] }
  | _ => none }
def artinLongRow : OpenClaim := { program := "ytlkmcbgkohpmiaa", sum := "f219e3882e8105f5ad1f7ae5334ee2191c8272acb1e7f5b3532a488df03cca96", func := "unravel/unravellaw35.ArtinLong", spec := "artinLong", unfollowed := true, recurses := true, apart := false }
def ArtinLongSaid : Prop := artinLongRow.holds Try.pinned (OpenSpec.ofChange artinLongSpec)

/-- ITS FALSE NEIGHBOUR: 'it returns false'. Refute it at one input. -/
def artinLongWrong : ChangeSpec := { name := "artinLong", fn := fun _ => fun
  | [d1, d2] => { results := [.lit (.bool false)], args := [d1, d2] }
  | _ => none }
def ArtinLongWrongFalsely : Prop := artinLongRow.holds Try.pinned (OpenSpec.ofChange artinLongWrong)

/-- 'unravellaw35.ArtinFixes': WHATEVER THE INPUT: true; the input reads as it did. -/
def artinFixesSpec : ChangeSpec := { name := "artinFixes", fn := fun _ => fun
  | [d] => { results := [.lit (.bool true)], args := [d] }
  | _ => none }
def artinFixesRow : OpenClaim := { program := "ytlkmcbgkohpmiaa", sum := "f219e3882e8105f5ad1f7ae5334ee2191c8272acb1e7f5b3532a488df03cca96", func := "unravel/unravellaw35.ArtinFixes", spec := "artinFixes", unfollowed := true, recurses := true, apart := false }
def ArtinFixesSaid : Prop := artinFixesRow.holds Try.pinned (OpenSpec.ofChange artinFixesSpec)

/-- ITS FALSE NEIGHBOUR: 'it returns false'. Refute it at one input. -/
def artinFixesWrong : ChangeSpec := { name := "artinFixes", fn := fun _ => fun
  | [d] => { results := [.lit (.bool false)], args := [d] }
  | _ => none }
def ArtinFixesWrongFalsely : Prop := artinFixesRow.holds Try.pinned (OpenSpec.ofChange artinFixesWrong)

/-- 'unravellaw35.ArtinTrivial': WHATEVER THE INPUT: true; the input reads as it did. -/
def artinTrivialSpec : ChangeSpec := { name := "artinTrivial", fn := fun _ => fun
  | [d1, d2] => { results := [.lit (.bool true)], args := [d1, d2] }
  | _ => none }
def artinTrivialRow : OpenClaim := { program := "ytlkmcbgkohpmiaa", sum := "f219e3882e8105f5ad1f7ae5334ee2191c8272acb1e7f5b3532a488df03cca96", func := "unravel/unravellaw35.ArtinTrivial", spec := "artinTrivial", unfollowed := true, recurses := true, apart := false }
def ArtinTrivialSaid : Prop := artinTrivialRow.holds Try.pinned (OpenSpec.ofChange artinTrivialSpec)

/-- ITS FALSE NEIGHBOUR: 'it returns false'. Refute it at one input. -/
def artinTrivialWrong : ChangeSpec := { name := "artinTrivial", fn := fun _ => fun
  | [d1, d2] => { results := [.lit (.bool false)], args := [d1, d2] }
  | _ => none }
def ArtinTrivialWrongFalsely : Prop := artinTrivialRow.holds Try.pinned (OpenSpec.ofChange artinTrivialWrong)

/-- 'unravellaw35.ArtinHoms': WHATEVER THE INPUT: true; the input reads as it did. -/
def artinHomsSpec : ChangeSpec := { name := "artinHoms", fn := fun _ => fun
  | [d1, d2, d3] => { results := [.lit (.bool true)], args := [d1, d2, d3] }
  | _ => none }
def artinHomsRow : OpenClaim := { program := "ytlkmcbgkohpmiaa", sum := "f219e3882e8105f5ad1f7ae5334ee2191c8272acb1e7f5b3532a488df03cca96", func := "unravel/unravellaw35.ArtinHoms", spec := "artinHoms", unfollowed := true, recurses := true, apart := false }
def ArtinHomsSaid : Prop := artinHomsRow.holds Try.pinned (OpenSpec.ofChange artinHomsSpec)

/-- ITS FALSE NEIGHBOUR: 'it returns false'. Refute it at one input. -/
def artinHomsWrong : ChangeSpec := { name := "artinHoms", fn := fun _ => fun
  | [d1, d2, d3] => { results := [.lit (.bool false)], args := [d1, d2, d3] }
  | _ => none }
def ArtinHomsWrongFalsely : Prop := artinHomsRow.holds Try.pinned (OpenSpec.ofChange artinHomsWrong)

/- THE SECOND FORM. 'bulk': how many values and letters a reading holds, each counted each time it is reached (what is shared counts as often as it is met; a slice's spare places count too). A statement '..UptoSaid' is the law's where the arguments, and the package variables that the reading takes, are together of bulk at most 1048576: NARROWER than '..Said'. Prove '..Said' where nothing that the law and all that it calls make is longer than what came in: it says more and counts as full. Else prove '..UptoSaid'. A law counts once. -/
mutual
def uptoBulk {H : Type} : DataW H → Nat
  | .lit (.string bytes) => bytes.length + 1
  | .lit _ => 1
  | .nil => 1
  | .ptr d => uptoBulk d + 1
  | .slice elems spare => uptoBulkAll elems + uptoBulkAll spare + 1
  | .agg parts => uptoBulkAll parts + 1
  | .iface _ d => uptoBulk d + 1
  | .map entries => uptoBulkEntries entries + 1
  | .held _ => 1
def uptoBulkAll {H : Type} : List (DataW H) → Nat
  | [] => 0
  | d :: r => uptoBulk d + uptoBulkAll r
def uptoBulkEntries {H : Type} : List (Lit × DataW H) → Nat
  | [] => 0
  | x :: r => uptoBulkEntry x + uptoBulkEntries r
def uptoBulkEntry {H : Type} : Lit × DataW H → Nat
  | (.string bytes, d) => bytes.length + uptoBulk d + 1
  | (_, d) => uptoBulk d + 1
 end
def uptoSmall : (H : Type) → List (DataW H) → Bool := fun _ ds => decide (uptoBulkAll ds ≤ 1048576)
def OpenSpec.upto (s : _root_.Go.ChangeSpec) : _root_.Go.OpenSpec := { _root_.Go.OpenSpec.ofChange s with cond := some uptoSmall }

/-- 'unravellaw35.ArtinActs', WHERE WHAT IT READS IS OF BULK AT MOST 1048576: true; the input reads as it did. -/
def artinActsUptoRow : OpenClaim := { program := "ytlkmcbgkohpmiaa", sum := "f219e3882e8105f5ad1f7ae5334ee2191c8272acb1e7f5b3532a488df03cca96", func := "unravel/unravellaw35.ArtinActs", spec := "artinActs", unfollowed := true, recurses := true, apart := false, narrowed := true }
def ArtinActsUptoSaid : Prop := artinActsUptoRow.holds Try.pinned (OpenSpec.upto artinActsSpec)

/-- 'unravellaw35.ArtinRelations', WHERE WHAT IT READS IS OF BULK AT MOST 1048576: true; the input reads as it did. -/
def artinRelationsUptoRow : OpenClaim := { program := "ytlkmcbgkohpmiaa", sum := "f219e3882e8105f5ad1f7ae5334ee2191c8272acb1e7f5b3532a488df03cca96", func := "unravel/unravellaw35.ArtinRelations", spec := "artinRelations", unfollowed := true, recurses := true, apart := false, narrowed := true }
def ArtinRelationsUptoSaid : Prop := artinRelationsUptoRow.holds Try.pinned (OpenSpec.upto artinRelationsSpec)

/-- 'unravellaw35.ArtinLong', WHERE WHAT IT READS IS OF BULK AT MOST 1048576: true; the input reads as it did. -/
def artinLongUptoRow : OpenClaim := { program := "ytlkmcbgkohpmiaa", sum := "f219e3882e8105f5ad1f7ae5334ee2191c8272acb1e7f5b3532a488df03cca96", func := "unravel/unravellaw35.ArtinLong", spec := "artinLong", unfollowed := true, recurses := true, apart := false, narrowed := true }
def ArtinLongUptoSaid : Prop := artinLongUptoRow.holds Try.pinned (OpenSpec.upto artinLongSpec)

/-- 'unravellaw35.ArtinFixes', WHERE WHAT IT READS IS OF BULK AT MOST 1048576: true; the input reads as it did. -/
def artinFixesUptoRow : OpenClaim := { program := "ytlkmcbgkohpmiaa", sum := "f219e3882e8105f5ad1f7ae5334ee2191c8272acb1e7f5b3532a488df03cca96", func := "unravel/unravellaw35.ArtinFixes", spec := "artinFixes", unfollowed := true, recurses := true, apart := false, narrowed := true }
def ArtinFixesUptoSaid : Prop := artinFixesUptoRow.holds Try.pinned (OpenSpec.upto artinFixesSpec)

/-- 'unravellaw35.ArtinTrivial', WHERE WHAT IT READS IS OF BULK AT MOST 1048576: true; the input reads as it did. -/
def artinTrivialUptoRow : OpenClaim := { program := "ytlkmcbgkohpmiaa", sum := "f219e3882e8105f5ad1f7ae5334ee2191c8272acb1e7f5b3532a488df03cca96", func := "unravel/unravellaw35.ArtinTrivial", spec := "artinTrivial", unfollowed := true, recurses := true, apart := false, narrowed := true }
def ArtinTrivialUptoSaid : Prop := artinTrivialUptoRow.holds Try.pinned (OpenSpec.upto artinTrivialSpec)

/-- 'unravellaw35.ArtinHoms', WHERE WHAT IT READS IS OF BULK AT MOST 1048576: true; the input reads as it did. -/
def artinHomsUptoRow : OpenClaim := { program := "ytlkmcbgkohpmiaa", sum := "f219e3882e8105f5ad1f7ae5334ee2191c8272acb1e7f5b3532a488df03cca96", func := "unravel/unravellaw35.ArtinHoms", spec := "artinHoms", unfollowed := true, recurses := true, apart := false, narrowed := true }
def ArtinHomsUptoSaid : Prop := artinHomsUptoRow.holds Try.pinned (OpenSpec.upto artinHomsSpec)

end Rows
end Go.Proofs.Ytlkmcbgkohpmiaa
