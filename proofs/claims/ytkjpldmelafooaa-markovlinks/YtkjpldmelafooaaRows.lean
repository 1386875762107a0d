/-
  No cell of these rows narrows 'for every input' (looked for: loops, veiled, ifaces, maps, wideKeys, modest, calm, conditions, laid).
  DERIVED. THE GIVEN ROWS OF THIS SEAT. 8 by the template 'for every input the law returns true; each argument reads behind the call as it read before'; 0 by the template 'total and deterministic' (their statements: YtkjpldmelafooaaTotals.lean).
  GIVEN WITH THE SEED: the statements are not yours to turn. If you find one false, say at which input.
  Laid BY PROGRAM, IN A SANDBOX (cutbox-rows.mjs): the forced cells as the released guide's own fill.sh prints them over the translation b1e5d34ce954450b… (all of the seat's roots in one cut). By AI agents, Wed Nov 11 2026. No macro, syntax, notation, axiom, sorry.
-/
import Derived.Test.YtkjpldmelafooaaChecked
import GoSem.Claim
import GoSem.ClaimJoined
import GoSem.ClaimMapViews
import Derived.JoinedTies
import Derived.KernelRfl
namespace Go.Proofs.Ytkjpldmelafooaa
/- THE CELL 'sum', in the pinned program and in every row, IS THE sha256 OF THE DUMP (.gsa) THAT YtkjpldmelafooaaProg.lean LOADS. Nothing in Lean hashes anything: it is a label: what it is worth is what the hold of that sum in a sandbox is worth. -/
noncomputable def Try.pinned : Pinned := { name := "ytkjpldmelafooaa", sum := "b1e5d34ce954450b4fe043bc0b033fd688c337604e4e288b2202e9d0529bbd51", checked := Try.checked }
namespace Rows
def none {H : Type} : Left H := { results := [], args := [] }

/-- 'unravellaw36.MarkovApply': WHATEVER THE INPUT: true; the input reads as it did. -/
def markovApplySpec : ChangeSpec := { name := "markovApply", fn := fun _ => fun
  | [d1, d2, d3] => { results := [.lit (.bool true)], args := [d1, d2, d3] }
  | _ => none }
def markovApplyRow : OpenClaim := { program := "ytkjpldmelafooaa", sum := "b1e5d34ce954450b4fe043bc0b033fd688c337604e4e288b2202e9d0529bbd51", func := "unravel/unravellaw36.MarkovApply", spec := "markovApply", inPlace := ["slices.overlaps[int]"], unfollowed := true, recurses := true, plainKeys := false, apart := false }
def MarkovApplySaid : Prop := markovApplyRow.holds Try.pinned (OpenSpec.ofChange markovApplySpec)

/-- ITS FALSE NEIGHBOUR: 'it returns false'. Refute it at one input. -/
def markovApplyWrong : ChangeSpec := { name := "markovApply", fn := fun _ => fun
  | [d1, d2, d3] => { results := [.lit (.bool false)], args := [d1, d2, d3] }
  | _ => none }
def MarkovApplyWrongFalsely : Prop := markovApplyRow.holds Try.pinned (OpenSpec.ofChange markovApplyWrong)

/-- 'unravellaw36.MarkovInverse': WHATEVER THE INPUT: true; the input reads as it did. -/
def markovInverseSpec : ChangeSpec := { name := "markovInverse", fn := fun _ => fun
  | [d1, d2, d3] => { results := [.lit (.bool true)], args := [d1, d2, d3] }
  | _ => none }
def markovInverseRow : OpenClaim := { program := "ytkjpldmelafooaa", sum := "b1e5d34ce954450b4fe043bc0b033fd688c337604e4e288b2202e9d0529bbd51", func := "unravel/unravellaw36.MarkovInverse", spec := "markovInverse", inPlace := ["slices.overlaps[int]"], unfollowed := true, recurses := true, plainKeys := false, apart := false }
def MarkovInverseSaid : Prop := markovInverseRow.holds Try.pinned (OpenSpec.ofChange markovInverseSpec)

/-- ITS FALSE NEIGHBOUR: 'it returns false'. Refute it at one input. -/
def markovInverseWrong : ChangeSpec := { name := "markovInverse", fn := fun _ => fun
  | [d1, d2, d3] => { results := [.lit (.bool false)], args := [d1, d2, d3] }
  | _ => none }
def MarkovInverseWrongFalsely : Prop := markovInverseRow.holds Try.pinned (OpenSpec.ofChange markovInverseWrong)

/-- 'unravellaw36.MarkovFull': WHATEVER THE INPUT: true; the input reads as it did. -/
def markovFullSpec : ChangeSpec := { name := "markovFull", fn := fun _ => fun
  | [d1, d2] => { results := [.lit (.bool true)], args := [d1, d2] }
  | _ => none }
def markovFullRow : OpenClaim := { program := "ytkjpldmelafooaa", sum := "b1e5d34ce954450b4fe043bc0b033fd688c337604e4e288b2202e9d0529bbd51", func := "unravel/unravellaw36.MarkovFull", spec := "markovFull", inPlace := ["slices.overlaps[int]"], unfollowed := true, recurses := true, plainKeys := false, apart := false }
def MarkovFullSaid : Prop := markovFullRow.holds Try.pinned (OpenSpec.ofChange markovFullSpec)

/-- ITS FALSE NEIGHBOUR: 'it returns false'. Refute it at one input. -/
def markovFullWrong : ChangeSpec := { name := "markovFull", fn := fun _ => fun
  | [d1, d2] => { results := [.lit (.bool false)], args := [d1, d2] }
  | _ => none }
def MarkovFullWrongFalsely : Prop := markovFullRow.holds Try.pinned (OpenSpec.ofChange markovFullWrong)

/-- 'unravellaw36.MarkovPlay': WHATEVER THE INPUT: true; the input reads as it did. -/
def markovPlaySpec : ChangeSpec := { name := "markovPlay", fn := fun _ => fun
  | [d1, d2, d3] => { results := [.lit (.bool true)], args := [d1, d2, d3] }
  | _ => none }
def markovPlayRow : OpenClaim := { program := "ytkjpldmelafooaa", sum := "b1e5d34ce954450b4fe043bc0b033fd688c337604e4e288b2202e9d0529bbd51", func := "unravel/unravellaw36.MarkovPlay", spec := "markovPlay", inPlace := ["slices.overlaps[int]"], unfollowed := true, recurses := true, plainKeys := false, apart := false }
def MarkovPlaySaid : Prop := markovPlayRow.holds Try.pinned (OpenSpec.ofChange markovPlaySpec)

/-- ITS FALSE NEIGHBOUR: 'it returns false'. Refute it at one input. -/
def markovPlayWrong : ChangeSpec := { name := "markovPlay", fn := fun _ => fun
  | [d1, d2, d3] => { results := [.lit (.bool false)], args := [d1, d2, d3] }
  | _ => none }
def MarkovPlayWrongFalsely : Prop := markovPlayRow.holds Try.pinned (OpenSpec.ofChange markovPlayWrong)

/-- 'unravellaw36.MarkovAll': WHATEVER THE INPUT: true; the input reads as it did. -/
def markovAllSpec : ChangeSpec := { name := "markovAll", fn := fun _ => fun
  | [d1, d2] => { results := [.lit (.bool true)], args := [d1, d2] }
  | _ => none }
def markovAllRow : OpenClaim := { program := "ytkjpldmelafooaa", sum := "b1e5d34ce954450b4fe043bc0b033fd688c337604e4e288b2202e9d0529bbd51", func := "unravel/unravellaw36.MarkovAll", spec := "markovAll", inPlace := ["slices.overlaps[int]"], unfollowed := true, recurses := true, plainKeys := false, apart := false }
def MarkovAllSaid : Prop := markovAllRow.holds Try.pinned (OpenSpec.ofChange markovAllSpec)

/-- ITS FALSE NEIGHBOUR: 'it returns false'. Refute it at one input. -/
def markovAllWrong : ChangeSpec := { name := "markovAll", fn := fun _ => fun
  | [d1, d2] => { results := [.lit (.bool false)], args := [d1, d2] }
  | _ => none }
def MarkovAllWrongFalsely : Prop := markovAllRow.holds Try.pinned (OpenSpec.ofChange markovAllWrong)

/-- 'unravellaw36.MarkovExponent': WHATEVER THE INPUT: true; the input reads as it did. -/
def markovExponentSpec : ChangeSpec := { name := "markovExponent", fn := fun _ => fun
  | [d1, d2, d3] => { results := [.lit (.bool true)], args := [d1, d2, d3] }
  | _ => none }
def markovExponentRow : OpenClaim := { program := "ytkjpldmelafooaa", sum := "b1e5d34ce954450b4fe043bc0b033fd688c337604e4e288b2202e9d0529bbd51", func := "unravel/unravellaw36.MarkovExponent", spec := "markovExponent", inPlace := ["slices.overlaps[int]"], unfollowed := true, recurses := true, plainKeys := false, apart := false }
def MarkovExponentSaid : Prop := markovExponentRow.holds Try.pinned (OpenSpec.ofChange markovExponentSpec)

/-- ITS FALSE NEIGHBOUR: 'it returns false'. Refute it at one input. -/
def markovExponentWrong : ChangeSpec := { name := "markovExponent", fn := fun _ => fun
  | [d1, d2, d3] => { results := [.lit (.bool false)], args := [d1, d2, d3] }
  | _ => none }
def MarkovExponentWrongFalsely : Prop := markovExponentRow.holds Try.pinned (OpenSpec.ofChange markovExponentWrong)

/-- 'unravellaw36.MarkovBraids': WHATEVER THE INPUT: true; the input reads as it did. -/
def markovBraidsSpec : ChangeSpec := { name := "markovBraids", fn := fun _ => fun
  | [d1, d2, d3] => { results := [.lit (.bool true)], args := [d1, d2, d3] }
  | _ => none }
def markovBraidsRow : OpenClaim := { program := "ytkjpldmelafooaa", sum := "b1e5d34ce954450b4fe043bc0b033fd688c337604e4e288b2202e9d0529bbd51", func := "unravel/unravellaw36.MarkovBraids", spec := "markovBraids", inPlace := ["slices.overlaps[int]"], unfollowed := true, recurses := true, plainKeys := false, apart := false }
def MarkovBraidsSaid : Prop := markovBraidsRow.holds Try.pinned (OpenSpec.ofChange markovBraidsSpec)

/-- ITS FALSE NEIGHBOUR: 'it returns false'. Refute it at one input. -/
def markovBraidsWrong : ChangeSpec := { name := "markovBraids", fn := fun _ => fun
  | [d1, d2, d3] => { results := [.lit (.bool false)], args := [d1, d2, d3] }
  | _ => none }
def MarkovBraidsWrongFalsely : Prop := markovBraidsRow.holds Try.pinned (OpenSpec.ofChange markovBraidsWrong)

/-- 'unravellaw36.MarkovLinks': WHATEVER THE INPUT: true; the input reads as it did. -/
def markovLinksSpec : ChangeSpec := { name := "markovLinks", fn := fun _ => fun
  | [d1, d2, d3] => { results := [.lit (.bool true)], args := [d1, d2, d3] }
  | _ => none }
def markovLinksRow : OpenClaim := { program := "ytkjpldmelafooaa", sum := "b1e5d34ce954450b4fe043bc0b033fd688c337604e4e288b2202e9d0529bbd51", func := "unravel/unravellaw36.MarkovLinks", spec := "markovLinks", inPlace := ["slices.overlaps[int]"], unfollowed := true, recurses := true, plainKeys := false, apart := false }
def MarkovLinksSaid : Prop := markovLinksRow.holds Try.pinned (OpenSpec.ofChange markovLinksSpec)

/-- ITS FALSE NEIGHBOUR: 'it returns false'. Refute it at one input. -/
def markovLinksWrong : ChangeSpec := { name := "markovLinks", fn := fun _ => fun
  | [d1, d2, d3] => { results := [.lit (.bool false)], args := [d1, d2, d3] }
  | _ => none }
def MarkovLinksWrongFalsely : Prop := markovLinksRow.holds Try.pinned (OpenSpec.ofChange markovLinksWrong)

/- THE SECOND FORM. 'bulk': how many values and letters a reading holds, each counted each time it is reached (what is shared counts as often as it is met; a slice's spare places count too). A statement '..UptoSaid' is the law's where the arguments, and the package variables that the reading takes, are together of bulk at most 1048576: NARROWER than '..Said'. Prove '..Said' where nothing that the law and all that it calls make is longer than what came in: it says more and counts as full. Else prove '..UptoSaid'. A law counts once. -/
mutual
def uptoBulk {H : Type} : DataW H → Nat
  | .lit (.string bytes) => bytes.length + 1
  | .lit _ => 1
  | .nil => 1
  | .ptr d => uptoBulk d + 1
  | .slice elems spare => uptoBulkAll elems + uptoBulkAll spare + 1
  | .agg parts => uptoBulkAll parts + 1
  | .iface _ d => uptoBulk d + 1
  | .map entries => uptoBulkEntries entries + 1
  | .held _ => 1
def uptoBulkAll {H : Type} : List (DataW H) → Nat
  | [] => 0
  | d :: r => uptoBulk d + uptoBulkAll r
def uptoBulkEntries {H : Type} : List (Lit × DataW H) → Nat
  | [] => 0
  | x :: r => uptoBulkEntry x + uptoBulkEntries r
def uptoBulkEntry {H : Type} : Lit × DataW H → Nat
  | (.string bytes, d) => bytes.length + uptoBulk d + 1
  | (_, d) => uptoBulk d + 1
 end
def uptoSmall : (H : Type) → List (DataW H) → Bool := fun _ ds => decide (uptoBulkAll ds ≤ 1048576)
def OpenSpec.upto (s : _root_.Go.ChangeSpec) : _root_.Go.OpenSpec := { _root_.Go.OpenSpec.ofChange s with cond := some uptoSmall }

/-- 'unravellaw36.MarkovApply', WHERE WHAT IT READS IS OF BULK AT MOST 1048576: true; the input reads as it did. -/
def markovApplyUptoRow : OpenClaim := { program := "ytkjpldmelafooaa", sum := "b1e5d34ce954450b4fe043bc0b033fd688c337604e4e288b2202e9d0529bbd51", func := "unravel/unravellaw36.MarkovApply", spec := "markovApply", inPlace := ["slices.overlaps[int]"], unfollowed := true, recurses := true, plainKeys := false, apart := false, narrowed := true }
def MarkovApplyUptoSaid : Prop := markovApplyUptoRow.holds Try.pinned (OpenSpec.upto markovApplySpec)

/-- 'unravellaw36.MarkovInverse', WHERE WHAT IT READS IS OF BULK AT MOST 1048576: true; the input reads as it did. -/
def markovInverseUptoRow : OpenClaim := { program := "ytkjpldmelafooaa", sum := "b1e5d34ce954450b4fe043bc0b033fd688c337604e4e288b2202e9d0529bbd51", func := "unravel/unravellaw36.MarkovInverse", spec := "markovInverse", inPlace := ["slices.overlaps[int]"], unfollowed := true, recurses := true, plainKeys := false, apart := false, narrowed := true }
def MarkovInverseUptoSaid : Prop := markovInverseUptoRow.holds Try.pinned (OpenSpec.upto markovInverseSpec)

/-- 'unravellaw36.MarkovFull', WHERE WHAT IT READS IS OF BULK AT MOST 1048576: true; the input reads as it did. -/
def markovFullUptoRow : OpenClaim := { program := "ytkjpldmelafooaa", sum := "b1e5d34ce954450b4fe043bc0b033fd688c337604e4e288b2202e9d0529bbd51", func := "unravel/unravellaw36.MarkovFull", spec := "markovFull", inPlace := ["slices.overlaps[int]"], unfollowed := true, recurses := true, plainKeys := false, apart := false, narrowed := true }
def MarkovFullUptoSaid : Prop := markovFullUptoRow.holds Try.pinned (OpenSpec.upto markovFullSpec)

/-- 'unravellaw36.MarkovPlay', WHERE WHAT IT READS IS OF BULK AT MOST 1048576: true; the input reads as it did. -/
def markovPlayUptoRow : OpenClaim := { program := "ytkjpldmelafooaa", sum := "b1e5d34ce954450b4fe043bc0b033fd688c337604e4e288b2202e9d0529bbd51", func := "unravel/unravellaw36.MarkovPlay", spec := "markovPlay", inPlace := ["slices.overlaps[int]"], unfollowed := true, recurses := true, plainKeys := false, apart := false, narrowed := true }
def MarkovPlayUptoSaid : Prop := markovPlayUptoRow.holds Try.pinned (OpenSpec.upto markovPlaySpec)

/-- 'unravellaw36.MarkovAll', WHERE WHAT IT READS IS OF BULK AT MOST 1048576: true; the input reads as it did. -/
def markovAllUptoRow : OpenClaim := { program := "ytkjpldmelafooaa", sum := "b1e5d34ce954450b4fe043bc0b033fd688c337604e4e288b2202e9d0529bbd51", func := "unravel/unravellaw36.MarkovAll", spec := "markovAll", inPlace := ["slices.overlaps[int]"], unfollowed := true, recurses := true, plainKeys := false, apart := false, narrowed := true }
def MarkovAllUptoSaid : Prop := markovAllUptoRow.holds Try.pinned (OpenSpec.upto markovAllSpec)

/-- 'unravellaw36.MarkovExponent', WHERE WHAT IT READS IS OF BULK AT MOST 1048576: true; the input reads as it did. -/
def markovExponentUptoRow : OpenClaim := { program := "ytkjpldmelafooaa", sum := "b1e5d34ce954450b4fe043bc0b033fd688c337604e4e288b2202e9d0529bbd51", func := "unravel/unravellaw36.MarkovExponent", spec := "markovExponent", inPlace := ["slices.overlaps[int]"], unfollowed := true, recurses := true, plainKeys := false, apart := false, narrowed := true }
def MarkovExponentUptoSaid : Prop := markovExponentUptoRow.holds Try.pinned (OpenSpec.upto markovExponentSpec)

/-- 'unravellaw36.MarkovBraids', WHERE WHAT IT READS IS OF BULK AT MOST 1048576: true; the input reads as it did. -/
def markovBraidsUptoRow : OpenClaim := { program := "ytkjpldmelafooaa", sum := "b1e5d34ce954450b4fe043bc0b033fd688c337604e4e288b2202e9d0529bbd51", func := "unravel/unravellaw36.MarkovBraids", spec := "markovBraids", inPlace := ["slices.overlaps[int]"], unfollowed := true, recurses := true, plainKeys := false, apart := false, narrowed := true }
def MarkovBraidsUptoSaid : Prop := markovBraidsUptoRow.holds Try.pinned (OpenSpec.upto markovBraidsSpec)

/-- 'unravellaw36.MarkovLinks', WHERE WHAT IT READS IS OF BULK AT MOST 1048576: true; the input reads as it did. -/
def markovLinksUptoRow : OpenClaim := { program := "ytkjpldmelafooaa", sum := "b1e5d34ce954450b4fe043bc0b033fd688c337604e4e288b2202e9d0529bbd51", func := "unravel/unravellaw36.MarkovLinks", spec := "markovLinks", inPlace := ["slices.overlaps[int]"], unfollowed := true, recurses := true, plainKeys := false, apart := false, narrowed := true }
def MarkovLinksUptoSaid : Prop := markovLinksUptoRow.holds Try.pinned (OpenSpec.upto markovLinksSpec)

end Rows
end Go.Proofs.Ytkjpldmelafooaa
