/-
  No cell of these rows narrows 'for every input' (looked for: loops, veiled, ifaces, maps, wideKeys, modest, calm, conditions, laid).
  DERIVED. THE GIVEN ROWS OF THIS SEAT. 8 by the template 'for every input the law returns true; each argument reads behind the call as it read before'; 0 by the template 'total and deterministic' (their statements: YticemffhlapnnaaTotals.lean).
  GIVEN WITH THE SEED: the statements are not yours to turn. If you find one false, say at which input.
  Laid BY PROGRAM, IN A SANDBOX (cutbox-rows.mjs): the forced cells as the released guide's own fill.sh prints them over the translation e3d228e5586359f0… (all of the seat's roots in one cut). By AI agents, Wed Nov 11 2026. No macro, syntax, notation, axiom, sorry.
-/
import Derived.Test.YticemffhlapnnaaChecked
import GoSem.Claim
import GoSem.ClaimJoined
import GoSem.ClaimMapViews
import Derived.JoinedTies
import Derived.KernelRfl
namespace Go.Proofs.Yticemffhlapnnaa
/- THE CELL 'sum', in the pinned program and in every row, IS THE sha256 OF THE DUMP (.gsa) THAT YticemffhlapnnaaProg.lean LOADS. Nothing in Lean hashes anything: it is a label: what it is worth is what the hold of that sum in a sandbox is worth. -/
noncomputable def Try.pinned : Pinned := { name := "yticemffhlapnnaa", sum := "e3d228e5586359f0527517aefd031502460323bbc4786976ce9d0e3cdaadf15c", checked := Try.checked }
namespace Rows
def none {H : Type} : Left H := { results := [], args := [] }

/-- 'unravellaw44.GridlinkDiagram': WHATEVER THE INPUT: true; the input reads as it did. -/
def gridlinkDiagramSpec : ChangeSpec := { name := "gridlinkDiagram", fn := fun _ => fun
  | [d] => { results := [.lit (.bool true)], args := [d] }
  | _ => none }
def gridlinkDiagramRow : OpenClaim := { program := "yticemffhlapnnaa", sum := "e3d228e5586359f0527517aefd031502460323bbc4786976ce9d0e3cdaadf15c", func := "unravel/unravellaw44.GridlinkDiagram", spec := "gridlinkDiagram", inPlace := ["slices.overlaps[int]"], unfollowed := true, recurses := true, apart := false }
def GridlinkDiagramSaid : Prop := gridlinkDiagramRow.holds Try.pinned (OpenSpec.ofChange gridlinkDiagramSpec)

/-- ITS FALSE NEIGHBOUR: 'it returns false'. Refute it at one input. -/
def gridlinkDiagramWrong : ChangeSpec := { name := "gridlinkDiagram", fn := fun _ => fun
  | [d] => { results := [.lit (.bool false)], args := [d] }
  | _ => none }
def GridlinkDiagramWrongFalsely : Prop := gridlinkDiagramRow.holds Try.pinned (OpenSpec.ofChange gridlinkDiagramWrong)

/-- 'unravellaw44.GridlinkBraid': WHATEVER THE INPUT: true; the input reads as it did. -/
def gridlinkBraidSpec : ChangeSpec := { name := "gridlinkBraid", fn := fun _ => fun
  | [d1, d2] => { results := [.lit (.bool true)], args := [d1, d2] }
  | _ => none }
def gridlinkBraidRow : OpenClaim := { program := "yticemffhlapnnaa", sum := "e3d228e5586359f0527517aefd031502460323bbc4786976ce9d0e3cdaadf15c", func := "unravel/unravellaw44.GridlinkBraid", spec := "gridlinkBraid", inPlace := ["slices.overlaps[int]"], unfollowed := true, recurses := true, apart := false }
def GridlinkBraidSaid : Prop := gridlinkBraidRow.holds Try.pinned (OpenSpec.ofChange gridlinkBraidSpec)

/-- ITS FALSE NEIGHBOUR: 'it returns false'. Refute it at one input. -/
def gridlinkBraidWrong : ChangeSpec := { name := "gridlinkBraid", fn := fun _ => fun
  | [d1, d2] => { results := [.lit (.bool false)], args := [d1, d2] }
  | _ => none }
def GridlinkBraidWrongFalsely : Prop := gridlinkBraidRow.holds Try.pinned (OpenSpec.ofChange gridlinkBraidWrong)

/-- 'unravellaw44.GridlinkWrithe': WHATEVER THE INPUT: true; the input reads as it did. -/
def gridlinkWritheSpec : ChangeSpec := { name := "gridlinkWrithe", fn := fun _ => fun
  | [d1, d2] => { results := [.lit (.bool true)], args := [d1, d2] }
  | _ => none }
def gridlinkWritheRow : OpenClaim := { program := "yticemffhlapnnaa", sum := "e3d228e5586359f0527517aefd031502460323bbc4786976ce9d0e3cdaadf15c", func := "unravel/unravellaw44.GridlinkWrithe", spec := "gridlinkWrithe", inPlace := ["slices.overlaps[int]"], unfollowed := true, recurses := true, apart := false }
def GridlinkWritheSaid : Prop := gridlinkWritheRow.holds Try.pinned (OpenSpec.ofChange gridlinkWritheSpec)

/-- ITS FALSE NEIGHBOUR: 'it returns false'. Refute it at one input. -/
def gridlinkWritheWrong : ChangeSpec := { name := "gridlinkWrithe", fn := fun _ => fun
  | [d1, d2] => { results := [.lit (.bool false)], args := [d1, d2] }
  | _ => none }
def GridlinkWritheWrongFalsely : Prop := gridlinkWritheRow.holds Try.pinned (OpenSpec.ofChange gridlinkWritheWrong)

/-- 'unravellaw44.GridlinkErrors': WHATEVER THE INPUT: true; the input reads as it did. -/
def gridlinkErrorsSpec : ChangeSpec := { name := "gridlinkErrors", fn := fun _ => fun
  | [d] => { results := [.lit (.bool true)], args := [d] }
  | _ => none }
def gridlinkErrorsRow : OpenClaim := { program := "yticemffhlapnnaa", sum := "e3d228e5586359f0527517aefd031502460323bbc4786976ce9d0e3cdaadf15c", func := "unravel/unravellaw44.GridlinkErrors", spec := "gridlinkErrors", inPlace := ["slices.overlaps[int]"], unfollowed := true, recurses := true, apart := false }
def GridlinkErrorsSaid : Prop := gridlinkErrorsRow.holds Try.pinned (OpenSpec.ofChange gridlinkErrorsSpec)

/-- ITS FALSE NEIGHBOUR: 'it returns false'. Refute it at one input. -/
def gridlinkErrorsWrong : ChangeSpec := { name := "gridlinkErrors", fn := fun _ => fun
  | [d] => { results := [.lit (.bool false)], args := [d] }
  | _ => none }
def GridlinkErrorsWrongFalsely : Prop := gridlinkErrorsRow.holds Try.pinned (OpenSpec.ofChange gridlinkErrorsWrong)

/-- 'unravellaw44.GridlinkValid': WHATEVER THE INPUT: true; the input reads as it did. -/
def gridlinkValidSpec : ChangeSpec := { name := "gridlinkValid", fn := fun _ => fun
  | [d] => { results := [.lit (.bool true)], args := [d] }
  | _ => none }
def gridlinkValidRow : OpenClaim := { program := "yticemffhlapnnaa", sum := "e3d228e5586359f0527517aefd031502460323bbc4786976ce9d0e3cdaadf15c", func := "unravel/unravellaw44.GridlinkValid", spec := "gridlinkValid", inPlace := ["slices.overlaps[int]"], unfollowed := true, recurses := true, apart := false }
def GridlinkValidSaid : Prop := gridlinkValidRow.holds Try.pinned (OpenSpec.ofChange gridlinkValidSpec)

/-- ITS FALSE NEIGHBOUR: 'it returns false'. Refute it at one input. -/
def gridlinkValidWrong : ChangeSpec := { name := "gridlinkValid", fn := fun _ => fun
  | [d] => { results := [.lit (.bool false)], args := [d] }
  | _ => none }
def GridlinkValidWrongFalsely : Prop := gridlinkValidRow.holds Try.pinned (OpenSpec.ofChange gridlinkValidWrong)

/-- 'unravellaw44.GridlinkRotates': WHATEVER THE INPUT: true; the input reads as it did. -/
def gridlinkRotatesSpec : ChangeSpec := { name := "gridlinkRotates", fn := fun _ => fun
  | [d] => { results := [.lit (.bool true)], args := [d] }
  | _ => none }
def gridlinkRotatesRow : OpenClaim := { program := "yticemffhlapnnaa", sum := "e3d228e5586359f0527517aefd031502460323bbc4786976ce9d0e3cdaadf15c", func := "unravel/unravellaw44.GridlinkRotates", spec := "gridlinkRotates", inPlace := ["slices.overlaps[int]"], unfollowed := true, recurses := true, apart := false }
def GridlinkRotatesSaid : Prop := gridlinkRotatesRow.holds Try.pinned (OpenSpec.ofChange gridlinkRotatesSpec)

/-- ITS FALSE NEIGHBOUR: 'it returns false'. Refute it at one input. -/
def gridlinkRotatesWrong : ChangeSpec := { name := "gridlinkRotates", fn := fun _ => fun
  | [d] => { results := [.lit (.bool false)], args := [d] }
  | _ => none }
def GridlinkRotatesWrongFalsely : Prop := gridlinkRotatesRow.holds Try.pinned (OpenSpec.ofChange gridlinkRotatesWrong)

/-- 'unravellaw44.GridlinkReverse': WHATEVER THE INPUT: true; the input reads as it did. -/
def gridlinkReverseSpec : ChangeSpec := { name := "gridlinkReverse", fn := fun _ => fun
  | [d] => { results := [.lit (.bool true)], args := [d] }
  | _ => none }
def gridlinkReverseRow : OpenClaim := { program := "yticemffhlapnnaa", sum := "e3d228e5586359f0527517aefd031502460323bbc4786976ce9d0e3cdaadf15c", func := "unravel/unravellaw44.GridlinkReverse", spec := "gridlinkReverse", inPlace := ["slices.overlaps[int]"], unfollowed := true, recurses := true, apart := false }
def GridlinkReverseSaid : Prop := gridlinkReverseRow.holds Try.pinned (OpenSpec.ofChange gridlinkReverseSpec)

/-- ITS FALSE NEIGHBOUR: 'it returns false'. Refute it at one input. -/
def gridlinkReverseWrong : ChangeSpec := { name := "gridlinkReverse", fn := fun _ => fun
  | [d] => { results := [.lit (.bool false)], args := [d] }
  | _ => none }
def GridlinkReverseWrongFalsely : Prop := gridlinkReverseRow.holds Try.pinned (OpenSpec.ofChange gridlinkReverseWrong)

/-- 'unravellaw44.GridlinkCloses': WHATEVER THE INPUT: true; the input reads as it did. -/
def gridlinkClosesSpec : ChangeSpec := { name := "gridlinkCloses", fn := fun _ => fun
  | [d1, d2] => { results := [.lit (.bool true)], args := [d1, d2] }
  | _ => none }
def gridlinkClosesRow : OpenClaim := { program := "yticemffhlapnnaa", sum := "e3d228e5586359f0527517aefd031502460323bbc4786976ce9d0e3cdaadf15c", func := "unravel/unravellaw44.GridlinkCloses", spec := "gridlinkCloses", inPlace := ["slices.overlaps[int]"], unfollowed := true, recurses := true, apart := false }
def GridlinkClosesSaid : Prop := gridlinkClosesRow.holds Try.pinned (OpenSpec.ofChange gridlinkClosesSpec)

/-- ITS FALSE NEIGHBOUR: 'it returns false'. Refute it at one input. -/
def gridlinkClosesWrong : ChangeSpec := { name := "gridlinkCloses", fn := fun _ => fun
  | [d1, d2] => { results := [.lit (.bool false)], args := [d1, d2] }
  | _ => none }
def GridlinkClosesWrongFalsely : Prop := gridlinkClosesRow.holds Try.pinned (OpenSpec.ofChange gridlinkClosesWrong)

/- THE SECOND FORM. 'bulk': how many values and letters a reading holds, each counted each time it is reached (what is shared counts as often as it is met; a slice's spare places count too). A statement '..UptoSaid' is the law's where the arguments, and the package variables that the reading takes, are together of bulk at most 1048576: NARROWER than '..Said'. Prove '..Said' where nothing that the law and all that it calls make is longer than what came in: it says more and counts as full. Else prove '..UptoSaid'. A law counts once. -/
mutual
def uptoBulk {H : Type} : DataW H → Nat
  | .lit (.string bytes) => bytes.length + 1
  | .lit _ => 1
  | .nil => 1
  | .ptr d => uptoBulk d + 1
  | .slice elems spare => uptoBulkAll elems + uptoBulkAll spare + 1
  | .agg parts => uptoBulkAll parts + 1
  | .iface _ d => uptoBulk d + 1
  | .map entries => uptoBulkEntries entries + 1
  | .held _ => 1
def uptoBulkAll {H : Type} : List (DataW H) → Nat
  | [] => 0
  | d :: r => uptoBulk d + uptoBulkAll r
def uptoBulkEntries {H : Type} : List (Lit × DataW H) → Nat
  | [] => 0
  | x :: r => uptoBulkEntry x + uptoBulkEntries r
def uptoBulkEntry {H : Type} : Lit × DataW H → Nat
  | (.string bytes, d) => bytes.length + uptoBulk d + 1
  | (_, d) => uptoBulk d + 1
 end
def uptoSmall : (H : Type) → List (DataW H) → Bool := fun _ ds => decide (uptoBulkAll ds ≤ 1048576)
def OpenSpec.upto (s : _root_.Go.ChangeSpec) : _root_.Go.OpenSpec := { _root_.Go.OpenSpec.ofChange s with cond := some uptoSmall }

/-- 'unravellaw44.GridlinkDiagram', WHERE WHAT IT READS IS OF BULK AT MOST 1048576: true; the input reads as it did. -/
def gridlinkDiagramUptoRow : OpenClaim := { program := "yticemffhlapnnaa", sum := "e3d228e5586359f0527517aefd031502460323bbc4786976ce9d0e3cdaadf15c", func := "unravel/unravellaw44.GridlinkDiagram", spec := "gridlinkDiagram", inPlace := ["slices.overlaps[int]"], unfollowed := true, recurses := true, apart := false, narrowed := true }
def GridlinkDiagramUptoSaid : Prop := gridlinkDiagramUptoRow.holds Try.pinned (OpenSpec.upto gridlinkDiagramSpec)

/-- 'unravellaw44.GridlinkBraid', WHERE WHAT IT READS IS OF BULK AT MOST 1048576: true; the input reads as it did. -/
def gridlinkBraidUptoRow : OpenClaim := { program := "yticemffhlapnnaa", sum := "e3d228e5586359f0527517aefd031502460323bbc4786976ce9d0e3cdaadf15c", func := "unravel/unravellaw44.GridlinkBraid", spec := "gridlinkBraid", inPlace := ["slices.overlaps[int]"], unfollowed := true, recurses := true, apart := false, narrowed := true }
def GridlinkBraidUptoSaid : Prop := gridlinkBraidUptoRow.holds Try.pinned (OpenSpec.upto gridlinkBraidSpec)

/-- 'unravellaw44.GridlinkWrithe', WHERE WHAT IT READS IS OF BULK AT MOST 1048576: true; the input reads as it did. -/
def gridlinkWritheUptoRow : OpenClaim := { program := "yticemffhlapnnaa", sum := "e3d228e5586359f0527517aefd031502460323bbc4786976ce9d0e3cdaadf15c", func := "unravel/unravellaw44.GridlinkWrithe", spec := "gridlinkWrithe", inPlace := ["slices.overlaps[int]"], unfollowed := true, recurses := true, apart := false, narrowed := true }
def GridlinkWritheUptoSaid : Prop := gridlinkWritheUptoRow.holds Try.pinned (OpenSpec.upto gridlinkWritheSpec)

/-- 'unravellaw44.GridlinkErrors', WHERE WHAT IT READS IS OF BULK AT MOST 1048576: true; the input reads as it did. -/
def gridlinkErrorsUptoRow : OpenClaim := { program := "yticemffhlapnnaa", sum := "e3d228e5586359f0527517aefd031502460323bbc4786976ce9d0e3cdaadf15c", func := "unravel/unravellaw44.GridlinkErrors", spec := "gridlinkErrors", inPlace := ["slices.overlaps[int]"], unfollowed := true, recurses := true, apart := false, narrowed := true }
def GridlinkErrorsUptoSaid : Prop := gridlinkErrorsUptoRow.holds Try.pinned (OpenSpec.upto gridlinkErrorsSpec)

/-- 'unravellaw44.GridlinkValid', WHERE WHAT IT READS IS OF BULK AT MOST 1048576: true; the input reads as it did. -/
def gridlinkValidUptoRow : OpenClaim := { program := "yticemffhlapnnaa", sum := "e3d228e5586359f0527517aefd031502460323bbc4786976ce9d0e3cdaadf15c", func := "unravel/unravellaw44.GridlinkValid", spec := "gridlinkValid", inPlace := ["slices.overlaps[int]"], unfollowed := true, recurses := true, apart := false, narrowed := true }
def GridlinkValidUptoSaid : Prop := gridlinkValidUptoRow.holds Try.pinned (OpenSpec.upto gridlinkValidSpec)

/-- 'unravellaw44.GridlinkRotates', WHERE WHAT IT READS IS OF BULK AT MOST 1048576: true; the input reads as it did. -/
def gridlinkRotatesUptoRow : OpenClaim := { program := "yticemffhlapnnaa", sum := "e3d228e5586359f0527517aefd031502460323bbc4786976ce9d0e3cdaadf15c", func := "unravel/unravellaw44.GridlinkRotates", spec := "gridlinkRotates", inPlace := ["slices.overlaps[int]"], unfollowed := true, recurses := true, apart := false, narrowed := true }
def GridlinkRotatesUptoSaid : Prop := gridlinkRotatesUptoRow.holds Try.pinned (OpenSpec.upto gridlinkRotatesSpec)

/-- 'unravellaw44.GridlinkReverse', WHERE WHAT IT READS IS OF BULK AT MOST 1048576: true; the input reads as it did. -/
def gridlinkReverseUptoRow : OpenClaim := { program := "yticemffhlapnnaa", sum := "e3d228e5586359f0527517aefd031502460323bbc4786976ce9d0e3cdaadf15c", func := "unravel/unravellaw44.GridlinkReverse", spec := "gridlinkReverse", inPlace := ["slices.overlaps[int]"], unfollowed := true, recurses := true, apart := false, narrowed := true }
def GridlinkReverseUptoSaid : Prop := gridlinkReverseUptoRow.holds Try.pinned (OpenSpec.upto gridlinkReverseSpec)

/-- 'unravellaw44.GridlinkCloses', WHERE WHAT IT READS IS OF BULK AT MOST 1048576: true; the input reads as it did. -/
def gridlinkClosesUptoRow : OpenClaim := { program := "yticemffhlapnnaa", sum := "e3d228e5586359f0527517aefd031502460323bbc4786976ce9d0e3cdaadf15c", func := "unravel/unravellaw44.GridlinkCloses", spec := "gridlinkCloses", inPlace := ["slices.overlaps[int]"], unfollowed := true, recurses := true, apart := false, narrowed := true }
def GridlinkClosesUptoSaid : Prop := gridlinkClosesUptoRow.holds Try.pinned (OpenSpec.upto gridlinkClosesSpec)

end Rows
end Go.Proofs.Yticemffhlapnnaa
