/-
  No cell of these rows narrows 'for every input' (looked for: loops, veiled, ifaces, maps, wideKeys, modest, calm, conditions, laid).
  DERIVED. THE GIVEN ROWS OF THIS SEAT. 8 by the template 'for every input the law returns true; each argument reads behind the call as it read before'; 0 by the template 'total and deterministic' (their statements: YteajmbanlohncaaTotals.lean).
  GIVEN WITH THE SEED: the statements are not yours to turn. If you find one false, say at which input.
  Laid BY PROGRAM, IN A SANDBOX (cutbox-rows.mjs): the forced cells as the released guide's own fill.sh prints them over the translation 698af331a4a2cdef… (all of the seat's roots in one cut). By AI agents, Wed Nov 11 2026. No macro, syntax, notation, axiom, sorry.
-/
import Derived.Test.YteajmbanlohncaaChecked
import GoSem.Claim
import GoSem.ClaimJoined
import GoSem.ClaimMapViews
import Derived.JoinedTies
import Derived.KernelRfl
namespace Go.Proofs.Yteajmbanlohncaa
/- THE CELL 'sum', in the pinned program and in every row, IS THE sha256 OF THE DUMP (.gsa) THAT YteajmbanlohncaaProg.lean LOADS. Nothing in Lean hashes anything: it is a label: what it is worth is what the hold of that sum in a sandbox is worth. -/
noncomputable def Try.pinned : Pinned := { name := "yteajmbanlohncaa", sum := "698af331a4a2cdef7bbd071b919d9f0917c7febb8eafe9fea8b42448159d7702", checked := Try.checked }
namespace Rows
def none {H : Type} : Left H := { results := [], args := [] }

/-- 'unravellaw46.PolygonCross': WHATEVER THE INPUT: true; the input reads as it did. -/
def polygonCrossSpec : ChangeSpec := { name := "polygonCross", fn := fun _ => fun
  | [d1, d2, d3, d4] => { results := [.lit (.bool true)], args := [d1, d2, d3, d4] }
  | _ => none }
def polygonCrossRow : OpenClaim := { program := "yteajmbanlohncaa", sum := "698af331a4a2cdef7bbd071b919d9f0917c7febb8eafe9fea8b42448159d7702", func := "unravel/unravellaw46.PolygonCross", spec := "polygonCross", unfollowed := true, recurses := true, plainKeys := false, apart := false }
def PolygonCrossSaid : Prop := polygonCrossRow.holds Try.pinned (OpenSpec.ofChange polygonCrossSpec)

/-- ITS FALSE NEIGHBOUR: 'it returns false'. Refute it at one input. -/
def polygonCrossWrong : ChangeSpec := { name := "polygonCross", fn := fun _ => fun
  | [d1, d2, d3, d4] => { results := [.lit (.bool false)], args := [d1, d2, d3, d4] }
  | _ => none }
def PolygonCrossWrongFalsely : Prop := polygonCrossRow.holds Try.pinned (OpenSpec.ofChange polygonCrossWrong)

/-- 'unravellaw46.PolygonProjects': WHATEVER THE INPUT: true; the input reads as it did. -/
def polygonProjectsSpec : ChangeSpec := { name := "polygonProjects", fn := fun _ => fun
  | [d] => { results := [.lit (.bool true)], args := [d] }
  | _ => none }
def polygonProjectsRow : OpenClaim := { program := "yteajmbanlohncaa", sum := "698af331a4a2cdef7bbd071b919d9f0917c7febb8eafe9fea8b42448159d7702", func := "unravel/unravellaw46.PolygonProjects", spec := "polygonProjects", unfollowed := true, recurses := true, plainKeys := false, apart := false }
def PolygonProjectsSaid : Prop := polygonProjectsRow.holds Try.pinned (OpenSpec.ofChange polygonProjectsSpec)

/-- ITS FALSE NEIGHBOUR: 'it returns false'. Refute it at one input. -/
def polygonProjectsWrong : ChangeSpec := { name := "polygonProjects", fn := fun _ => fun
  | [d] => { results := [.lit (.bool false)], args := [d] }
  | _ => none }
def PolygonProjectsWrongFalsely : Prop := polygonProjectsRow.holds Try.pinned (OpenSpec.ofChange polygonProjectsWrong)

/-- 'unravellaw46.PolygonTriangles': WHATEVER THE INPUT: true; the input reads as it did. -/
def polygonTrianglesSpec : ChangeSpec := { name := "polygonTriangles", fn := fun _ => fun
  | [d1, d2, d3] => { results := [.lit (.bool true)], args := [d1, d2, d3] }
  | _ => none }
def polygonTrianglesRow : OpenClaim := { program := "yteajmbanlohncaa", sum := "698af331a4a2cdef7bbd071b919d9f0917c7febb8eafe9fea8b42448159d7702", func := "unravel/unravellaw46.PolygonTriangles", spec := "polygonTriangles", unfollowed := true, recurses := true, plainKeys := false, apart := false }
def PolygonTrianglesSaid : Prop := polygonTrianglesRow.holds Try.pinned (OpenSpec.ofChange polygonTrianglesSpec)

/-- ITS FALSE NEIGHBOUR: 'it returns false'. Refute it at one input. -/
def polygonTrianglesWrong : ChangeSpec := { name := "polygonTriangles", fn := fun _ => fun
  | [d1, d2, d3] => { results := [.lit (.bool false)], args := [d1, d2, d3] }
  | _ => none }
def PolygonTrianglesWrongFalsely : Prop := polygonTrianglesRow.holds Try.pinned (OpenSpec.ofChange polygonTrianglesWrong)

/-- 'unravellaw46.PolygonMoves': WHATEVER THE INPUT: true; the input reads as it did. -/
def polygonMovesSpec : ChangeSpec := { name := "polygonMoves", fn := fun _ => fun
  | [d1, d2, d3, d4, d5] => { results := [.lit (.bool true)], args := [d1, d2, d3, d4, d5] }
  | _ => none }
def polygonMovesRow : OpenClaim := { program := "yteajmbanlohncaa", sum := "698af331a4a2cdef7bbd071b919d9f0917c7febb8eafe9fea8b42448159d7702", func := "unravel/unravellaw46.PolygonMoves", spec := "polygonMoves", unfollowed := true, recurses := true, plainKeys := false, apart := false }
def PolygonMovesSaid : Prop := polygonMovesRow.holds Try.pinned (OpenSpec.ofChange polygonMovesSpec)

/-- ITS FALSE NEIGHBOUR: 'it returns false'. Refute it at one input. -/
def polygonMovesWrong : ChangeSpec := { name := "polygonMoves", fn := fun _ => fun
  | [d1, d2, d3, d4, d5] => { results := [.lit (.bool false)], args := [d1, d2, d3, d4, d5] }
  | _ => none }
def PolygonMovesWrongFalsely : Prop := polygonMovesRow.holds Try.pinned (OpenSpec.ofChange polygonMovesWrong)

/-- 'unravellaw46.PolygonValid': WHATEVER THE INPUT: true; the input reads as it did. -/
def polygonValidSpec : ChangeSpec := { name := "polygonValid", fn := fun _ => fun
  | [d] => { results := [.lit (.bool true)], args := [d] }
  | _ => none }
def polygonValidRow : OpenClaim := { program := "yteajmbanlohncaa", sum := "698af331a4a2cdef7bbd071b919d9f0917c7febb8eafe9fea8b42448159d7702", func := "unravel/unravellaw46.PolygonValid", spec := "polygonValid", unfollowed := true, recurses := true, plainKeys := false, apart := false }
def PolygonValidSaid : Prop := polygonValidRow.holds Try.pinned (OpenSpec.ofChange polygonValidSpec)

/-- ITS FALSE NEIGHBOUR: 'it returns false'. Refute it at one input. -/
def polygonValidWrong : ChangeSpec := { name := "polygonValid", fn := fun _ => fun
  | [d] => { results := [.lit (.bool false)], args := [d] }
  | _ => none }
def PolygonValidWrongFalsely : Prop := polygonValidRow.holds Try.pinned (OpenSpec.ofChange polygonValidWrong)

/-- 'unravellaw46.PolygonMirrors': WHATEVER THE INPUT: true; the input reads as it did. -/
def polygonMirrorsSpec : ChangeSpec := { name := "polygonMirrors", fn := fun _ => fun
  | [d] => { results := [.lit (.bool true)], args := [d] }
  | _ => none }
def polygonMirrorsRow : OpenClaim := { program := "yteajmbanlohncaa", sum := "698af331a4a2cdef7bbd071b919d9f0917c7febb8eafe9fea8b42448159d7702", func := "unravel/unravellaw46.PolygonMirrors", spec := "polygonMirrors", unfollowed := true, recurses := true, plainKeys := false, apart := false }
def PolygonMirrorsSaid : Prop := polygonMirrorsRow.holds Try.pinned (OpenSpec.ofChange polygonMirrorsSpec)

/-- ITS FALSE NEIGHBOUR: 'it returns false'. Refute it at one input. -/
def polygonMirrorsWrong : ChangeSpec := { name := "polygonMirrors", fn := fun _ => fun
  | [d] => { results := [.lit (.bool false)], args := [d] }
  | _ => none }
def PolygonMirrorsWrongFalsely : Prop := polygonMirrorsRow.holds Try.pinned (OpenSpec.ofChange polygonMirrorsWrong)

/-- 'unravellaw46.PolygonSubdivides': WHATEVER THE INPUT: true; the input reads as it did. -/
def polygonSubdividesSpec : ChangeSpec := { name := "polygonSubdivides", fn := fun _ => fun
  | [d1, d2, d3] => { results := [.lit (.bool true)], args := [d1, d2, d3] }
  | _ => none }
def polygonSubdividesRow : OpenClaim := { program := "yteajmbanlohncaa", sum := "698af331a4a2cdef7bbd071b919d9f0917c7febb8eafe9fea8b42448159d7702", func := "unravel/unravellaw46.PolygonSubdivides", spec := "polygonSubdivides", inPlace := ["slices.overlaps[unravel/api.Point]"], unfollowed := true, recurses := true, plainKeys := false, apart := false }
def PolygonSubdividesSaid : Prop := polygonSubdividesRow.holds Try.pinned (OpenSpec.ofChange polygonSubdividesSpec)

/-- ITS FALSE NEIGHBOUR: 'it returns false'. Refute it at one input. -/
def polygonSubdividesWrong : ChangeSpec := { name := "polygonSubdivides", fn := fun _ => fun
  | [d1, d2, d3] => { results := [.lit (.bool false)], args := [d1, d2, d3] }
  | _ => none }
def PolygonSubdividesWrongFalsely : Prop := polygonSubdividesRow.holds Try.pinned (OpenSpec.ofChange polygonSubdividesWrong)

/-- 'unravellaw46.PolygonStarts': WHATEVER THE INPUT: true; the input reads as it did. -/
def polygonStartsSpec : ChangeSpec := { name := "polygonStarts", fn := fun _ => fun
  | [d1, d2] => { results := [.lit (.bool true)], args := [d1, d2] }
  | _ => none }
def polygonStartsRow : OpenClaim := { program := "yteajmbanlohncaa", sum := "698af331a4a2cdef7bbd071b919d9f0917c7febb8eafe9fea8b42448159d7702", func := "unravel/unravellaw46.PolygonStarts", spec := "polygonStarts", unfollowed := true, recurses := true, plainKeys := false, apart := false }
def PolygonStartsSaid : Prop := polygonStartsRow.holds Try.pinned (OpenSpec.ofChange polygonStartsSpec)

/-- ITS FALSE NEIGHBOUR: 'it returns false'. Refute it at one input. -/
def polygonStartsWrong : ChangeSpec := { name := "polygonStarts", fn := fun _ => fun
  | [d1, d2] => { results := [.lit (.bool false)], args := [d1, d2] }
  | _ => none }
def PolygonStartsWrongFalsely : Prop := polygonStartsRow.holds Try.pinned (OpenSpec.ofChange polygonStartsWrong)

/- THE SECOND FORM. 'bulk': how many values and letters a reading holds, each counted each time it is reached (what is shared counts as often as it is met; a slice's spare places count too). A statement '..UptoSaid' is the law's where the arguments, and the package variables that the reading takes, are together of bulk at most 1048576: NARROWER than '..Said'. Prove '..Said' where nothing that the law and all that it calls make is longer than what came in: it says more and counts as full. Else prove '..UptoSaid'. A law counts once. -/
mutual
def uptoBulk {H : Type} : DataW H → Nat
  | .lit (.string bytes) => bytes.length + 1
  | .lit _ => 1
  | .nil => 1
  | .ptr d => uptoBulk d + 1
  | .slice elems spare => uptoBulkAll elems + uptoBulkAll spare + 1
  | .agg parts => uptoBulkAll parts + 1
  | .iface _ d => uptoBulk d + 1
  | .map entries => uptoBulkEntries entries + 1
  | .held _ => 1
def uptoBulkAll {H : Type} : List (DataW H) → Nat
  | [] => 0
  | d :: r => uptoBulk d + uptoBulkAll r
def uptoBulkEntries {H : Type} : List (Lit × DataW H) → Nat
  | [] => 0
  | x :: r => uptoBulkEntry x + uptoBulkEntries r
def uptoBulkEntry {H : Type} : Lit × DataW H → Nat
  | (.string bytes, d) => bytes.length + uptoBulk d + 1
  | (_, d) => uptoBulk d + 1
 end
def uptoSmall : (H : Type) → List (DataW H) → Bool := fun _ ds => decide (uptoBulkAll ds ≤ 1048576)
def OpenSpec.upto (s : _root_.Go.ChangeSpec) : _root_.Go.OpenSpec := { _root_.Go.OpenSpec.ofChange s with cond := some uptoSmall }

/-- 'unravellaw46.PolygonCross', WHERE WHAT IT READS IS OF BULK AT MOST 1048576: true; the input reads as it did. -/
def polygonCrossUptoRow : OpenClaim := { program := "yteajmbanlohncaa", sum := "698af331a4a2cdef7bbd071b919d9f0917c7febb8eafe9fea8b42448159d7702", func := "unravel/unravellaw46.PolygonCross", spec := "polygonCross", unfollowed := true, recurses := true, plainKeys := false, apart := false, narrowed := true }
def PolygonCrossUptoSaid : Prop := polygonCrossUptoRow.holds Try.pinned (OpenSpec.upto polygonCrossSpec)

/-- 'unravellaw46.PolygonProjects', WHERE WHAT IT READS IS OF BULK AT MOST 1048576: true; the input reads as it did. -/
def polygonProjectsUptoRow : OpenClaim := { program := "yteajmbanlohncaa", sum := "698af331a4a2cdef7bbd071b919d9f0917c7febb8eafe9fea8b42448159d7702", func := "unravel/unravellaw46.PolygonProjects", spec := "polygonProjects", unfollowed := true, recurses := true, plainKeys := false, apart := false, narrowed := true }
def PolygonProjectsUptoSaid : Prop := polygonProjectsUptoRow.holds Try.pinned (OpenSpec.upto polygonProjectsSpec)

/-- 'unravellaw46.PolygonTriangles', WHERE WHAT IT READS IS OF BULK AT MOST 1048576: true; the input reads as it did. -/
def polygonTrianglesUptoRow : OpenClaim := { program := "yteajmbanlohncaa", sum := "698af331a4a2cdef7bbd071b919d9f0917c7febb8eafe9fea8b42448159d7702", func := "unravel/unravellaw46.PolygonTriangles", spec := "polygonTriangles", unfollowed := true, recurses := true, plainKeys := false, apart := false, narrowed := true }
def PolygonTrianglesUptoSaid : Prop := polygonTrianglesUptoRow.holds Try.pinned (OpenSpec.upto polygonTrianglesSpec)

/-- 'unravellaw46.PolygonMoves', WHERE WHAT IT READS IS OF BULK AT MOST 1048576: true; the input reads as it did. -/
def polygonMovesUptoRow : OpenClaim := { program := "yteajmbanlohncaa", sum := "698af331a4a2cdef7bbd071b919d9f0917c7febb8eafe9fea8b42448159d7702", func := "unravel/unravellaw46.PolygonMoves", spec := "polygonMoves", unfollowed := true, recurses := true, plainKeys := false, apart := false, narrowed := true }
def PolygonMovesUptoSaid : Prop := polygonMovesUptoRow.holds Try.pinned (OpenSpec.upto polygonMovesSpec)

/-- 'unravellaw46.PolygonValid', WHERE WHAT IT READS IS OF BULK AT MOST 1048576: true; the input reads as it did. -/
def polygonValidUptoRow : OpenClaim := { program := "yteajmbanlohncaa", sum := "698af331a4a2cdef7bbd071b919d9f0917c7febb8eafe9fea8b42448159d7702", func := "unravel/unravellaw46.PolygonValid", spec := "polygonValid", unfollowed := true, recurses := true, plainKeys := false, apart := false, narrowed := true }
def PolygonValidUptoSaid : Prop := polygonValidUptoRow.holds Try.pinned (OpenSpec.upto polygonValidSpec)

/-- 'unravellaw46.PolygonMirrors', WHERE WHAT IT READS IS OF BULK AT MOST 1048576: true; the input reads as it did. -/
def polygonMirrorsUptoRow : OpenClaim := { program := "yteajmbanlohncaa", sum := "698af331a4a2cdef7bbd071b919d9f0917c7febb8eafe9fea8b42448159d7702", func := "unravel/unravellaw46.PolygonMirrors", spec := "polygonMirrors", unfollowed := true, recurses := true, plainKeys := false, apart := false, narrowed := true }
def PolygonMirrorsUptoSaid : Prop := polygonMirrorsUptoRow.holds Try.pinned (OpenSpec.upto polygonMirrorsSpec)

/-- 'unravellaw46.PolygonSubdivides', WHERE WHAT IT READS IS OF BULK AT MOST 1048576: true; the input reads as it did. -/
def polygonSubdividesUptoRow : OpenClaim := { program := "yteajmbanlohncaa", sum := "698af331a4a2cdef7bbd071b919d9f0917c7febb8eafe9fea8b42448159d7702", func := "unravel/unravellaw46.PolygonSubdivides", spec := "polygonSubdivides", inPlace := ["slices.overlaps[unravel/api.Point]"], unfollowed := true, recurses := true, plainKeys := false, apart := false, narrowed := true }
def PolygonSubdividesUptoSaid : Prop := polygonSubdividesUptoRow.holds Try.pinned (OpenSpec.upto polygonSubdividesSpec)

/-- 'unravellaw46.PolygonStarts', WHERE WHAT IT READS IS OF BULK AT MOST 1048576: true; the input reads as it did. -/
def polygonStartsUptoRow : OpenClaim := { program := "yteajmbanlohncaa", sum := "698af331a4a2cdef7bbd071b919d9f0917c7febb8eafe9fea8b42448159d7702", func := "unravel/unravellaw46.PolygonStarts", spec := "polygonStarts", unfollowed := true, recurses := true, plainKeys := false, apart := false, narrowed := true }
def PolygonStartsUptoSaid : Prop := polygonStartsUptoRow.holds Try.pinned (OpenSpec.upto polygonStartsSpec)

end Rows
end Go.Proofs.Yteajmbanlohncaa
