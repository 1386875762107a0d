/-
  No cell of these rows narrows 'for every input' (looked for: loops, veiled, ifaces, maps, wideKeys, modest, calm, conditions, laid).
  DERIVED. THE GIVEN ROWS OF THIS SEAT. 7 by the template 'for every input the law returns true; each argument reads behind the call as it read before'; 0 by the template 'total and deterministic' (their statements: YtmlkiafidahnbaaTotals.lean).
  GIVEN WITH THE SEED: the statements are not yours to turn. If you find one false, say at which input.
  Laid BY PROGRAM, IN A SANDBOX (cutbox-rows.mjs): the forced cells as the released guide's own fill.sh prints them over the translation 7f1ad71c983c1ab3… (all of the seat's roots in one cut). By AI agents, Wed Nov 11 2026. No macro, syntax, notation, axiom, sorry.
-/
import Derived.Test.YtmlkiafidahnbaaChecked
import GoSem.Claim
import GoSem.ClaimJoined
import GoSem.ClaimMapViews
import Derived.JoinedTies
import Derived.KernelRfl
namespace Go.Proofs.Ytmlkiafidahnbaa
/- THE CELL 'sum', in the pinned program and in every row, IS THE sha256 OF THE DUMP (.gsa) THAT YtmlkiafidahnbaaProg.lean LOADS. Nothing in Lean hashes anything: it is a label: what it is worth is what the hold of that sum in a sandbox is worth. -/
noncomputable def Try.pinned : Pinned := { name := "ytmlkiafidahnbaa", sum := "7f1ad71c983c1ab3902109a51b2dbe750c0206f798f92c441c48d0840af42677", checked := Try.checked }
namespace Rows
def none {H : Type} : Left H := { results := [], args := [] }

/-- 'unravellaw30.PermAll': WHATEVER THE INPUT: true; the input reads as it did. -/
def permAllSpec : ChangeSpec := { name := "permAll", fn := fun _ => fun
  | [d1, d2] => { results := [.lit (.bool true)], args := [d1, d2] }
  | _ => none }
def permAllRow : OpenClaim := { program := "ytmlkiafidahnbaa", sum := "7f1ad71c983c1ab3902109a51b2dbe750c0206f798f92c441c48d0840af42677", func := "unravel/unravellaw30.PermAll", spec := "permAll", unfollowed := true, recurses := true, apart := false }
def PermAllSaid : Prop := permAllRow.holds Try.pinned (OpenSpec.ofChange permAllSpec)

/-- ITS FALSE NEIGHBOUR: 'it returns false'. Refute it at one input. -/
def permAllWrong : ChangeSpec := { name := "permAll", fn := fun _ => fun
  | [d1, d2] => { results := [.lit (.bool false)], args := [d1, d2] }
  | _ => none }
def PermAllWrongFalsely : Prop := permAllRow.holds Try.pinned (OpenSpec.ofChange permAllWrong)

/-- 'unravellaw30.PermClass': WHATEVER THE INPUT: true; the input reads as it did. -/
def permClassSpec : ChangeSpec := { name := "permClass", fn := fun _ => fun
  | [d1, d2] => { results := [.lit (.bool true)], args := [d1, d2] }
  | _ => none }
def permClassRow : OpenClaim := { program := "ytmlkiafidahnbaa", sum := "7f1ad71c983c1ab3902109a51b2dbe750c0206f798f92c441c48d0840af42677", func := "unravel/unravellaw30.PermClass", spec := "permClass", unfollowed := true, recurses := true, apart := false }
def PermClassSaid : Prop := permClassRow.holds Try.pinned (OpenSpec.ofChange permClassSpec)

/-- ITS FALSE NEIGHBOUR: 'it returns false'. Refute it at one input. -/
def permClassWrong : ChangeSpec := { name := "permClass", fn := fun _ => fun
  | [d1, d2] => { results := [.lit (.bool false)], args := [d1, d2] }
  | _ => none }
def PermClassWrongFalsely : Prop := permClassRow.holds Try.pinned (OpenSpec.ofChange permClassWrong)

/-- 'unravellaw30.PermTells': WHATEVER THE INPUT: true; the input reads as it did. -/
def permTellsSpec : ChangeSpec := { name := "permTells", fn := fun _ => fun
  | [d1, d2] => { results := [.lit (.bool true)], args := [d1, d2] }
  | _ => none }
def permTellsRow : OpenClaim := { program := "ytmlkiafidahnbaa", sum := "7f1ad71c983c1ab3902109a51b2dbe750c0206f798f92c441c48d0840af42677", func := "unravel/unravellaw30.PermTells", spec := "permTells", unfollowed := true, recurses := true, apart := false }
def PermTellsSaid : Prop := permTellsRow.holds Try.pinned (OpenSpec.ofChange permTellsSpec)

/-- ITS FALSE NEIGHBOUR: 'it returns false'. Refute it at one input. -/
def permTellsWrong : ChangeSpec := { name := "permTells", fn := fun _ => fun
  | [d1, d2] => { results := [.lit (.bool false)], args := [d1, d2] }
  | _ => none }
def PermTellsWrongFalsely : Prop := permTellsRow.holds Try.pinned (OpenSpec.ofChange permTellsWrong)

/-- 'unravellaw30.PermGroup': WHATEVER THE INPUT: true; the input reads as it did. -/
def permGroupSpec : ChangeSpec := { name := "permGroup", fn := fun _ => fun
  | [d1, d2, d3] => { results := [.lit (.bool true)], args := [d1, d2, d3] }
  | _ => none }
def permGroupRow : OpenClaim := { program := "ytmlkiafidahnbaa", sum := "7f1ad71c983c1ab3902109a51b2dbe750c0206f798f92c441c48d0840af42677", func := "unravel/unravellaw30.PermGroup", spec := "permGroup", unfollowed := true, recurses := true, apart := false }
def PermGroupSaid : Prop := permGroupRow.holds Try.pinned (OpenSpec.ofChange permGroupSpec)

/-- ITS FALSE NEIGHBOUR: 'it returns false'. Refute it at one input. -/
def permGroupWrong : ChangeSpec := { name := "permGroup", fn := fun _ => fun
  | [d1, d2, d3] => { results := [.lit (.bool false)], args := [d1, d2, d3] }
  | _ => none }
def PermGroupWrongFalsely : Prop := permGroupRow.holds Try.pinned (OpenSpec.ofChange permGroupWrong)

/-- 'unravellaw30.PermConjugates': WHATEVER THE INPUT: true; the input reads as it did. -/
def permConjugatesSpec : ChangeSpec := { name := "permConjugates", fn := fun _ => fun
  | [d1, d2] => { results := [.lit (.bool true)], args := [d1, d2] }
  | _ => none }
def permConjugatesRow : OpenClaim := { program := "ytmlkiafidahnbaa", sum := "7f1ad71c983c1ab3902109a51b2dbe750c0206f798f92c441c48d0840af42677", func := "unravel/unravellaw30.PermConjugates", spec := "permConjugates", unfollowed := true, recurses := true, apart := false }
def PermConjugatesSaid : Prop := permConjugatesRow.holds Try.pinned (OpenSpec.ofChange permConjugatesSpec)

/-- ITS FALSE NEIGHBOUR: 'it returns false'. Refute it at one input. -/
def permConjugatesWrong : ChangeSpec := { name := "permConjugates", fn := fun _ => fun
  | [d1, d2] => { results := [.lit (.bool false)], args := [d1, d2] }
  | _ => none }
def PermConjugatesWrongFalsely : Prop := permConjugatesRow.holds Try.pinned (OpenSpec.ofChange permConjugatesWrong)

/-- 'unravellaw30.PermTransitive': WHATEVER THE INPUT: true; the input reads as it did. -/
def permTransitiveSpec : ChangeSpec := { name := "permTransitive", fn := fun _ => fun
  | [d1, d2] => { results := [.lit (.bool true)], args := [d1, d2] }
  | _ => none }
def permTransitiveRow : OpenClaim := { program := "ytmlkiafidahnbaa", sum := "7f1ad71c983c1ab3902109a51b2dbe750c0206f798f92c441c48d0840af42677", func := "unravel/unravellaw30.PermTransitive", spec := "permTransitive", unfollowed := true, recurses := true, apart := false }
def PermTransitiveSaid : Prop := permTransitiveRow.holds Try.pinned (OpenSpec.ofChange permTransitiveSpec)

/-- ITS FALSE NEIGHBOUR: 'it returns false'. Refute it at one input. -/
def permTransitiveWrong : ChangeSpec := { name := "permTransitive", fn := fun _ => fun
  | [d1, d2] => { results := [.lit (.bool false)], args := [d1, d2] }
  | _ => none }
def PermTransitiveWrongFalsely : Prop := permTransitiveRow.holds Try.pinned (OpenSpec.ofChange permTransitiveWrong)

/-- 'unravellaw30.PermClosed': WHATEVER THE INPUT: true; the input reads as it did. -/
def permClosedSpec : ChangeSpec := { name := "permClosed", fn := fun _ => fun
  | [d] => { results := [.lit (.bool true)], args := [d] }
  | _ => none }
def permClosedRow : OpenClaim := { program := "ytmlkiafidahnbaa", sum := "7f1ad71c983c1ab3902109a51b2dbe750c0206f798f92c441c48d0840af42677", func := "unravel/unravellaw30.PermClosed", spec := "permClosed", unfollowed := true, recurses := true, apart := false }
def PermClosedSaid : Prop := permClosedRow.holds Try.pinned (OpenSpec.ofChange permClosedSpec)

/-- ITS FALSE NEIGHBOUR: 'it returns false'. Refute it at one input. -/
def permClosedWrong : ChangeSpec := { name := "permClosed", fn := fun _ => fun
  | [d] => { results := [.lit (.bool false)], args := [d] }
  | _ => none }
def PermClosedWrongFalsely : Prop := permClosedRow.holds Try.pinned (OpenSpec.ofChange permClosedWrong)

/- THE SECOND FORM. 'bulk': how many values and letters a reading holds, each counted each time it is reached (what is shared counts as often as it is met; a slice's spare places count too). A statement '..UptoSaid' is the law's where the arguments, and the package variables that the reading takes, are together of bulk at most 1048576: NARROWER than '..Said'. Prove '..Said' where nothing that the law and all that it calls make is longer than what came in: it says more and counts as full. Else prove '..UptoSaid'. A law counts once. -/
mutual
def uptoBulk {H : Type} : DataW H → Nat
  | .lit (.string bytes) => bytes.length + 1
  | .lit _ => 1
  | .nil => 1
  | .ptr d => uptoBulk d + 1
  | .slice elems spare => uptoBulkAll elems + uptoBulkAll spare + 1
  | .agg parts => uptoBulkAll parts + 1
  | .iface _ d => uptoBulk d + 1
  | .map entries => uptoBulkEntries entries + 1
  | .held _ => 1
def uptoBulkAll {H : Type} : List (DataW H) → Nat
  | [] => 0
  | d :: r => uptoBulk d + uptoBulkAll r
def uptoBulkEntries {H : Type} : List (Lit × DataW H) → Nat
  | [] => 0
  | x :: r => uptoBulkEntry x + uptoBulkEntries r
def uptoBulkEntry {H : Type} : Lit × DataW H → Nat
  | (.string bytes, d) => bytes.length + uptoBulk d + 1
  | (_, d) => uptoBulk d + 1
 end
def uptoSmall : (H : Type) → List (DataW H) → Bool := fun _ ds => decide (uptoBulkAll ds ≤ 1048576)
def OpenSpec.upto (s : _root_.Go.ChangeSpec) : _root_.Go.OpenSpec := { _root_.Go.OpenSpec.ofChange s with cond := some uptoSmall }

/-- 'unravellaw30.PermAll', WHERE WHAT IT READS IS OF BULK AT MOST 1048576: true; the input reads as it did. -/
def permAllUptoRow : OpenClaim := { program := "ytmlkiafidahnbaa", sum := "7f1ad71c983c1ab3902109a51b2dbe750c0206f798f92c441c48d0840af42677", func := "unravel/unravellaw30.PermAll", spec := "permAll", unfollowed := true, recurses := true, apart := false, narrowed := true }
def PermAllUptoSaid : Prop := permAllUptoRow.holds Try.pinned (OpenSpec.upto permAllSpec)

/-- 'unravellaw30.PermClass', WHERE WHAT IT READS IS OF BULK AT MOST 1048576: true; the input reads as it did. -/
def permClassUptoRow : OpenClaim := { program := "ytmlkiafidahnbaa", sum := "7f1ad71c983c1ab3902109a51b2dbe750c0206f798f92c441c48d0840af42677", func := "unravel/unravellaw30.PermClass", spec := "permClass", unfollowed := true, recurses := true, apart := false, narrowed := true }
def PermClassUptoSaid : Prop := permClassUptoRow.holds Try.pinned (OpenSpec.upto permClassSpec)

/-- 'unravellaw30.PermTells', WHERE WHAT IT READS IS OF BULK AT MOST 1048576: true; the input reads as it did. -/
def permTellsUptoRow : OpenClaim := { program := "ytmlkiafidahnbaa", sum := "7f1ad71c983c1ab3902109a51b2dbe750c0206f798f92c441c48d0840af42677", func := "unravel/unravellaw30.PermTells", spec := "permTells", unfollowed := true, recurses := true, apart := false, narrowed := true }
def PermTellsUptoSaid : Prop := permTellsUptoRow.holds Try.pinned (OpenSpec.upto permTellsSpec)

/-- 'unravellaw30.PermGroup', WHERE WHAT IT READS IS OF BULK AT MOST 1048576: true; the input reads as it did. -/
def permGroupUptoRow : OpenClaim := { program := "ytmlkiafidahnbaa", sum := "7f1ad71c983c1ab3902109a51b2dbe750c0206f798f92c441c48d0840af42677", func := "unravel/unravellaw30.PermGroup", spec := "permGroup", unfollowed := true, recurses := true, apart := false, narrowed := true }
def PermGroupUptoSaid : Prop := permGroupUptoRow.holds Try.pinned (OpenSpec.upto permGroupSpec)

/-- 'unravellaw30.PermConjugates', WHERE WHAT IT READS IS OF BULK AT MOST 1048576: true; the input reads as it did. -/
def permConjugatesUptoRow : OpenClaim := { program := "ytmlkiafidahnbaa", sum := "7f1ad71c983c1ab3902109a51b2dbe750c0206f798f92c441c48d0840af42677", func := "unravel/unravellaw30.PermConjugates", spec := "permConjugates", unfollowed := true, recurses := true, apart := false, narrowed := true }
def PermConjugatesUptoSaid : Prop := permConjugatesUptoRow.holds Try.pinned (OpenSpec.upto permConjugatesSpec)

/-- 'unravellaw30.PermTransitive', WHERE WHAT IT READS IS OF BULK AT MOST 1048576: true; the input reads as it did. -/
def permTransitiveUptoRow : OpenClaim := { program := "ytmlkiafidahnbaa", sum := "7f1ad71c983c1ab3902109a51b2dbe750c0206f798f92c441c48d0840af42677", func := "unravel/unravellaw30.PermTransitive", spec := "permTransitive", unfollowed := true, recurses := true, apart := false, narrowed := true }
def PermTransitiveUptoSaid : Prop := permTransitiveUptoRow.holds Try.pinned (OpenSpec.upto permTransitiveSpec)

/-- 'unravellaw30.PermClosed', WHERE WHAT IT READS IS OF BULK AT MOST 1048576: true; the input reads as it did. -/
def permClosedUptoRow : OpenClaim := { program := "ytmlkiafidahnbaa", sum := "7f1ad71c983c1ab3902109a51b2dbe750c0206f798f92c441c48d0840af42677", func := "unravel/unravellaw30.PermClosed", spec := "permClosed", unfollowed := true, recurses := true, apart := false, narrowed := true }
def PermClosedUptoSaid : Prop := permClosedUptoRow.holds Try.pinned (OpenSpec.upto permClosedSpec)

end Rows
end Go.Proofs.Ytmlkiafidahnbaa
