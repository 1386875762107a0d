/-
  No cell of these rows narrows 'for every input' (looked for: loops, veiled, ifaces, maps, wideKeys, modest, calm, conditions, laid).
  DERIVED. THE GIVEN ROWS OF THIS SEAT. 9 by the template 'for every input the law returns true; each argument reads behind the call as it read before'; 0 by the template 'total and deterministic' (their statements: YtkeaonceaaafcaaTotals.lean).
  GIVEN WITH THE SEED: the statements are not yours to turn. If you find one false, say at which input.
  Laid BY PROGRAM, IN A SANDBOX (cutbox-rows.mjs): the forced cells as the released guide's own fill.sh prints them over the translation 48f583351e7123e2… (all of the seat's roots in one cut). By AI agents, Wed Nov 11 2026. No macro, syntax, notation, axiom, sorry.
-/
import Derived.Test.YtkeaonceaaafcaaChecked
import GoSem.Claim
import GoSem.ClaimJoined
import GoSem.ClaimMapViews
import Derived.JoinedTies
import Derived.KernelRfl
namespace Go.Proofs.Ytkeaonceaaafcaa
/- THE CELL 'sum', in the pinned program and in every row, IS THE sha256 OF THE DUMP (.gsa) THAT YtkeaonceaaafcaaProg.lean LOADS. Nothing in Lean hashes anything: it is a label: what it is worth is what the hold of that sum in a sandbox is worth. -/
noncomputable def Try.pinned : Pinned := { name := "ytkeaonceaaafcaa", sum := "48f583351e7123e2746134d76041eb0a8f8048f92778bea21540e510c89c2423", checked := Try.checked }
namespace Rows
def none {H : Type} : Left H := { results := [], args := [] }

/-- 'unravellaw34.GarsideForm': WHATEVER THE INPUT: true; the input reads as it did. -/
def garsideFormSpec : ChangeSpec := { name := "garsideForm", fn := fun _ => fun
  | [d] => { results := [.lit (.bool true)], args := [d] }
  | _ => none }
def garsideFormRow : OpenClaim := { program := "ytkeaonceaaafcaa", sum := "48f583351e7123e2746134d76041eb0a8f8048f92778bea21540e510c89c2423", func := "unravel/unravellaw34.GarsideForm", spec := "garsideForm", apart := false }
def GarsideFormSaid : Prop := garsideFormRow.holds Try.pinned (OpenSpec.ofChange garsideFormSpec)

/-- ITS FALSE NEIGHBOUR: 'it returns false'. Refute it at one input. -/
def garsideFormWrong : ChangeSpec := { name := "garsideForm", fn := fun _ => fun
  | [d] => { results := [.lit (.bool false)], args := [d] }
  | _ => none }
def GarsideFormWrongFalsely : Prop := garsideFormRow.holds Try.pinned (OpenSpec.ofChange garsideFormWrong)

/-- 'unravellaw34.GarsideSame': WHATEVER THE INPUT: true; the input reads as it did. -/
def garsideSameSpec : ChangeSpec := { name := "garsideSame", fn := fun _ => fun
  | [d1, d2] => { results := [.lit (.bool true)], args := [d1, d2] }
  | _ => none }
def garsideSameRow : OpenClaim := { program := "ytkeaonceaaafcaa", sum := "48f583351e7123e2746134d76041eb0a8f8048f92778bea21540e510c89c2423", func := "unravel/unravellaw34.GarsideSame", spec := "garsideSame", unfollowed := true, recurses := true, apart := false }
def GarsideSameSaid : Prop := garsideSameRow.holds Try.pinned (OpenSpec.ofChange garsideSameSpec)

/-- ITS FALSE NEIGHBOUR: 'it returns false'. Refute it at one input. -/
def garsideSameWrong : ChangeSpec := { name := "garsideSame", fn := fun _ => fun
  | [d1, d2] => { results := [.lit (.bool false)], args := [d1, d2] }
  | _ => none }
def GarsideSameWrongFalsely : Prop := garsideSameRow.holds Try.pinned (OpenSpec.ofChange garsideSameWrong)

/-- 'unravellaw34.GarsideCenter': WHATEVER THE INPUT: true; the input reads as it did. -/
def garsideCenterSpec : ChangeSpec := { name := "garsideCenter", fn := fun _ => fun
  | [d] => { results := [.lit (.bool true)], args := [d] }
  | _ => none }
def garsideCenterRow : OpenClaim := { program := "ytkeaonceaaafcaa", sum := "48f583351e7123e2746134d76041eb0a8f8048f92778bea21540e510c89c2423", func := "unravel/unravellaw34.GarsideCenter", spec := "garsideCenter", unfollowed := true, recurses := true, apart := false }
def GarsideCenterSaid : Prop := garsideCenterRow.holds Try.pinned (OpenSpec.ofChange garsideCenterSpec)

/-- ITS FALSE NEIGHBOUR: 'it returns false'. Refute it at one input. -/
def garsideCenterWrong : ChangeSpec := { name := "garsideCenter", fn := fun _ => fun
  | [d] => { results := [.lit (.bool false)], args := [d] }
  | _ => none }
def GarsideCenterWrongFalsely : Prop := garsideCenterRow.holds Try.pinned (OpenSpec.ofChange garsideCenterWrong)

/-- 'unravellaw34.GarsideExponent': WHATEVER THE INPUT: true; the input reads as it did. -/
def garsideExponentSpec : ChangeSpec := { name := "garsideExponent", fn := fun _ => fun
  | [d] => { results := [.lit (.bool true)], args := [d] }
  | _ => none }
def garsideExponentRow : OpenClaim := { program := "ytkeaonceaaafcaa", sum := "48f583351e7123e2746134d76041eb0a8f8048f92778bea21540e510c89c2423", func := "unravel/unravellaw34.GarsideExponent", spec := "garsideExponent", apart := false }
def GarsideExponentSaid : Prop := garsideExponentRow.holds Try.pinned (OpenSpec.ofChange garsideExponentSpec)

/-- ITS FALSE NEIGHBOUR: 'it returns false'. Refute it at one input. -/
def garsideExponentWrong : ChangeSpec := { name := "garsideExponent", fn := fun _ => fun
  | [d] => { results := [.lit (.bool false)], args := [d] }
  | _ => none }
def GarsideExponentWrongFalsely : Prop := garsideExponentRow.holds Try.pinned (OpenSpec.ofChange garsideExponentWrong)

/-- 'unravellaw34.GarsideRelations': WHATEVER THE INPUT: true; the input reads as it did. -/
def garsideRelationsSpec : ChangeSpec := { name := "garsideRelations", fn := fun _ => fun
  | [d1, d2, d3] => { results := [.lit (.bool true)], args := [d1, d2, d3] }
  | _ => none }
def garsideRelationsRow : OpenClaim := { program := "ytkeaonceaaafcaa", sum := "48f583351e7123e2746134d76041eb0a8f8048f92778bea21540e510c89c2423", func := "unravel/unravellaw34.GarsideRelations", spec := "garsideRelations", unfollowed := true, recurses := true, apart := false }
def GarsideRelationsSaid : Prop := garsideRelationsRow.holds Try.pinned (OpenSpec.ofChange garsideRelationsSpec)

/-- ITS FALSE NEIGHBOUR: 'it returns false'. Refute it at one input. -/
def garsideRelationsWrong : ChangeSpec := { name := "garsideRelations", fn := fun _ => fun
  | [d1, d2, d3] => { results := [.lit (.bool false)], args := [d1, d2, d3] }
  | _ => none }
def GarsideRelationsWrongFalsely : Prop := garsideRelationsRow.holds Try.pinned (OpenSpec.ofChange garsideRelationsWrong)

/-- 'unravellaw34.GarsideSimple': WHATEVER THE INPUT: true; the input reads as it did. -/
def garsideSimpleSpec : ChangeSpec := { name := "garsideSimple", fn := fun _ => fun
  | [d] => { results := [.lit (.bool true)], args := [d] }
  | _ => none }
def garsideSimpleRow : OpenClaim := { program := "ytkeaonceaaafcaa", sum := "48f583351e7123e2746134d76041eb0a8f8048f92778bea21540e510c89c2423", func := "unravel/unravellaw34.GarsideSimple", spec := "garsideSimple", unfollowed := true, recurses := true, apart := false }
def GarsideSimpleSaid : Prop := garsideSimpleRow.holds Try.pinned (OpenSpec.ofChange garsideSimpleSpec)

/-- ITS FALSE NEIGHBOUR: 'it returns false'. Refute it at one input. -/
def garsideSimpleWrong : ChangeSpec := { name := "garsideSimple", fn := fun _ => fun
  | [d] => { results := [.lit (.bool false)], args := [d] }
  | _ => none }
def GarsideSimpleWrongFalsely : Prop := garsideSimpleRow.holds Try.pinned (OpenSpec.ofChange garsideSimpleWrong)

/-- 'unravellaw34.GarsideValid': WHATEVER THE INPUT: true; the input reads as it did. -/
def garsideValidSpec : ChangeSpec := { name := "garsideValid", fn := fun _ => fun
  | [d] => { results := [.lit (.bool true)], args := [d] }
  | _ => none }
def garsideValidRow : OpenClaim := { program := "ytkeaonceaaafcaa", sum := "48f583351e7123e2746134d76041eb0a8f8048f92778bea21540e510c89c2423", func := "unravel/unravellaw34.GarsideValid", spec := "garsideValid", unfollowed := true, recurses := true, apart := false }
def GarsideValidSaid : Prop := garsideValidRow.holds Try.pinned (OpenSpec.ofChange garsideValidSpec)

/-- ITS FALSE NEIGHBOUR: 'it returns false'. Refute it at one input. -/
def garsideValidWrong : ChangeSpec := { name := "garsideValid", fn := fun _ => fun
  | [d] => { results := [.lit (.bool false)], args := [d] }
  | _ => none }
def GarsideValidWrongFalsely : Prop := garsideValidRow.holds Try.pinned (OpenSpec.ofChange garsideValidWrong)

/-- 'unravellaw34.GarsideInverse': WHATEVER THE INPUT: true; the input reads as it did. -/
def garsideInverseSpec : ChangeSpec := { name := "garsideInverse", fn := fun _ => fun
  | [d] => { results := [.lit (.bool true)], args := [d] }
  | _ => none }
def garsideInverseRow : OpenClaim := { program := "ytkeaonceaaafcaa", sum := "48f583351e7123e2746134d76041eb0a8f8048f92778bea21540e510c89c2423", func := "unravel/unravellaw34.GarsideInverse", spec := "garsideInverse", unfollowed := true, recurses := true, apart := false }
def GarsideInverseSaid : Prop := garsideInverseRow.holds Try.pinned (OpenSpec.ofChange garsideInverseSpec)

/-- ITS FALSE NEIGHBOUR: 'it returns false'. Refute it at one input. -/
def garsideInverseWrong : ChangeSpec := { name := "garsideInverse", fn := fun _ => fun
  | [d] => { results := [.lit (.bool false)], args := [d] }
  | _ => none }
def GarsideInverseWrongFalsely : Prop := garsideInverseRow.holds Try.pinned (OpenSpec.ofChange garsideInverseWrong)

/-- 'unravellaw34.GarsideReturns': WHATEVER THE INPUT: true; the input reads as it did. -/
def garsideReturnsSpec : ChangeSpec := { name := "garsideReturns", fn := fun _ => fun
  | [d1, d2] => { results := [.lit (.bool true)], args := [d1, d2] }
  | _ => none }
def garsideReturnsRow : OpenClaim := { program := "ytkeaonceaaafcaa", sum := "48f583351e7123e2746134d76041eb0a8f8048f92778bea21540e510c89c2423", func := "unravel/unravellaw34.GarsideReturns", spec := "garsideReturns", unfollowed := true, recurses := true, apart := false }
def GarsideReturnsSaid : Prop := garsideReturnsRow.holds Try.pinned (OpenSpec.ofChange garsideReturnsSpec)

/-- ITS FALSE NEIGHBOUR: 'it returns false'. Refute it at one input. -/
def garsideReturnsWrong : ChangeSpec := { name := "garsideReturns", fn := fun _ => fun
  | [d1, d2] => { results := [.lit (.bool false)], args := [d1, d2] }
  | _ => none }
def GarsideReturnsWrongFalsely : Prop := garsideReturnsRow.holds Try.pinned (OpenSpec.ofChange garsideReturnsWrong)

/- THE SECOND FORM. 'bulk': how many values and letters a reading holds, each counted each time it is reached (what is shared counts as often as it is met; a slice's spare places count too). A statement '..UptoSaid' is the law's where the arguments, and the package variables that the reading takes, are together of bulk at most 1048576: NARROWER than '..Said'. Prove '..Said' where nothing that the law and all that it calls make is longer than what came in: it says more and counts as full. Else prove '..UptoSaid'. A law counts once. -/
mutual
def uptoBulk {H : Type} : DataW H → Nat
  | .lit (.string bytes) => bytes.length + 1
  | .lit _ => 1
  | .nil => 1
  | .ptr d => uptoBulk d + 1
  | .slice elems spare => uptoBulkAll elems + uptoBulkAll spare + 1
  | .agg parts => uptoBulkAll parts + 1
  | .iface _ d => uptoBulk d + 1
  | .map entries => uptoBulkEntries entries + 1
  | .held _ => 1
def uptoBulkAll {H : Type} : List (DataW H) → Nat
  | [] => 0
  | d :: r => uptoBulk d + uptoBulkAll r
def uptoBulkEntries {H : Type} : List (Lit × DataW H) → Nat
  | [] => 0
  | x :: r => uptoBulkEntry x + uptoBulkEntries r
def uptoBulkEntry {H : Type} : Lit × DataW H → Nat
  | (.string bytes, d) => bytes.length + uptoBulk d + 1
  | (_, d) => uptoBulk d + 1
 end
def uptoSmall : (H : Type) → List (DataW H) → Bool := fun _ ds => decide (uptoBulkAll ds ≤ 1048576)
def OpenSpec.upto (s : _root_.Go.ChangeSpec) : _root_.Go.OpenSpec := { _root_.Go.OpenSpec.ofChange s with cond := some uptoSmall }

/-- 'unravellaw34.GarsideForm', WHERE WHAT IT READS IS OF BULK AT MOST 1048576: true; the input reads as it did. -/
def garsideFormUptoRow : OpenClaim := { program := "ytkeaonceaaafcaa", sum := "48f583351e7123e2746134d76041eb0a8f8048f92778bea21540e510c89c2423", func := "unravel/unravellaw34.GarsideForm", spec := "garsideForm", apart := false, narrowed := true }
def GarsideFormUptoSaid : Prop := garsideFormUptoRow.holds Try.pinned (OpenSpec.upto garsideFormSpec)

/-- 'unravellaw34.GarsideSame', WHERE WHAT IT READS IS OF BULK AT MOST 1048576: true; the input reads as it did. -/
def garsideSameUptoRow : OpenClaim := { program := "ytkeaonceaaafcaa", sum := "48f583351e7123e2746134d76041eb0a8f8048f92778bea21540e510c89c2423", func := "unravel/unravellaw34.GarsideSame", spec := "garsideSame", unfollowed := true, recurses := true, apart := false, narrowed := true }
def GarsideSameUptoSaid : Prop := garsideSameUptoRow.holds Try.pinned (OpenSpec.upto garsideSameSpec)

/-- 'unravellaw34.GarsideCenter', WHERE WHAT IT READS IS OF BULK AT MOST 1048576: true; the input reads as it did. -/
def garsideCenterUptoRow : OpenClaim := { program := "ytkeaonceaaafcaa", sum := "48f583351e7123e2746134d76041eb0a8f8048f92778bea21540e510c89c2423", func := "unravel/unravellaw34.GarsideCenter", spec := "garsideCenter", unfollowed := true, recurses := true, apart := false, narrowed := true }
def GarsideCenterUptoSaid : Prop := garsideCenterUptoRow.holds Try.pinned (OpenSpec.upto garsideCenterSpec)

/-- 'unravellaw34.GarsideExponent', WHERE WHAT IT READS IS OF BULK AT MOST 1048576: true; the input reads as it did. -/
def garsideExponentUptoRow : OpenClaim := { program := "ytkeaonceaaafcaa", sum := "48f583351e7123e2746134d76041eb0a8f8048f92778bea21540e510c89c2423", func := "unravel/unravellaw34.GarsideExponent", spec := "garsideExponent", apart := false, narrowed := true }
def GarsideExponentUptoSaid : Prop := garsideExponentUptoRow.holds Try.pinned (OpenSpec.upto garsideExponentSpec)

/-- 'unravellaw34.GarsideRelations', WHERE WHAT IT READS IS OF BULK AT MOST 1048576: true; the input reads as it did. -/
def garsideRelationsUptoRow : OpenClaim := { program := "ytkeaonceaaafcaa", sum := "48f583351e7123e2746134d76041eb0a8f8048f92778bea21540e510c89c2423", func := "unravel/unravellaw34.GarsideRelations", spec := "garsideRelations", unfollowed := true, recurses := true, apart := false, narrowed := true }
def GarsideRelationsUptoSaid : Prop := garsideRelationsUptoRow.holds Try.pinned (OpenSpec.upto garsideRelationsSpec)

/-- 'unravellaw34.GarsideSimple', WHERE WHAT IT READS IS OF BULK AT MOST 1048576: true; the input reads as it did. -/
def garsideSimpleUptoRow : OpenClaim := { program := "ytkeaonceaaafcaa", sum := "48f583351e7123e2746134d76041eb0a8f8048f92778bea21540e510c89c2423", func := "unravel/unravellaw34.GarsideSimple", spec := "garsideSimple", unfollowed := true, recurses := true, apart := false, narrowed := true }
def GarsideSimpleUptoSaid : Prop := garsideSimpleUptoRow.holds Try.pinned (OpenSpec.upto garsideSimpleSpec)

/-- 'unravellaw34.GarsideValid', WHERE WHAT IT READS IS OF BULK AT MOST 1048576: true; the input reads as it did. -/
def garsideValidUptoRow : OpenClaim := { program := "ytkeaonceaaafcaa", sum := "48f583351e7123e2746134d76041eb0a8f8048f92778bea21540e510c89c2423", func := "unravel/unravellaw34.GarsideValid", spec := "garsideValid", unfollowed := true, recurses := true, apart := false, narrowed := true }
def GarsideValidUptoSaid : Prop := garsideValidUptoRow.holds Try.pinned (OpenSpec.upto garsideValidSpec)

/-- 'unravellaw34.GarsideInverse', WHERE WHAT IT READS IS OF BULK AT MOST 1048576: true; the input reads as it did. -/
def garsideInverseUptoRow : OpenClaim := { program := "ytkeaonceaaafcaa", sum := "48f583351e7123e2746134d76041eb0a8f8048f92778bea21540e510c89c2423", func := "unravel/unravellaw34.GarsideInverse", spec := "garsideInverse", unfollowed := true, recurses := true, apart := false, narrowed := true }
def GarsideInverseUptoSaid : Prop := garsideInverseUptoRow.holds Try.pinned (OpenSpec.upto garsideInverseSpec)

/-- 'unravellaw34.GarsideReturns', WHERE WHAT IT READS IS OF BULK AT MOST 1048576: true; the input reads as it did. -/
def garsideReturnsUptoRow : OpenClaim := { program := "ytkeaonceaaafcaa", sum := "48f583351e7123e2746134d76041eb0a8f8048f92778bea21540e510c89c2423", func := "unravel/unravellaw34.GarsideReturns", spec := "garsideReturns", unfollowed := true, recurses := true, apart := false, narrowed := true }
def GarsideReturnsUptoSaid : Prop := garsideReturnsUptoRow.holds Try.pinned (OpenSpec.upto garsideReturnsSpec)

end Rows
end Go.Proofs.Ytkeaonceaaafcaa
