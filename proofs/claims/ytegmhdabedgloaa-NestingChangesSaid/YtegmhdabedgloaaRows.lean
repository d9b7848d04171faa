/-
  No cell of these rows narrows 'for every input' (looked for: loops, veiled, ifaces, maps, wideKeys, modest, calm, conditions, laid).
  DERIVED. THE GIVEN ROWS OF THIS SEAT. 7 by the template 'for every input the law returns true; each argument reads behind the call as it read before'; 0 by the template 'total and deterministic' (their statements: YtegmhdabedgloaaTotals.lean).
  GIVEN WITH THE SEED: the statements are not yours to turn. If you find one false, say at which input.
  Laid BY PROGRAM, IN A SANDBOX (cutbox-rows.mjs): the forced cells as the released guide's own fill.sh prints them over the translation 54b8032901f934f6… (all of the seat's roots in one cut). By AI agents, Wed Nov 11 2026. No macro, syntax, notation, axiom, sorry.
-/
import Derived.Test.YtegmhdabedgloaaChecked
import GoSem.Claim
import GoSem.ClaimJoined
import GoSem.ClaimMapViews
import Derived.JoinedTies
import Derived.KernelRfl
namespace Go.Proofs.Ytegmhdabedgloaa
/- THE CELL 'sum', in the pinned program and in every row, IS THE sha256 OF THE DUMP (.gsa) THAT YtegmhdabedgloaaProg.lean LOADS. Nothing in Lean hashes anything: it is a label: what it is worth is what the hold of that sum in a sandbox is worth. -/
noncomputable def Try.pinned : Pinned := { name := "ytegmhdabedgloaa", sum := "54b8032901f934f68797876b2b22bb5c11cb4f8921f8860915214f2d3595571b", checked := Try.checked }
namespace Rows
def none {H : Type} : Left H := { results := [], args := [] }

/-- 'postilionlaw15.NestingContents': WHATEVER THE INPUT: true; the input reads as it did. -/
def nestingContentsSpec : ChangeSpec := { name := "nestingContents", fn := fun _ => fun
  | [d1, d2, d3] => { results := [.lit (.bool true)], args := [d1, d2, d3] }
  | _ => none }
def nestingContentsRow : OpenClaim := { program := "ytegmhdabedgloaa", sum := "54b8032901f934f68797876b2b22bb5c11cb4f8921f8860915214f2d3595571b", func := "postilion/postilionlaw15.NestingContents", spec := "nestingContents", unfollowed := true, recurses := true, apart := false }
def NestingContentsSaid : Prop := nestingContentsRow.holds Try.pinned (OpenSpec.ofChange nestingContentsSpec)

/-- ITS FALSE NEIGHBOUR: 'it returns false'. Refute it at one input. -/
def nestingContentsWrong : ChangeSpec := { name := "nestingContents", fn := fun _ => fun
  | [d1, d2, d3] => { results := [.lit (.bool false)], args := [d1, d2, d3] }
  | _ => none }
def NestingContentsWrongFalsely : Prop := nestingContentsRow.holds Try.pinned (OpenSpec.ofChange nestingContentsWrong)

/-- 'postilionlaw15.NestingDepth': WHATEVER THE INPUT: true; the input reads as it did. -/
def nestingDepthSpec : ChangeSpec := { name := "nestingDepth", fn := fun _ => fun
  | [d1, d2] => { results := [.lit (.bool true)], args := [d1, d2] }
  | _ => none }
def nestingDepthRow : OpenClaim := { program := "ytegmhdabedgloaa", sum := "54b8032901f934f68797876b2b22bb5c11cb4f8921f8860915214f2d3595571b", func := "postilion/postilionlaw15.NestingDepth", spec := "nestingDepth", unfollowed := true, recurses := true, apart := false }
def NestingDepthSaid : Prop := nestingDepthRow.holds Try.pinned (OpenSpec.ofChange nestingDepthSpec)

/-- ITS FALSE NEIGHBOUR: 'it returns false'. Refute it at one input. -/
def nestingDepthWrong : ChangeSpec := { name := "nestingDepth", fn := fun _ => fun
  | [d1, d2] => { results := [.lit (.bool false)], args := [d1, d2] }
  | _ => none }
def NestingDepthWrongFalsely : Prop := nestingDepthRow.holds Try.pinned (OpenSpec.ofChange nestingDepthWrong)

/-- 'postilionlaw15.NestingPlaces': WHATEVER THE INPUT: true; the input reads as it did. -/
def nestingPlacesSpec : ChangeSpec := { name := "nestingPlaces", fn := fun _ => fun
  | [d1, d2, d3] => { results := [.lit (.bool true)], args := [d1, d2, d3] }
  | _ => none }
def nestingPlacesRow : OpenClaim := { program := "ytegmhdabedgloaa", sum := "54b8032901f934f68797876b2b22bb5c11cb4f8921f8860915214f2d3595571b", func := "postilion/postilionlaw15.NestingPlaces", spec := "nestingPlaces", unfollowed := true, recurses := true, apart := false }
def NestingPlacesSaid : Prop := nestingPlacesRow.holds Try.pinned (OpenSpec.ofChange nestingPlacesSpec)

/-- ITS FALSE NEIGHBOUR: 'it returns false'. Refute it at one input. -/
def nestingPlacesWrong : ChangeSpec := { name := "nestingPlaces", fn := fun _ => fun
  | [d1, d2, d3] => { results := [.lit (.bool false)], args := [d1, d2, d3] }
  | _ => none }
def NestingPlacesWrongFalsely : Prop := nestingPlacesRow.holds Try.pinned (OpenSpec.ofChange nestingPlacesWrong)

/-- 'postilionlaw15.NestingMatchesReference': WHATEVER THE INPUT: true; the input reads as it did. -/
def nestingMatchesReferenceSpec : ChangeSpec := { name := "nestingMatchesReference", fn := fun _ => fun
  | [d1, d2, d3, d4] => { results := [.lit (.bool true)], args := [d1, d2, d3, d4] }
  | _ => none }
def nestingMatchesReferenceRow : OpenClaim := { program := "ytegmhdabedgloaa", sum := "54b8032901f934f68797876b2b22bb5c11cb4f8921f8860915214f2d3595571b", func := "postilion/postilionlaw15.NestingMatchesReference", spec := "nestingMatchesReference", unfollowed := true, recurses := true, apart := false }
def NestingMatchesReferenceSaid : Prop := nestingMatchesReferenceRow.holds Try.pinned (OpenSpec.ofChange nestingMatchesReferenceSpec)

/-- ITS FALSE NEIGHBOUR: 'it returns false'. Refute it at one input. -/
def nestingMatchesReferenceWrong : ChangeSpec := { name := "nestingMatchesReference", fn := fun _ => fun
  | [d1, d2, d3, d4] => { results := [.lit (.bool false)], args := [d1, d2, d3, d4] }
  | _ => none }
def NestingMatchesReferenceWrongFalsely : Prop := nestingMatchesReferenceRow.holds Try.pinned (OpenSpec.ofChange nestingMatchesReferenceWrong)

/-- 'postilionlaw15.NestingChanges': WHATEVER THE INPUT: true; the input reads as it did. -/
def nestingChangesSpec : ChangeSpec := { name := "nestingChanges", fn := fun _ => fun
  | [d1, d2, d3, d4] => { results := [.lit (.bool true)], args := [d1, d2, d3, d4] }
  | _ => none }
def nestingChangesRow : OpenClaim := { program := "ytegmhdabedgloaa", sum := "54b8032901f934f68797876b2b22bb5c11cb4f8921f8860915214f2d3595571b", func := "postilion/postilionlaw15.NestingChanges", spec := "nestingChanges", unfollowed := true, recurses := true, apart := false }
def NestingChangesSaid : Prop := nestingChangesRow.holds Try.pinned (OpenSpec.ofChange nestingChangesSpec)

/-- ITS FALSE NEIGHBOUR: 'it returns false'. Refute it at one input. -/
def nestingChangesWrong : ChangeSpec := { name := "nestingChanges", fn := fun _ => fun
  | [d1, d2, d3, d4] => { results := [.lit (.bool false)], args := [d1, d2, d3, d4] }
  | _ => none }
def NestingChangesWrongFalsely : Prop := nestingChangesRow.holds Try.pinned (OpenSpec.ofChange nestingChangesWrong)

/-- 'postilionlaw15.NestingBack': WHATEVER THE INPUT: true; the input reads as it did. -/
def nestingBackSpec : ChangeSpec := { name := "nestingBack", fn := fun _ => fun
  | [d1, d2, d3, d4] => { results := [.lit (.bool true)], args := [d1, d2, d3, d4] }
  | _ => none }
def nestingBackRow : OpenClaim := { program := "ytegmhdabedgloaa", sum := "54b8032901f934f68797876b2b22bb5c11cb4f8921f8860915214f2d3595571b", func := "postilion/postilionlaw15.NestingBack", spec := "nestingBack", unfollowed := true, recurses := true, apart := false }
def NestingBackSaid : Prop := nestingBackRow.holds Try.pinned (OpenSpec.ofChange nestingBackSpec)

/-- ITS FALSE NEIGHBOUR: 'it returns false'. Refute it at one input. -/
def nestingBackWrong : ChangeSpec := { name := "nestingBack", fn := fun _ => fun
  | [d1, d2, d3, d4] => { results := [.lit (.bool false)], args := [d1, d2, d3, d4] }
  | _ => none }
def NestingBackWrongFalsely : Prop := nestingBackRow.holds Try.pinned (OpenSpec.ofChange nestingBackWrong)

/-- 'postilionlaw15.NestingSealed': WHATEVER THE INPUT: true; the input reads as it did. -/
def nestingSealedSpec : ChangeSpec := { name := "nestingSealed", fn := fun _ => fun
  | [d1, d2, d3] => { results := [.lit (.bool true)], args := [d1, d2, d3] }
  | _ => none }
def nestingSealedRow : OpenClaim := { program := "ytegmhdabedgloaa", sum := "54b8032901f934f68797876b2b22bb5c11cb4f8921f8860915214f2d3595571b", func := "postilion/postilionlaw15.NestingSealed", spec := "nestingSealed", unfollowed := true, recurses := true, apart := false }
def NestingSealedSaid : Prop := nestingSealedRow.holds Try.pinned (OpenSpec.ofChange nestingSealedSpec)

/-- ITS FALSE NEIGHBOUR: 'it returns false'. Refute it at one input. -/
def nestingSealedWrong : ChangeSpec := { name := "nestingSealed", fn := fun _ => fun
  | [d1, d2, d3] => { results := [.lit (.bool false)], args := [d1, d2, d3] }
  | _ => none }
def NestingSealedWrongFalsely : Prop := nestingSealedRow.holds Try.pinned (OpenSpec.ofChange nestingSealedWrong)

/- THE SECOND FORM. 'bulk': how many values and letters a reading holds, each counted each time it is reached (what is shared counts as often as it is met; a slice's spare places count too). A statement '..UptoSaid' is the law's where the arguments, and the package variables that the reading takes, are together of bulk at most 1048576: NARROWER than '..Said'. Prove '..Said' where nothing that the law and all that it calls make is longer than what came in: it says more and counts as full. Else prove '..UptoSaid'. A law counts once. -/
mutual
def uptoBulk {H : Type} : DataW H → Nat
  | .lit (.string bytes) => bytes.length + 1
  | .lit _ => 1
  | .nil => 1
  | .ptr d => uptoBulk d + 1
  | .slice elems spare => uptoBulkAll elems + uptoBulkAll spare + 1
  | .agg parts => uptoBulkAll parts + 1
  | .iface _ d => uptoBulk d + 1
  | .map entries => uptoBulkEntries entries + 1
  | .held _ => 1
def uptoBulkAll {H : Type} : List (DataW H) → Nat
  | [] => 0
  | d :: r => uptoBulk d + uptoBulkAll r
def uptoBulkEntries {H : Type} : List (Lit × DataW H) → Nat
  | [] => 0
  | x :: r => uptoBulkEntry x + uptoBulkEntries r
def uptoBulkEntry {H : Type} : Lit × DataW H → Nat
  | (.string bytes, d) => bytes.length + uptoBulk d + 1
  | (_, d) => uptoBulk d + 1
 end
def uptoSmall : (H : Type) → List (DataW H) → Bool := fun _ ds => decide (uptoBulkAll ds ≤ 1048576)
def OpenSpec.upto (s : _root_.Go.ChangeSpec) : _root_.Go.OpenSpec := { _root_.Go.OpenSpec.ofChange s with cond := some uptoSmall }

/-- 'postilionlaw15.NestingContents', WHERE WHAT IT READS IS OF BULK AT MOST 1048576: true; the input reads as it did. -/
def nestingContentsUptoRow : OpenClaim := { program := "ytegmhdabedgloaa", sum := "54b8032901f934f68797876b2b22bb5c11cb4f8921f8860915214f2d3595571b", func := "postilion/postilionlaw15.NestingContents", spec := "nestingContents", unfollowed := true, recurses := true, apart := false, narrowed := true }
def NestingContentsUptoSaid : Prop := nestingContentsUptoRow.holds Try.pinned (OpenSpec.upto nestingContentsSpec)

/-- 'postilionlaw15.NestingDepth', WHERE WHAT IT READS IS OF BULK AT MOST 1048576: true; the input reads as it did. -/
def nestingDepthUptoRow : OpenClaim := { program := "ytegmhdabedgloaa", sum := "54b8032901f934f68797876b2b22bb5c11cb4f8921f8860915214f2d3595571b", func := "postilion/postilionlaw15.NestingDepth", spec := "nestingDepth", unfollowed := true, recurses := true, apart := false, narrowed := true }
def NestingDepthUptoSaid : Prop := nestingDepthUptoRow.holds Try.pinned (OpenSpec.upto nestingDepthSpec)

/-- 'postilionlaw15.NestingPlaces', WHERE WHAT IT READS IS OF BULK AT MOST 1048576: true; the input reads as it did. -/
def nestingPlacesUptoRow : OpenClaim := { program := "ytegmhdabedgloaa", sum := "54b8032901f934f68797876b2b22bb5c11cb4f8921f8860915214f2d3595571b", func := "postilion/postilionlaw15.NestingPlaces", spec := "nestingPlaces", unfollowed := true, recurses := true, apart := false, narrowed := true }
def NestingPlacesUptoSaid : Prop := nestingPlacesUptoRow.holds Try.pinned (OpenSpec.upto nestingPlacesSpec)

/-- 'postilionlaw15.NestingMatchesReference', WHERE WHAT IT READS IS OF BULK AT MOST 1048576: true; the input reads as it did. -/
def nestingMatchesReferenceUptoRow : OpenClaim := { program := "ytegmhdabedgloaa", sum := "54b8032901f934f68797876b2b22bb5c11cb4f8921f8860915214f2d3595571b", func := "postilion/postilionlaw15.NestingMatchesReference", spec := "nestingMatchesReference", unfollowed := true, recurses := true, apart := false, narrowed := true }
def NestingMatchesReferenceUptoSaid : Prop := nestingMatchesReferenceUptoRow.holds Try.pinned (OpenSpec.upto nestingMatchesReferenceSpec)

/-- 'postilionlaw15.NestingChanges', WHERE WHAT IT READS IS OF BULK AT MOST 1048576: true; the input reads as it did. -/
def nestingChangesUptoRow : OpenClaim := { program := "ytegmhdabedgloaa", sum := "54b8032901f934f68797876b2b22bb5c11cb4f8921f8860915214f2d3595571b", func := "postilion/postilionlaw15.NestingChanges", spec := "nestingChanges", unfollowed := true, recurses := true, apart := false, narrowed := true }
def NestingChangesUptoSaid : Prop := nestingChangesUptoRow.holds Try.pinned (OpenSpec.upto nestingChangesSpec)

/-- 'postilionlaw15.NestingBack', WHERE WHAT IT READS IS OF BULK AT MOST 1048576: true; the input reads as it did. -/
def nestingBackUptoRow : OpenClaim := { program := "ytegmhdabedgloaa", sum := "54b8032901f934f68797876b2b22bb5c11cb4f8921f8860915214f2d3595571b", func := "postilion/postilionlaw15.NestingBack", spec := "nestingBack", unfollowed := true, recurses := true, apart := false, narrowed := true }
def NestingBackUptoSaid : Prop := nestingBackUptoRow.holds Try.pinned (OpenSpec.upto nestingBackSpec)

/-- 'postilionlaw15.NestingSealed', WHERE WHAT IT READS IS OF BULK AT MOST 1048576: true; the input reads as it did. -/
def nestingSealedUptoRow : OpenClaim := { program := "ytegmhdabedgloaa", sum := "54b8032901f934f68797876b2b22bb5c11cb4f8921f8860915214f2d3595571b", func := "postilion/postilionlaw15.NestingSealed", spec := "nestingSealed", unfollowed := true, recurses := true, apart := false, narrowed := true }
def NestingSealedUptoSaid : Prop := nestingSealedUptoRow.holds Try.pinned (OpenSpec.upto nestingSealedSpec)

end Rows
end Go.Proofs.Ytegmhdabedgloaa
