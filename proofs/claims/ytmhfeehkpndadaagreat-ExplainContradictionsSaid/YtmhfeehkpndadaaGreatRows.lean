/-
  No cell of these rows narrows 'for every input' (looked for: loops, veiled, ifaces, maps, wideKeys, modest, calm, conditions, laid).
  DERIVED. THE GIVEN ROWS OF THIS SEAT. 8 by the template 'for every input the law returns true; each argument reads behind the call as it read before'; 0 by the template 'total and deterministic' (their statements: YtmhfeehkpndadaaGreatTotals.lean).
  GIVEN WITH THE SEED: the statements are not yours to turn. If you find one false, say at which input.
  Laid BY PROGRAM, IN A SANDBOX (cutbox-rows.mjs): the forced cells as the released guide's own fill.sh prints them over the translation f1dcf9ae817a6890… (all of the seat's roots in one cut). By AI agents, Wed Nov 11 2026. No macro, syntax, notation, axiom, sorry.
-/
import Derived.Test.YtmhfeehkpndadaaGreatChecked
import GoSem.Claim
import GoSem.ClaimJoined
import GoSem.ClaimMapViews
import Derived.JoinedTies
import Derived.KernelRfl
namespace Go.Proofs.YtmhfeehkpndadaaGreat
/- THE CELL 'sum', in the pinned program and in every row, IS THE sha256 OF THE DUMP (.gsa) THAT YtmhfeehkpndadaaGreatProg.lean LOADS. Nothing in Lean hashes anything: it is a label: what it is worth is what the hold of that sum in a sandbox is worth. -/
noncomputable def Tryz.pinned : Pinned := { name := "ytmhfeehkpndadaagreat", sum := "f1dcf9ae817a6890a0b38a9a96844f481404f89f9e36dd0325556df5dceb5c9c", checked := Tryz.checked }
namespace Rows
def none {H : Type} : Left H := { results := [], args := [] }

/-- 'postilionlaw30.ExplainMatchesReference': WHATEVER THE INPUT: true; the input reads as it did. -/
def explainMatchesReferenceSpec : ChangeSpec := { name := "explainMatchesReference", fn := fun _ => fun
  | [d1, d2, d3] => { results := [.lit (.bool true)], args := [d1, d2, d3] }
  | _ => none }
def explainMatchesReferenceRow : OpenClaim := { program := "ytmhfeehkpndadaagreat", sum := "f1dcf9ae817a6890a0b38a9a96844f481404f89f9e36dd0325556df5dceb5c9c", func := "postilion/postilionlaw30.ExplainMatchesReference", spec := "explainMatchesReference", unfollowed := true, recurses := true, plainKeys := false, apart := false }
def ExplainMatchesReferenceSaid : Prop := explainMatchesReferenceRow.holds Tryz.pinned (OpenSpec.ofChange explainMatchesReferenceSpec)

/-- ITS FALSE NEIGHBOUR: 'it returns false'. Refute it at one input. -/
def explainMatchesReferenceWrong : ChangeSpec := { name := "explainMatchesReference", fn := fun _ => fun
  | [d1, d2, d3] => { results := [.lit (.bool false)], args := [d1, d2, d3] }
  | _ => none }
def ExplainMatchesReferenceWrongFalsely : Prop := explainMatchesReferenceRow.holds Tryz.pinned (OpenSpec.ofChange explainMatchesReferenceWrong)

/-- 'postilionlaw30.ExplainSmallest': WHATEVER THE INPUT: true; the input reads as it did. -/
def explainSmallestSpec : ChangeSpec := { name := "explainSmallest", fn := fun _ => fun
  | [d1, d2, d3] => { results := [.lit (.bool true)], args := [d1, d2, d3] }
  | _ => none }
def explainSmallestRow : OpenClaim := { program := "ytmhfeehkpndadaagreat", sum := "f1dcf9ae817a6890a0b38a9a96844f481404f89f9e36dd0325556df5dceb5c9c", func := "postilion/postilionlaw30.ExplainSmallest", spec := "explainSmallest", unfollowed := true, recurses := true, plainKeys := false, apart := false }
def ExplainSmallestSaid : Prop := explainSmallestRow.holds Tryz.pinned (OpenSpec.ofChange explainSmallestSpec)

/-- ITS FALSE NEIGHBOUR: 'it returns false'. Refute it at one input. -/
def explainSmallestWrong : ChangeSpec := { name := "explainSmallest", fn := fun _ => fun
  | [d1, d2, d3] => { results := [.lit (.bool false)], args := [d1, d2, d3] }
  | _ => none }
def ExplainSmallestWrongFalsely : Prop := explainSmallestRow.holds Tryz.pinned (OpenSpec.ofChange explainSmallestWrong)

/-- 'postilionlaw30.ExplainMinimal': WHATEVER THE INPUT: true; the input reads as it did. -/
def explainMinimalSpec : ChangeSpec := { name := "explainMinimal", fn := fun _ => fun
  | [d1, d2, d3, d4] => { results := [.lit (.bool true)], args := [d1, d2, d3, d4] }
  | _ => none }
def explainMinimalRow : OpenClaim := { program := "ytmhfeehkpndadaagreat", sum := "f1dcf9ae817a6890a0b38a9a96844f481404f89f9e36dd0325556df5dceb5c9c", func := "postilion/postilionlaw30.ExplainMinimal", spec := "explainMinimal", unfollowed := true, recurses := true, plainKeys := false, apart := false }
def ExplainMinimalSaid : Prop := explainMinimalRow.holds Tryz.pinned (OpenSpec.ofChange explainMinimalSpec)

/-- ITS FALSE NEIGHBOUR: 'it returns false'. Refute it at one input. -/
def explainMinimalWrong : ChangeSpec := { name := "explainMinimal", fn := fun _ => fun
  | [d1, d2, d3, d4] => { results := [.lit (.bool false)], args := [d1, d2, d3, d4] }
  | _ => none }
def ExplainMinimalWrongFalsely : Prop := explainMinimalRow.holds Tryz.pinned (OpenSpec.ofChange explainMinimalWrong)

/-- 'postilionlaw30.ExplainWorlds': WHATEVER THE INPUT: true; the input reads as it did. -/
def explainWorldsSpec : ChangeSpec := { name := "explainWorlds", fn := fun _ => fun
  | [d1, d2, d3] => { results := [.lit (.bool true)], args := [d1, d2, d3] }
  | _ => none }
def explainWorldsRow : OpenClaim := { program := "ytmhfeehkpndadaagreat", sum := "f1dcf9ae817a6890a0b38a9a96844f481404f89f9e36dd0325556df5dceb5c9c", func := "postilion/postilionlaw30.ExplainWorlds", spec := "explainWorlds", unfollowed := true, recurses := true, plainKeys := false, apart := false }
def ExplainWorldsSaid : Prop := explainWorldsRow.holds Tryz.pinned (OpenSpec.ofChange explainWorldsSpec)

/-- ITS FALSE NEIGHBOUR: 'it returns false'. Refute it at one input. -/
def explainWorldsWrong : ChangeSpec := { name := "explainWorlds", fn := fun _ => fun
  | [d1, d2, d3] => { results := [.lit (.bool false)], args := [d1, d2, d3] }
  | _ => none }
def ExplainWorldsWrongFalsely : Prop := explainWorldsRow.holds Tryz.pinned (OpenSpec.ofChange explainWorldsWrong)

/-- 'postilionlaw30.ExplainPossible': WHATEVER THE INPUT: true; the input reads as it did. -/
def explainPossibleSpec : ChangeSpec := { name := "explainPossible", fn := fun _ => fun
  | [d1, d2] => { results := [.lit (.bool true)], args := [d1, d2] }
  | _ => none }
def explainPossibleRow : OpenClaim := { program := "ytmhfeehkpndadaagreat", sum := "f1dcf9ae817a6890a0b38a9a96844f481404f89f9e36dd0325556df5dceb5c9c", func := "postilion/postilionlaw30.ExplainPossible", spec := "explainPossible", unfollowed := true, recurses := true, plainKeys := false, apart := false }
def ExplainPossibleSaid : Prop := explainPossibleRow.holds Tryz.pinned (OpenSpec.ofChange explainPossibleSpec)

/-- ITS FALSE NEIGHBOUR: 'it returns false'. Refute it at one input. -/
def explainPossibleWrong : ChangeSpec := { name := "explainPossible", fn := fun _ => fun
  | [d1, d2] => { results := [.lit (.bool false)], args := [d1, d2] }
  | _ => none }
def ExplainPossibleWrongFalsely : Prop := explainPossibleRow.holds Tryz.pinned (OpenSpec.ofChange explainPossibleWrong)

/-- 'postilionlaw30.ExplainFewer': WHATEVER THE INPUT: true; the input reads as it did. -/
def explainFewerSpec : ChangeSpec := { name := "explainFewer", fn := fun _ => fun
  | [d1, d2, d3] => { results := [.lit (.bool true)], args := [d1, d2, d3] }
  | _ => none }
def explainFewerRow : OpenClaim := { program := "ytmhfeehkpndadaagreat", sum := "f1dcf9ae817a6890a0b38a9a96844f481404f89f9e36dd0325556df5dceb5c9c", func := "postilion/postilionlaw30.ExplainFewer", spec := "explainFewer", unfollowed := true, recurses := true, plainKeys := false, apart := false }
def ExplainFewerSaid : Prop := explainFewerRow.holds Tryz.pinned (OpenSpec.ofChange explainFewerSpec)

/-- ITS FALSE NEIGHBOUR: 'it returns false'. Refute it at one input. -/
def explainFewerWrong : ChangeSpec := { name := "explainFewer", fn := fun _ => fun
  | [d1, d2, d3] => { results := [.lit (.bool false)], args := [d1, d2, d3] }
  | _ => none }
def ExplainFewerWrongFalsely : Prop := explainFewerRow.holds Tryz.pinned (OpenSpec.ofChange explainFewerWrong)

/-- 'postilionlaw30.ExplainOrder': WHATEVER THE INPUT: true; the input reads as it did. -/
def explainOrderSpec : ChangeSpec := { name := "explainOrder", fn := fun _ => fun
  | [d1, d2, d3, d4] => { results := [.lit (.bool true)], args := [d1, d2, d3, d4] }
  | _ => none }
def explainOrderRow : OpenClaim := { program := "ytmhfeehkpndadaagreat", sum := "f1dcf9ae817a6890a0b38a9a96844f481404f89f9e36dd0325556df5dceb5c9c", func := "postilion/postilionlaw30.ExplainOrder", spec := "explainOrder", unfollowed := true, recurses := true, plainKeys := false, apart := false }
def ExplainOrderSaid : Prop := explainOrderRow.holds Tryz.pinned (OpenSpec.ofChange explainOrderSpec)

/-- ITS FALSE NEIGHBOUR: 'it returns false'. Refute it at one input. -/
def explainOrderWrong : ChangeSpec := { name := "explainOrder", fn := fun _ => fun
  | [d1, d2, d3, d4] => { results := [.lit (.bool false)], args := [d1, d2, d3, d4] }
  | _ => none }
def ExplainOrderWrongFalsely : Prop := explainOrderRow.holds Tryz.pinned (OpenSpec.ofChange explainOrderWrong)

/-- 'postilionlaw30.ExplainContradictions': WHATEVER THE INPUT: true; the input reads as it did. -/
def explainContradictionsSpec : ChangeSpec := { name := "explainContradictions", fn := fun _ => fun
  | [d1, d2, d3, d4, d5] => { results := [.lit (.bool true)], args := [d1, d2, d3, d4, d5] }
  | _ => none }
def explainContradictionsRow : OpenClaim := { program := "ytmhfeehkpndadaagreat", sum := "f1dcf9ae817a6890a0b38a9a96844f481404f89f9e36dd0325556df5dceb5c9c", func := "postilion/postilionlaw30.ExplainContradictions", spec := "explainContradictions", unfollowed := true, recurses := true, plainKeys := false, apart := false }
def ExplainContradictionsSaid : Prop := explainContradictionsRow.holds Tryz.pinned (OpenSpec.ofChange explainContradictionsSpec)

/-- ITS FALSE NEIGHBOUR: 'it returns false'. Refute it at one input. -/
def explainContradictionsWrong : ChangeSpec := { name := "explainContradictions", fn := fun _ => fun
  | [d1, d2, d3, d4, d5] => { results := [.lit (.bool false)], args := [d1, d2, d3, d4, d5] }
  | _ => none }
def ExplainContradictionsWrongFalsely : Prop := explainContradictionsRow.holds Tryz.pinned (OpenSpec.ofChange explainContradictionsWrong)

/- THE SECOND FORM. 'bulk': how many values and letters a reading holds, each counted each time it is reached (what is shared counts as often as it is met; a slice's spare places count too). A statement '..UptoSaid' is the law's where the arguments, and the package variables that the reading takes, are together of bulk at most 1048576: NARROWER than '..Said'. Prove '..Said' where nothing that the law and all that it calls make is longer than what came in: it says more and counts as full. Else prove '..UptoSaid'. A law counts once. -/
mutual
def uptoBulk {H : Type} : DataW H → Nat
  | .lit (.string bytes) => bytes.length + 1
  | .lit _ => 1
  | .nil => 1
  | .ptr d => uptoBulk d + 1
  | .slice elems spare => uptoBulkAll elems + uptoBulkAll spare + 1
  | .agg parts => uptoBulkAll parts + 1
  | .iface _ d => uptoBulk d + 1
  | .map entries => uptoBulkEntries entries + 1
  | .held _ => 1
def uptoBulkAll {H : Type} : List (DataW H) → Nat
  | [] => 0
  | d :: r => uptoBulk d + uptoBulkAll r
def uptoBulkEntries {H : Type} : List (Lit × DataW H) → Nat
  | [] => 0
  | x :: r => uptoBulkEntry x + uptoBulkEntries r
def uptoBulkEntry {H : Type} : Lit × DataW H → Nat
  | (.string bytes, d) => bytes.length + uptoBulk d + 1
  | (_, d) => uptoBulk d + 1
 end
def uptoSmall : (H : Type) → List (DataW H) → Bool := fun _ ds => decide (uptoBulkAll ds ≤ 1048576)
def OpenSpec.upto (s : _root_.Go.ChangeSpec) : _root_.Go.OpenSpec := { _root_.Go.OpenSpec.ofChange s with cond := some uptoSmall }

/-- 'postilionlaw30.ExplainMatchesReference', WHERE WHAT IT READS IS OF BULK AT MOST 1048576: true; the input reads as it did. -/
def explainMatchesReferenceUptoRow : OpenClaim := { program := "ytmhfeehkpndadaagreat", sum := "f1dcf9ae817a6890a0b38a9a96844f481404f89f9e36dd0325556df5dceb5c9c", func := "postilion/postilionlaw30.ExplainMatchesReference", spec := "explainMatchesReference", unfollowed := true, recurses := true, plainKeys := false, apart := false, narrowed := true }
def ExplainMatchesReferenceUptoSaid : Prop := explainMatchesReferenceUptoRow.holds Tryz.pinned (OpenSpec.upto explainMatchesReferenceSpec)

/-- 'postilionlaw30.ExplainSmallest', WHERE WHAT IT READS IS OF BULK AT MOST 1048576: true; the input reads as it did. -/
def explainSmallestUptoRow : OpenClaim := { program := "ytmhfeehkpndadaagreat", sum := "f1dcf9ae817a6890a0b38a9a96844f481404f89f9e36dd0325556df5dceb5c9c", func := "postilion/postilionlaw30.ExplainSmallest", spec := "explainSmallest", unfollowed := true, recurses := true, plainKeys := false, apart := false, narrowed := true }
def ExplainSmallestUptoSaid : Prop := explainSmallestUptoRow.holds Tryz.pinned (OpenSpec.upto explainSmallestSpec)

/-- 'postilionlaw30.ExplainMinimal', WHERE WHAT IT READS IS OF BULK AT MOST 1048576: true; the input reads as it did. -/
def explainMinimalUptoRow : OpenClaim := { program := "ytmhfeehkpndadaagreat", sum := "f1dcf9ae817a6890a0b38a9a96844f481404f89f9e36dd0325556df5dceb5c9c", func := "postilion/postilionlaw30.ExplainMinimal", spec := "explainMinimal", unfollowed := true, recurses := true, plainKeys := false, apart := false, narrowed := true }
def ExplainMinimalUptoSaid : Prop := explainMinimalUptoRow.holds Tryz.pinned (OpenSpec.upto explainMinimalSpec)

/-- 'postilionlaw30.ExplainWorlds', WHERE WHAT IT READS IS OF BULK AT MOST 1048576: true; the input reads as it did. -/
def explainWorldsUptoRow : OpenClaim := { program := "ytmhfeehkpndadaagreat", sum := "f1dcf9ae817a6890a0b38a9a96844f481404f89f9e36dd0325556df5dceb5c9c", func := "postilion/postilionlaw30.ExplainWorlds", spec := "explainWorlds", unfollowed := true, recurses := true, plainKeys := false, apart := false, narrowed := true }
def ExplainWorldsUptoSaid : Prop := explainWorldsUptoRow.holds Tryz.pinned (OpenSpec.upto explainWorldsSpec)

/-- 'postilionlaw30.ExplainPossible', WHERE WHAT IT READS IS OF BULK AT MOST 1048576: true; the input reads as it did. -/
def explainPossibleUptoRow : OpenClaim := { program := "ytmhfeehkpndadaagreat", sum := "f1dcf9ae817a6890a0b38a9a96844f481404f89f9e36dd0325556df5dceb5c9c", func := "postilion/postilionlaw30.ExplainPossible", spec := "explainPossible", unfollowed := true, recurses := true, plainKeys := false, apart := false, narrowed := true }
def ExplainPossibleUptoSaid : Prop := explainPossibleUptoRow.holds Tryz.pinned (OpenSpec.upto explainPossibleSpec)

/-- 'postilionlaw30.ExplainFewer', WHERE WHAT IT READS IS OF BULK AT MOST 1048576: true; the input reads as it did. -/
def explainFewerUptoRow : OpenClaim := { program := "ytmhfeehkpndadaagreat", sum := "f1dcf9ae817a6890a0b38a9a96844f481404f89f9e36dd0325556df5dceb5c9c", func := "postilion/postilionlaw30.ExplainFewer", spec := "explainFewer", unfollowed := true, recurses := true, plainKeys := false, apart := false, narrowed := true }
def ExplainFewerUptoSaid : Prop := explainFewerUptoRow.holds Tryz.pinned (OpenSpec.upto explainFewerSpec)

/-- 'postilionlaw30.ExplainOrder', WHERE WHAT IT READS IS OF BULK AT MOST 1048576: true; the input reads as it did. -/
def explainOrderUptoRow : OpenClaim := { program := "ytmhfeehkpndadaagreat", sum := "f1dcf9ae817a6890a0b38a9a96844f481404f89f9e36dd0325556df5dceb5c9c", func := "postilion/postilionlaw30.ExplainOrder", spec := "explainOrder", unfollowed := true, recurses := true, plainKeys := false, apart := false, narrowed := true }
def ExplainOrderUptoSaid : Prop := explainOrderUptoRow.holds Tryz.pinned (OpenSpec.upto explainOrderSpec)

/-- 'postilionlaw30.ExplainContradictions', WHERE WHAT IT READS IS OF BULK AT MOST 1048576: true; the input reads as it did. -/
def explainContradictionsUptoRow : OpenClaim := { program := "ytmhfeehkpndadaagreat", sum := "f1dcf9ae817a6890a0b38a9a96844f481404f89f9e36dd0325556df5dceb5c9c", func := "postilion/postilionlaw30.ExplainContradictions", spec := "explainContradictions", unfollowed := true, recurses := true, plainKeys := false, apart := false, narrowed := true }
def ExplainContradictionsUptoSaid : Prop := explainContradictionsUptoRow.holds Tryz.pinned (OpenSpec.upto explainContradictionsSpec)

end Rows
end Go.Proofs.YtmhfeehkpndadaaGreat
