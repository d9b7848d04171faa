/-
  No cell of these rows narrows 'for every input' (looked for: loops, veiled, ifaces, maps, wideKeys, modest, calm, conditions, laid).
  DERIVED. THE GIVEN ROWS OF THIS SEAT. 7 by the template 'for every input the law returns true; each argument reads behind the call as it read before'; 0 by the template 'total and deterministic' (their statements: YtmdjkgkgpkaliaaTotals.lean).
  GIVEN WITH THE SEED: the statements are not yours to turn. If you find one false, say at which input.
  Laid BY PROGRAM, IN A SANDBOX (cutbox-rows.mjs): the forced cells as the released guide's own fill.sh prints them over the translation 5b5fa9a998791f29… (all of the seat's roots in one cut). By AI agents, Wed Nov 11 2026. No macro, syntax, notation, axiom, sorry.
-/
import Derived.Test.YtmdjkgkgpkaliaaChecked
import GoSem.Claim
import GoSem.ClaimJoined
import GoSem.ClaimMapViews
import Derived.JoinedTies
import Derived.KernelRfl
namespace Go.Proofs.Ytmdjkgkgpkaliaa
/- THE CELL 'sum', in the pinned program and in every row, IS THE sha256 OF THE DUMP (.gsa) THAT YtmdjkgkgpkaliaaProg.lean LOADS. Nothing in Lean hashes anything: it is a label: what it is worth is what the hold of that sum in a sandbox is worth. -/
noncomputable def Try.pinned : Pinned := { name := "ytmdjkgkgpkaliaa", sum := "5b5fa9a998791f29c4d277419438dae10e29862da79428b30d2c770fbc0823e6", checked := Try.checked }
namespace Rows
def none {H : Type} : Left H := { results := [], args := [] }

/-- 'postilionlaw28.PossibleMatchesReference': WHATEVER THE INPUT: true; the input reads as it did. -/
def possibleMatchesReferenceSpec : ChangeSpec := { name := "possibleMatchesReference", fn := fun _ => fun
  | [d1, d2, d3, d4] => { results := [.lit (.bool true)], args := [d1, d2, d3, d4] }
  | _ => none }
def possibleMatchesReferenceRow : OpenClaim := { program := "ytmdjkgkgpkaliaa", sum := "5b5fa9a998791f29c4d277419438dae10e29862da79428b30d2c770fbc0823e6", func := "postilion/postilionlaw28.PossibleMatchesReference", spec := "possibleMatchesReference", unfollowed := true, recurses := true, plainKeys := false, apart := false }
def PossibleMatchesReferenceSaid : Prop := possibleMatchesReferenceRow.holds Try.pinned (OpenSpec.ofChange possibleMatchesReferenceSpec)

/-- ITS FALSE NEIGHBOUR: 'it returns false'. Refute it at one input. -/
def possibleMatchesReferenceWrong : ChangeSpec := { name := "possibleMatchesReference", fn := fun _ => fun
  | [d1, d2, d3, d4] => { results := [.lit (.bool false)], args := [d1, d2, d3, d4] }
  | _ => none }
def PossibleMatchesReferenceWrongFalsely : Prop := possibleMatchesReferenceRow.holds Try.pinned (OpenSpec.ofChange possibleMatchesReferenceWrong)

/-- 'postilionlaw28.PossibleWorlds': WHATEVER THE INPUT: true; the input reads as it did. -/
def possibleWorldsSpec : ChangeSpec := { name := "possibleWorlds", fn := fun _ => fun
  | [d1, d2, d3] => { results := [.lit (.bool true)], args := [d1, d2, d3] }
  | _ => none }
def possibleWorldsRow : OpenClaim := { program := "ytmdjkgkgpkaliaa", sum := "5b5fa9a998791f29c4d277419438dae10e29862da79428b30d2c770fbc0823e6", func := "postilion/postilionlaw28.PossibleWorlds", spec := "possibleWorlds", unfollowed := true, recurses := true, plainKeys := false, apart := false }
def PossibleWorldsSaid : Prop := possibleWorldsRow.holds Try.pinned (OpenSpec.ofChange possibleWorldsSpec)

/-- ITS FALSE NEIGHBOUR: 'it returns false'. Refute it at one input. -/
def possibleWorldsWrong : ChangeSpec := { name := "possibleWorlds", fn := fun _ => fun
  | [d1, d2, d3] => { results := [.lit (.bool false)], args := [d1, d2, d3] }
  | _ => none }
def PossibleWorldsWrongFalsely : Prop := possibleWorldsRow.holds Try.pinned (OpenSpec.ofChange possibleWorldsWrong)

/-- 'postilionlaw28.PossibleAll': WHATEVER THE INPUT: true; the input reads as it did. -/
def possibleAllSpec : ChangeSpec := { name := "possibleAll", fn := fun _ => fun
  | [d1, d2, d3, d4] => { results := [.lit (.bool true)], args := [d1, d2, d3, d4] }
  | _ => none }
def possibleAllRow : OpenClaim := { program := "ytmdjkgkgpkaliaa", sum := "5b5fa9a998791f29c4d277419438dae10e29862da79428b30d2c770fbc0823e6", func := "postilion/postilionlaw28.PossibleAll", spec := "possibleAll", unfollowed := true, recurses := true, plainKeys := false, apart := false }
def PossibleAllSaid : Prop := possibleAllRow.holds Try.pinned (OpenSpec.ofChange possibleAllSpec)

/-- ITS FALSE NEIGHBOUR: 'it returns false'. Refute it at one input. -/
def possibleAllWrong : ChangeSpec := { name := "possibleAll", fn := fun _ => fun
  | [d1, d2, d3, d4] => { results := [.lit (.bool false)], args := [d1, d2, d3, d4] }
  | _ => none }
def PossibleAllWrongFalsely : Prop := possibleAllRow.holds Try.pinned (OpenSpec.ofChange possibleAllWrong)

/-- 'postilionlaw28.PossibleMore': WHATEVER THE INPUT: true; the input reads as it did. -/
def possibleMoreSpec : ChangeSpec := { name := "possibleMore", fn := fun _ => fun
  | [d1, d2, d3] => { results := [.lit (.bool true)], args := [d1, d2, d3] }
  | _ => none }
def possibleMoreRow : OpenClaim := { program := "ytmdjkgkgpkaliaa", sum := "5b5fa9a998791f29c4d277419438dae10e29862da79428b30d2c770fbc0823e6", func := "postilion/postilionlaw28.PossibleMore", spec := "possibleMore", unfollowed := true, recurses := true, plainKeys := false, apart := false }
def PossibleMoreSaid : Prop := possibleMoreRow.holds Try.pinned (OpenSpec.ofChange possibleMoreSpec)

/-- ITS FALSE NEIGHBOUR: 'it returns false'. Refute it at one input. -/
def possibleMoreWrong : ChangeSpec := { name := "possibleMore", fn := fun _ => fun
  | [d1, d2, d3] => { results := [.lit (.bool false)], args := [d1, d2, d3] }
  | _ => none }
def PossibleMoreWrongFalsely : Prop := possibleMoreRow.holds Try.pinned (OpenSpec.ofChange possibleMoreWrong)

/-- 'postilionlaw28.PossibleFewer': WHATEVER THE INPUT: true; the input reads as it did. -/
def possibleFewerSpec : ChangeSpec := { name := "possibleFewer", fn := fun _ => fun
  | [d1, d2, d3, d4] => { results := [.lit (.bool true)], args := [d1, d2, d3, d4] }
  | _ => none }
def possibleFewerRow : OpenClaim := { program := "ytmdjkgkgpkaliaa", sum := "5b5fa9a998791f29c4d277419438dae10e29862da79428b30d2c770fbc0823e6", func := "postilion/postilionlaw28.PossibleFewer", spec := "possibleFewer", unfollowed := true, recurses := true, plainKeys := false, apart := false }
def PossibleFewerSaid : Prop := possibleFewerRow.holds Try.pinned (OpenSpec.ofChange possibleFewerSpec)

/-- ITS FALSE NEIGHBOUR: 'it returns false'. Refute it at one input. -/
def possibleFewerWrong : ChangeSpec := { name := "possibleFewer", fn := fun _ => fun
  | [d1, d2, d3, d4] => { results := [.lit (.bool false)], args := [d1, d2, d3, d4] }
  | _ => none }
def PossibleFewerWrongFalsely : Prop := possibleFewerRow.holds Try.pinned (OpenSpec.ofChange possibleFewerWrong)

/-- 'postilionlaw28.PossibleOrder': WHATEVER THE INPUT: true; the input reads as it did. -/
def possibleOrderSpec : ChangeSpec := { name := "possibleOrder", fn := fun _ => fun
  | [d1, d2, d3, d4, d5] => { results := [.lit (.bool true)], args := [d1, d2, d3, d4, d5] }
  | _ => none }
def possibleOrderRow : OpenClaim := { program := "ytmdjkgkgpkaliaa", sum := "5b5fa9a998791f29c4d277419438dae10e29862da79428b30d2c770fbc0823e6", func := "postilion/postilionlaw28.PossibleOrder", spec := "possibleOrder", unfollowed := true, recurses := true, plainKeys := false, apart := false }
def PossibleOrderSaid : Prop := possibleOrderRow.holds Try.pinned (OpenSpec.ofChange possibleOrderSpec)

/-- ITS FALSE NEIGHBOUR: 'it returns false'. Refute it at one input. -/
def possibleOrderWrong : ChangeSpec := { name := "possibleOrder", fn := fun _ => fun
  | [d1, d2, d3, d4, d5] => { results := [.lit (.bool false)], args := [d1, d2, d3, d4, d5] }
  | _ => none }
def PossibleOrderWrongFalsely : Prop := possibleOrderRow.holds Try.pinned (OpenSpec.ofChange possibleOrderWrong)

/-- 'postilionlaw28.PossibleTruth': WHATEVER THE INPUT: true; the input reads as it did. -/
def possibleTruthSpec : ChangeSpec := { name := "possibleTruth", fn := fun _ => fun
  | [d1, d2, d3, d4, d5] => { results := [.lit (.bool true)], args := [d1, d2, d3, d4, d5] }
  | _ => none }
def possibleTruthRow : OpenClaim := { program := "ytmdjkgkgpkaliaa", sum := "5b5fa9a998791f29c4d277419438dae10e29862da79428b30d2c770fbc0823e6", func := "postilion/postilionlaw28.PossibleTruth", spec := "possibleTruth", unfollowed := true, recurses := true, plainKeys := false, apart := false }
def PossibleTruthSaid : Prop := possibleTruthRow.holds Try.pinned (OpenSpec.ofChange possibleTruthSpec)

/-- ITS FALSE NEIGHBOUR: 'it returns false'. Refute it at one input. -/
def possibleTruthWrong : ChangeSpec := { name := "possibleTruth", fn := fun _ => fun
  | [d1, d2, d3, d4, d5] => { results := [.lit (.bool false)], args := [d1, d2, d3, d4, d5] }
  | _ => none }
def PossibleTruthWrongFalsely : Prop := possibleTruthRow.holds Try.pinned (OpenSpec.ofChange possibleTruthWrong)

/- THE SECOND FORM. 'bulk': how many values and letters a reading holds, each counted each time it is reached (what is shared counts as often as it is met; a slice's spare places count too). A statement '..UptoSaid' is the law's where the arguments, and the package variables that the reading takes, are together of bulk at most 1048576: NARROWER than '..Said'. Prove '..Said' where nothing that the law and all that it calls make is longer than what came in: it says more and counts as full. Else prove '..UptoSaid'. A law counts once. -/
mutual
def uptoBulk {H : Type} : DataW H → Nat
  | .lit (.string bytes) => bytes.length + 1
  | .lit _ => 1
  | .nil => 1
  | .ptr d => uptoBulk d + 1
  | .slice elems spare => uptoBulkAll elems + uptoBulkAll spare + 1
  | .agg parts => uptoBulkAll parts + 1
  | .iface _ d => uptoBulk d + 1
  | .map entries => uptoBulkEntries entries + 1
  | .held _ => 1
def uptoBulkAll {H : Type} : List (DataW H) → Nat
  | [] => 0
  | d :: r => uptoBulk d + uptoBulkAll r
def uptoBulkEntries {H : Type} : List (Lit × DataW H) → Nat
  | [] => 0
  | x :: r => uptoBulkEntry x + uptoBulkEntries r
def uptoBulkEntry {H : Type} : Lit × DataW H → Nat
  | (.string bytes, d) => bytes.length + uptoBulk d + 1
  | (_, d) => uptoBulk d + 1
 end
def uptoSmall : (H : Type) → List (DataW H) → Bool := fun _ ds => decide (uptoBulkAll ds ≤ 1048576)
def OpenSpec.upto (s : _root_.Go.ChangeSpec) : _root_.Go.OpenSpec := { _root_.Go.OpenSpec.ofChange s with cond := some uptoSmall }

/-- 'postilionlaw28.PossibleMatchesReference', WHERE WHAT IT READS IS OF BULK AT MOST 1048576: true; the input reads as it did. -/
def possibleMatchesReferenceUptoRow : OpenClaim := { program := "ytmdjkgkgpkaliaa", sum := "5b5fa9a998791f29c4d277419438dae10e29862da79428b30d2c770fbc0823e6", func := "postilion/postilionlaw28.PossibleMatchesReference", spec := "possibleMatchesReference", unfollowed := true, recurses := true, plainKeys := false, apart := false, narrowed := true }
def PossibleMatchesReferenceUptoSaid : Prop := possibleMatchesReferenceUptoRow.holds Try.pinned (OpenSpec.upto possibleMatchesReferenceSpec)

/-- 'postilionlaw28.PossibleWorlds', WHERE WHAT IT READS IS OF BULK AT MOST 1048576: true; the input reads as it did. -/
def possibleWorldsUptoRow : OpenClaim := { program := "ytmdjkgkgpkaliaa", sum := "5b5fa9a998791f29c4d277419438dae10e29862da79428b30d2c770fbc0823e6", func := "postilion/postilionlaw28.PossibleWorlds", spec := "possibleWorlds", unfollowed := true, recurses := true, plainKeys := false, apart := false, narrowed := true }
def PossibleWorldsUptoSaid : Prop := possibleWorldsUptoRow.holds Try.pinned (OpenSpec.upto possibleWorldsSpec)

/-- 'postilionlaw28.PossibleAll', WHERE WHAT IT READS IS OF BULK AT MOST 1048576: true; the input reads as it did. -/
def possibleAllUptoRow : OpenClaim := { program := "ytmdjkgkgpkaliaa", sum := "5b5fa9a998791f29c4d277419438dae10e29862da79428b30d2c770fbc0823e6", func := "postilion/postilionlaw28.PossibleAll", spec := "possibleAll", unfollowed := true, recurses := true, plainKeys := false, apart := false, narrowed := true }
def PossibleAllUptoSaid : Prop := possibleAllUptoRow.holds Try.pinned (OpenSpec.upto possibleAllSpec)

/-- 'postilionlaw28.PossibleMore', WHERE WHAT IT READS IS OF BULK AT MOST 1048576: true; the input reads as it did. -/
def possibleMoreUptoRow : OpenClaim := { program := "ytmdjkgkgpkaliaa", sum := "5b5fa9a998791f29c4d277419438dae10e29862da79428b30d2c770fbc0823e6", func := "postilion/postilionlaw28.PossibleMore", spec := "possibleMore", unfollowed := true, recurses := true, plainKeys := false, apart := false, narrowed := true }
def PossibleMoreUptoSaid : Prop := possibleMoreUptoRow.holds Try.pinned (OpenSpec.upto possibleMoreSpec)

/-- 'postilionlaw28.PossibleFewer', WHERE WHAT IT READS IS OF BULK AT MOST 1048576: true; the input reads as it did. -/
def possibleFewerUptoRow : OpenClaim := { program := "ytmdjkgkgpkaliaa", sum := "5b5fa9a998791f29c4d277419438dae10e29862da79428b30d2c770fbc0823e6", func := "postilion/postilionlaw28.PossibleFewer", spec := "possibleFewer", unfollowed := true, recurses := true, plainKeys := false, apart := false, narrowed := true }
def PossibleFewerUptoSaid : Prop := possibleFewerUptoRow.holds Try.pinned (OpenSpec.upto possibleFewerSpec)

/-- 'postilionlaw28.PossibleOrder', WHERE WHAT IT READS IS OF BULK AT MOST 1048576: true; the input reads as it did. -/
def possibleOrderUptoRow : OpenClaim := { program := "ytmdjkgkgpkaliaa", sum := "5b5fa9a998791f29c4d277419438dae10e29862da79428b30d2c770fbc0823e6", func := "postilion/postilionlaw28.PossibleOrder", spec := "possibleOrder", unfollowed := true, recurses := true, plainKeys := false, apart := false, narrowed := true }
def PossibleOrderUptoSaid : Prop := possibleOrderUptoRow.holds Try.pinned (OpenSpec.upto possibleOrderSpec)

/-- 'postilionlaw28.PossibleTruth', WHERE WHAT IT READS IS OF BULK AT MOST 1048576: true; the input reads as it did. -/
def possibleTruthUptoRow : OpenClaim := { program := "ytmdjkgkgpkaliaa", sum := "5b5fa9a998791f29c4d277419438dae10e29862da79428b30d2c770fbc0823e6", func := "postilion/postilionlaw28.PossibleTruth", spec := "possibleTruth", unfollowed := true, recurses := true, plainKeys := false, apart := false, narrowed := true }
def PossibleTruthUptoSaid : Prop := possibleTruthUptoRow.holds Try.pinned (OpenSpec.upto possibleTruthSpec)

end Rows
end Go.Proofs.Ytmdjkgkgpkaliaa
