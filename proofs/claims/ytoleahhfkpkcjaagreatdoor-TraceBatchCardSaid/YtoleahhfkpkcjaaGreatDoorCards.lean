/-
  DERIVED. GIVEN WITH THE SEED: THE CARDS: each row of YtoleahhfkpkcjaaGreatDoorRows.lean that lists a variable, with what it lists TIED to the program's text (the seventh form; the later family's looks); each row that meets fmt, with fmt's text TOLD by the authors' own Lean function (tested against real Go, not proved from fmt's source: count such statements apart). THE CARD IS WHAT COUNTS. Prove the row's statement (the work); the ties are given (YtoleahhfkpkcjaaGreatDoorTie.lean); close each card by the builder's one call (the guide's Derived/Test/ToyasCard.lean, 'card_holds'). Laid BY PROGRAM, IN A SANDBOX (cutbox-door.mjs). By AI agents, Wed Nov 11 2026. No macro, syntax, notation, axiom, sorry.
-/
import Derived.Test.YtoleahhfkpkcjaaGreatDoorRows
import GoSem.ClaimSeven
namespace Go.Proofs.YtoleahhfkpkcjaaGreatDoor
namespace Rows

/-- THE TIED CARD OF 'postilionlaw31.TraceMatchesReference'. -/
def traceMatchesReferenceCard : Claim7 := { stood := { row := traceMatchesReferenceRow, standIns := [], harness := (true, "1ca7458b00103d85651f3369158a287bd9cd61a88ddac9a3611f185cf9a2c61c"), looks := false }, kinds := [], alts := [], laidByText := true, laidKinds := [.data, .data, .data, .data], laidTests := true, laidLooks := .later }
def TraceMatchesReferenceCardSaid : Prop := Claim7.holds Tryz.pinned (.plain (OpenSpec.ofChange traceMatchesReferenceSpec)) traceMatchesReferenceCard

/-- THE TIED CARD OF 'postilionlaw31.TraceSets'. -/
def traceSetsCard : Claim7 := { stood := { row := traceSetsRow, standIns := [], harness := (true, "1ca7458b00103d85651f3369158a287bd9cd61a88ddac9a3611f185cf9a2c61c"), looks := false }, kinds := [], alts := [], laidByText := true, laidKinds := [.data, .data, .data, .data], laidTests := true, laidLooks := .later }
def TraceSetsCardSaid : Prop := Claim7.holds Tryz.pinned (.plain (OpenSpec.ofChange traceSetsSpec)) traceSetsCard

/-- THE TIED CARD OF 'postilionlaw31.TraceOthers'. -/
def traceOthersCard : Claim7 := { stood := { row := traceOthersRow, standIns := [], harness := (true, "1ca7458b00103d85651f3369158a287bd9cd61a88ddac9a3611f185cf9a2c61c"), looks := false }, kinds := [], alts := [], laidByText := true, laidKinds := [.data, .data, .data, .data], laidTests := true, laidLooks := .later }
def TraceOthersCardSaid : Prop := Claim7.holds Tryz.pinned (.plain (OpenSpec.ofChange traceOthersSpec)) traceOthersCard

/-- THE TIED CARD OF 'postilionlaw31.TraceErrors'. -/
def traceErrorsCard : Claim7 := { stood := { row := traceErrorsRow, standIns := [], harness := (true, "1ca7458b00103d85651f3369158a287bd9cd61a88ddac9a3611f185cf9a2c61c"), looks := false }, kinds := [], alts := [], laidByText := true, laidKinds := [.data, .data, .data, .data], laidTests := true, laidLooks := .later }
def TraceErrorsCardSaid : Prop := Claim7.holds Tryz.pinned (.plain (OpenSpec.ofChange traceErrorsSpec)) traceErrorsCard

/-- THE TIED CARD OF 'postilionlaw31.TraceExplains'. -/
def traceExplainsCard : Claim7 := { stood := { row := traceExplainsRow, standIns := [], harness := (true, "1ca7458b00103d85651f3369158a287bd9cd61a88ddac9a3611f185cf9a2c61c"), looks := false }, kinds := [], alts := [], laidByText := true, laidKinds := [.data, .data, .data, .data], laidTests := true, laidLooks := .later }
def TraceExplainsCardSaid : Prop := Claim7.holds Tryz.pinned (.plain (OpenSpec.ofChange traceExplainsSpec)) traceExplainsCard

/-- THE TIED CARD OF 'postilionlaw31.TraceBatch'. -/
def traceBatchCard : Claim7 := { stood := { row := traceBatchRow, standIns := [], harness := (true, "1ca7458b00103d85651f3369158a287bd9cd61a88ddac9a3611f185cf9a2c61c"), looks := false }, kinds := [], alts := [], laidByText := true, laidKinds := [.data, .data, .data, .data], laidTests := true, laidLooks := .later }
def TraceBatchCardSaid : Prop := Claim7.holds Tryz.pinned (.plain (OpenSpec.ofChange traceBatchSpec)) traceBatchCard

/-- THE SECOND FORM's CARD OF 'postilionlaw31.TraceMatchesReference'. -/
def traceMatchesReferenceUptoCard : Claim7 := { stood := { row := traceMatchesReferenceUptoRow, standIns := [], harness := (true, "1ca7458b00103d85651f3369158a287bd9cd61a88ddac9a3611f185cf9a2c61c"), looks := false }, kinds := [], alts := [], laidByText := true, laidKinds := [.data, .data, .data, .data], laidTests := true, laidLooks := .later }
def TraceMatchesReferenceUptoCardSaid : Prop := Claim7.holds Tryz.pinned (.plain (OpenSpec.upto traceMatchesReferenceSpec)) traceMatchesReferenceUptoCard

/-- THE SECOND FORM's CARD OF 'postilionlaw31.TraceSets'. -/
def traceSetsUptoCard : Claim7 := { stood := { row := traceSetsUptoRow, standIns := [], harness := (true, "1ca7458b00103d85651f3369158a287bd9cd61a88ddac9a3611f185cf9a2c61c"), looks := false }, kinds := [], alts := [], laidByText := true, laidKinds := [.data, .data, .data, .data], laidTests := true, laidLooks := .later }
def TraceSetsUptoCardSaid : Prop := Claim7.holds Tryz.pinned (.plain (OpenSpec.upto traceSetsSpec)) traceSetsUptoCard

/-- THE SECOND FORM's CARD OF 'postilionlaw31.TraceOthers'. -/
def traceOthersUptoCard : Claim7 := { stood := { row := traceOthersUptoRow, standIns := [], harness := (true, "1ca7458b00103d85651f3369158a287bd9cd61a88ddac9a3611f185cf9a2c61c"), looks := false }, kinds := [], alts := [], laidByText := true, laidKinds := [.data, .data, .data, .data], laidTests := true, laidLooks := .later }
def TraceOthersUptoCardSaid : Prop := Claim7.holds Tryz.pinned (.plain (OpenSpec.upto traceOthersSpec)) traceOthersUptoCard

/-- THE SECOND FORM's CARD OF 'postilionlaw31.TraceErrors'. -/
def traceErrorsUptoCard : Claim7 := { stood := { row := traceErrorsUptoRow, standIns := [], harness := (true, "1ca7458b00103d85651f3369158a287bd9cd61a88ddac9a3611f185cf9a2c61c"), looks := false }, kinds := [], alts := [], laidByText := true, laidKinds := [.data, .data, .data, .data], laidTests := true, laidLooks := .later }
def TraceErrorsUptoCardSaid : Prop := Claim7.holds Tryz.pinned (.plain (OpenSpec.upto traceErrorsSpec)) traceErrorsUptoCard

/-- THE SECOND FORM's CARD OF 'postilionlaw31.TraceExplains'. -/
def traceExplainsUptoCard : Claim7 := { stood := { row := traceExplainsUptoRow, standIns := [], harness := (true, "1ca7458b00103d85651f3369158a287bd9cd61a88ddac9a3611f185cf9a2c61c"), looks := false }, kinds := [], alts := [], laidByText := true, laidKinds := [.data, .data, .data, .data], laidTests := true, laidLooks := .later }
def TraceExplainsUptoCardSaid : Prop := Claim7.holds Tryz.pinned (.plain (OpenSpec.upto traceExplainsSpec)) traceExplainsUptoCard

/-- THE SECOND FORM's CARD OF 'postilionlaw31.TraceBatch'. -/
def traceBatchUptoCard : Claim7 := { stood := { row := traceBatchUptoRow, standIns := [], harness := (true, "1ca7458b00103d85651f3369158a287bd9cd61a88ddac9a3611f185cf9a2c61c"), looks := false }, kinds := [], alts := [], laidByText := true, laidKinds := [.data, .data, .data, .data], laidTests := true, laidLooks := .later }
def TraceBatchUptoCardSaid : Prop := Claim7.holds Tryz.pinned (.plain (OpenSpec.upto traceBatchSpec)) traceBatchUptoCard
end Rows
end Go.Proofs.YtoleahhfkpkcjaaGreatDoor
