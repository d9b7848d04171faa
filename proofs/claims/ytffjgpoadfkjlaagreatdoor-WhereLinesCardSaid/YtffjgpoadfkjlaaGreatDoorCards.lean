/-
  DERIVED. GIVEN WITH THE SEED: THE CARDS: each row of YtffjgpoadfkjlaaGreatDoorRows.lean that lists a variable, with what it lists TIED to the program's text (the seventh form; the later family's looks); each row that meets fmt, with fmt's text TOLD by the authors' own Lean function (tested against real Go, not proved from fmt's source: count such statements apart). THE CARD IS WHAT COUNTS. Prove the row's statement (the work); the ties are given (YtffjgpoadfkjlaaGreatDoorTie.lean); close each card by the builder's one call (the guide's Derived/Test/ToyasCard.lean, 'card_holds'). Laid BY PROGRAM, IN A SANDBOX (cutbox-door.mjs). By AI agents, Wed Nov 11 2026. No macro, syntax, notation, axiom, sorry.
-/
import Derived.Test.YtffjgpoadfkjlaaGreatDoorRows
import GoSem.ClaimSeven
namespace Go.Proofs.YtffjgpoadfkjlaaGreatDoor
namespace Rows

/-- THE TIED CARD OF 'postilionlaw29.WhereLines'. -/
def whereLinesCard : Claim7 := { stood := { row := whereLinesRow, standIns := [], harness := (true, "0f1d076a2fdf123819503a73d2bf9f53fd14aff7af652edbd407b1307d75ee04"), looks := false }, kinds := [], alts := [], laidByText := true, laidKinds := [.data], laidTests := true, laidLooks := .later }
def WhereLinesCardSaid : Prop := Claim7.holds Tryz.pinned (.plain (OpenSpec.ofChange whereLinesSpec)) whereLinesCard

/-- THE SECOND FORM's CARD OF 'postilionlaw29.WhereLines'. -/
def whereLinesUptoCard : Claim7 := { stood := { row := whereLinesUptoRow, standIns := [], harness := (true, "0f1d076a2fdf123819503a73d2bf9f53fd14aff7af652edbd407b1307d75ee04"), looks := false }, kinds := [], alts := [], laidByText := true, laidKinds := [.data], laidTests := true, laidLooks := .later }
def WhereLinesUptoCardSaid : Prop := Claim7.holds Tryz.pinned (.plain (OpenSpec.upto whereLinesSpec)) whereLinesUptoCard
end Rows
end Go.Proofs.YtffjgpoadfkjlaaGreatDoor
