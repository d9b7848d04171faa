/-
  DERIVED. GIVEN WITH THE SEED: THE CARDS: each row of YthldjchogdefjaaDoorRows.lean that lists a variable, with what it lists TIED to the program's text (the seventh form; the later family's looks); each row that meets fmt, with fmt's text TOLD by the authors' own Lean function (tested against real Go, not proved from fmt's source: count such statements apart). THE CARD IS WHAT COUNTS. Prove the row's statement (the work); the ties are given (YthldjchogdefjaaDoorTie.lean); close each card by the builder's one call (the guide's Derived/Test/ToyasCard.lean, 'card_holds'). Laid BY PROGRAM, IN A SANDBOX (cutbox-door.mjs). By AI agents, Wed Nov 11 2026. No macro, syntax, notation, axiom, sorry.
-/
import Derived.Test.YthldjchogdefjaaDoorRows
import GoSem.ClaimSeven
namespace Go.Proofs.YthldjchogdefjaaDoor
namespace Rows

/-- THE TIED CARD OF 'postilionlaw01.IdentMatchesReference'. -/
def identMatchesReferenceCard : Claim7 := { stood := { row := identMatchesReferenceRow, standIns := [], harness := (true, "34d6cf897f93bdb891c41bd03113c9ac35288999c84ab7613f0bdd6b798e9b24"), looks := false }, kinds := [], alts := [], laidByText := true, laidKinds := [.data, .data, .data, .data], laidTests := true, laidLooks := .later }
def IdentMatchesReferenceCardSaid : Prop := Claim7.holds Tryd.pinned (.plain (OpenSpec.ofChange identMatchesReferenceSpec)) identMatchesReferenceCard

/-- THE TIED CARD OF 'postilionlaw01.IdentParts'. -/
def identPartsCard : Claim7 := { stood := { row := identPartsRow, standIns := [], harness := (true, "34d6cf897f93bdb891c41bd03113c9ac35288999c84ab7613f0bdd6b798e9b24"), looks := false }, kinds := [], alts := [], laidByText := true, laidKinds := [.data, .data, .data, .data], laidTests := true, laidLooks := .later }
def IdentPartsCardSaid : Prop := Claim7.holds Tryd.pinned (.plain (OpenSpec.ofChange identPartsSpec)) identPartsCard

/-- THE TIED CARD OF 'postilionlaw01.IdentDigits'. -/
def identDigitsCard : Claim7 := { stood := { row := identDigitsRow, standIns := [], harness := (true, "34d6cf897f93bdb891c41bd03113c9ac35288999c84ab7613f0bdd6b798e9b24"), looks := false }, kinds := [], alts := [], laidByText := true, laidKinds := [.data, .data, .data, .data], laidTests := true, laidLooks := .later }
def IdentDigitsCardSaid : Prop := Claim7.holds Tryd.pinned (.plain (OpenSpec.ofChange identDigitsSpec)) identDigitsCard

/-- THE TIED CARD OF 'postilionlaw01.IdentMisread'. -/
def identMisreadCard : Claim7 := { stood := { row := identMisreadRow, standIns := [], harness := (true, "34d6cf897f93bdb891c41bd03113c9ac35288999c84ab7613f0bdd6b798e9b24"), looks := false }, kinds := [], alts := [], laidByText := true, laidKinds := [.data, .data, .data, .data], laidTests := true, laidLooks := .later }
def IdentMisreadCardSaid : Prop := Claim7.holds Tryd.pinned (.plain (OpenSpec.ofChange identMisreadSpec)) identMisreadCard

/-- THE TIED CARD OF 'postilionlaw01.IdentAll'. -/
def identAllCard : Claim7 := { stood := { row := identAllRow, standIns := [], harness := (true, "34d6cf897f93bdb891c41bd03113c9ac35288999c84ab7613f0bdd6b798e9b24"), looks := false }, kinds := [], alts := [], laidByText := true, laidKinds := [.data, .data, .data, .data], laidTests := true, laidLooks := .later }
def IdentAllCardSaid : Prop := Claim7.holds Tryd.pinned (.plain (OpenSpec.ofChange identAllSpec)) identAllCard

/-- THE TIED CARD OF 'postilionlaw01.IdentNeighbours'. -/
def identNeighboursCard : Claim7 := { stood := { row := identNeighboursRow, standIns := [], harness := (true, "34d6cf897f93bdb891c41bd03113c9ac35288999c84ab7613f0bdd6b798e9b24"), looks := false }, kinds := [], alts := [], laidByText := true, laidKinds := [.data, .data, .data, .data], laidTests := true, laidLooks := .later }
def IdentNeighboursCardSaid : Prop := Claim7.holds Tryd.pinned (.plain (OpenSpec.ofChange identNeighboursSpec)) identNeighboursCard

/-- THE SECOND FORM's CARD OF 'postilionlaw01.IdentMatchesReference'. -/
def identMatchesReferenceUptoCard : Claim7 := { stood := { row := identMatchesReferenceUptoRow, standIns := [], harness := (true, "34d6cf897f93bdb891c41bd03113c9ac35288999c84ab7613f0bdd6b798e9b24"), looks := false }, kinds := [], alts := [], laidByText := true, laidKinds := [.data, .data, .data, .data], laidTests := true, laidLooks := .later }
def IdentMatchesReferenceUptoCardSaid : Prop := Claim7.holds Tryd.pinned (.plain (OpenSpec.upto identMatchesReferenceSpec)) identMatchesReferenceUptoCard

/-- THE SECOND FORM's CARD OF 'postilionlaw01.IdentParts'. -/
def identPartsUptoCard : Claim7 := { stood := { row := identPartsUptoRow, standIns := [], harness := (true, "34d6cf897f93bdb891c41bd03113c9ac35288999c84ab7613f0bdd6b798e9b24"), looks := false }, kinds := [], alts := [], laidByText := true, laidKinds := [.data, .data, .data, .data], laidTests := true, laidLooks := .later }
def IdentPartsUptoCardSaid : Prop := Claim7.holds Tryd.pinned (.plain (OpenSpec.upto identPartsSpec)) identPartsUptoCard

/-- THE SECOND FORM's CARD OF 'postilionlaw01.IdentDigits'. -/
def identDigitsUptoCard : Claim7 := { stood := { row := identDigitsUptoRow, standIns := [], harness := (true, "34d6cf897f93bdb891c41bd03113c9ac35288999c84ab7613f0bdd6b798e9b24"), looks := false }, kinds := [], alts := [], laidByText := true, laidKinds := [.data, .data, .data, .data], laidTests := true, laidLooks := .later }
def IdentDigitsUptoCardSaid : Prop := Claim7.holds Tryd.pinned (.plain (OpenSpec.upto identDigitsSpec)) identDigitsUptoCard

/-- THE SECOND FORM's CARD OF 'postilionlaw01.IdentMisread'. -/
def identMisreadUptoCard : Claim7 := { stood := { row := identMisreadUptoRow, standIns := [], harness := (true, "34d6cf897f93bdb891c41bd03113c9ac35288999c84ab7613f0bdd6b798e9b24"), looks := false }, kinds := [], alts := [], laidByText := true, laidKinds := [.data, .data, .data, .data], laidTests := true, laidLooks := .later }
def IdentMisreadUptoCardSaid : Prop := Claim7.holds Tryd.pinned (.plain (OpenSpec.upto identMisreadSpec)) identMisreadUptoCard

/-- THE SECOND FORM's CARD OF 'postilionlaw01.IdentAll'. -/
def identAllUptoCard : Claim7 := { stood := { row := identAllUptoRow, standIns := [], harness := (true, "34d6cf897f93bdb891c41bd03113c9ac35288999c84ab7613f0bdd6b798e9b24"), looks := false }, kinds := [], alts := [], laidByText := true, laidKinds := [.data, .data, .data, .data], laidTests := true, laidLooks := .later }
def IdentAllUptoCardSaid : Prop := Claim7.holds Tryd.pinned (.plain (OpenSpec.upto identAllSpec)) identAllUptoCard

/-- THE SECOND FORM's CARD OF 'postilionlaw01.IdentNeighbours'. -/
def identNeighboursUptoCard : Claim7 := { stood := { row := identNeighboursUptoRow, standIns := [], harness := (true, "34d6cf897f93bdb891c41bd03113c9ac35288999c84ab7613f0bdd6b798e9b24"), looks := false }, kinds := [], alts := [], laidByText := true, laidKinds := [.data, .data, .data, .data], laidTests := true, laidLooks := .later }
def IdentNeighboursUptoCardSaid : Prop := Claim7.holds Tryd.pinned (.plain (OpenSpec.upto identNeighboursSpec)) identNeighboursUptoCard
end Rows
end Go.Proofs.YthldjchogdefjaaDoor
