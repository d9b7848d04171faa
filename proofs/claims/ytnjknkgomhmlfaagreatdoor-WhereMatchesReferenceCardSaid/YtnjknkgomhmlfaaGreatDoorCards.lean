/-
  DERIVED. GIVEN WITH THE SEED: THE CARDS: each row of YtnjknkgomhmlfaaGreatDoorRows.lean that lists a variable, with what it lists TIED to the program's text (the seventh form; the later family's looks); each row that meets fmt, with fmt's text TOLD by the authors' own Lean function (tested against real Go, not proved from fmt's source: count such statements apart). THE CARD IS WHAT COUNTS. Prove the row's statement (the work); the ties are given (YtnjknkgomhmlfaaGreatDoorTie.lean); close each card by the builder's one call (the guide's Derived/Test/ToyasCard.lean, 'card_holds'). Laid BY PROGRAM, IN A SANDBOX (cutbox-door.mjs). By AI agents, Wed Nov 11 2026. No macro, syntax, notation, axiom, sorry.
-/
import Derived.Test.YtnjknkgomhmlfaaGreatDoorRows
import GoSem.ClaimSeven
namespace Go.Proofs.YtnjknkgomhmlfaaGreatDoor
namespace Rows

/-- THE TIED CARD OF 'postilionlaw29.WhereMatchesReference'. -/
def whereMatchesReferenceCard : Claim7 := { stood := { row := whereMatchesReferenceRow, standIns := [], harness := (true, "f34f0a4980c3a8ad577db910c4708dd4b70b75774785a7854c0d0f1b051b435c"), looks := false }, kinds := [], alts := [], laidByText := true, laidKinds := [.data], laidTests := true, laidLooks := .later }
def WhereMatchesReferenceCardSaid : Prop := Claim7.holds Tryz.pinned (.plain (OpenSpec.ofChange whereMatchesReferenceSpec)) whereMatchesReferenceCard

/-- THE TIED CARD OF 'postilionlaw29.WhereCertain'. -/
def whereCertainCard : Claim7 := { stood := { row := whereCertainRow, standIns := [], harness := (true, "f34f0a4980c3a8ad577db910c4708dd4b70b75774785a7854c0d0f1b051b435c"), looks := false }, kinds := [], alts := [], laidByText := true, laidKinds := [.data], laidTests := true, laidLooks := .later }
def WhereCertainCardSaid : Prop := Claim7.holds Tryz.pinned (.plain (OpenSpec.ofChange whereCertainSpec)) whereCertainCard

/-- THE TIED CARD OF 'postilionlaw29.WhereReaches'. -/
def whereReachesCard : Claim7 := { stood := { row := whereReachesRow, standIns := [], harness := (true, "f34f0a4980c3a8ad577db910c4708dd4b70b75774785a7854c0d0f1b051b435c"), looks := false }, kinds := [], alts := [], laidByText := true, laidKinds := [.data], laidTests := true, laidLooks := .later }
def WhereReachesCardSaid : Prop := Claim7.holds Tryz.pinned (.plain (OpenSpec.ofChange whereReachesSpec)) whereReachesCard

/-- THE TIED CARD OF 'postilionlaw29.WhereMoreEvents'. -/
def whereMoreEventsCard : Claim7 := { stood := { row := whereMoreEventsRow, standIns := [], harness := (true, "f34f0a4980c3a8ad577db910c4708dd4b70b75774785a7854c0d0f1b051b435c"), looks := false }, kinds := [], alts := [], laidByText := true, laidKinds := [.data], laidTests := true, laidLooks := .later }
def WhereMoreEventsCardSaid : Prop := Claim7.holds Tryz.pinned (.plain (OpenSpec.ofChange whereMoreEventsSpec)) whereMoreEventsCard

/-- THE TIED CARD OF 'postilionlaw29.WhereLines'. -/
def whereLinesCard : Claim7 := { stood := { row := whereLinesRow, standIns := [], harness := (true, "f34f0a4980c3a8ad577db910c4708dd4b70b75774785a7854c0d0f1b051b435c"), looks := false }, kinds := [], alts := [], laidByText := true, laidKinds := [.data], laidTests := true, laidLooks := .later }
def WhereLinesCardSaid : Prop := Claim7.holds Tryz.pinned (.plain (OpenSpec.ofChange whereLinesSpec)) whereLinesCard

/-- THE TIED CARD OF 'postilionlaw29.WhereSeen'. -/
def whereSeenCard : Claim7 := { stood := { row := whereSeenRow, standIns := [], harness := (true, "f34f0a4980c3a8ad577db910c4708dd4b70b75774785a7854c0d0f1b051b435c"), looks := false }, kinds := [], alts := [], laidByText := true, laidKinds := [.data], laidTests := true, laidLooks := .later }
def WhereSeenCardSaid : Prop := Claim7.holds Tryz.pinned (.plain (OpenSpec.ofChange whereSeenSpec)) whereSeenCard

/-- THE TIED CARD OF 'postilionlaw29.WhereOrder'. -/
def whereOrderCard : Claim7 := { stood := { row := whereOrderRow, standIns := [], harness := (true, "f34f0a4980c3a8ad577db910c4708dd4b70b75774785a7854c0d0f1b051b435c"), looks := false }, kinds := [], alts := [], laidByText := true, laidKinds := [.data], laidTests := true, laidLooks := .later }
def WhereOrderCardSaid : Prop := Claim7.holds Tryz.pinned (.plain (OpenSpec.ofChange whereOrderSpec)) whereOrderCard

/-- THE TIED CARD OF 'postilionlaw29.WhereTruth'. -/
def whereTruthCard : Claim7 := { stood := { row := whereTruthRow, standIns := [], harness := (true, "f34f0a4980c3a8ad577db910c4708dd4b70b75774785a7854c0d0f1b051b435c"), looks := false }, kinds := [], alts := [], laidByText := true, laidKinds := [.data], laidTests := true, laidLooks := .later }
def WhereTruthCardSaid : Prop := Claim7.holds Tryz.pinned (.plain (OpenSpec.ofChange whereTruthSpec)) whereTruthCard

/-- THE SECOND FORM's CARD OF 'postilionlaw29.WhereMatchesReference'. -/
def whereMatchesReferenceUptoCard : Claim7 := { stood := { row := whereMatchesReferenceUptoRow, standIns := [], harness := (true, "f34f0a4980c3a8ad577db910c4708dd4b70b75774785a7854c0d0f1b051b435c"), looks := false }, kinds := [], alts := [], laidByText := true, laidKinds := [.data], laidTests := true, laidLooks := .later }
def WhereMatchesReferenceUptoCardSaid : Prop := Claim7.holds Tryz.pinned (.plain (OpenSpec.upto whereMatchesReferenceSpec)) whereMatchesReferenceUptoCard

/-- THE SECOND FORM's CARD OF 'postilionlaw29.WhereCertain'. -/
def whereCertainUptoCard : Claim7 := { stood := { row := whereCertainUptoRow, standIns := [], harness := (true, "f34f0a4980c3a8ad577db910c4708dd4b70b75774785a7854c0d0f1b051b435c"), looks := false }, kinds := [], alts := [], laidByText := true, laidKinds := [.data], laidTests := true, laidLooks := .later }
def WhereCertainUptoCardSaid : Prop := Claim7.holds Tryz.pinned (.plain (OpenSpec.upto whereCertainSpec)) whereCertainUptoCard

/-- THE SECOND FORM's CARD OF 'postilionlaw29.WhereReaches'. -/
def whereReachesUptoCard : Claim7 := { stood := { row := whereReachesUptoRow, standIns := [], harness := (true, "f34f0a4980c3a8ad577db910c4708dd4b70b75774785a7854c0d0f1b051b435c"), looks := false }, kinds := [], alts := [], laidByText := true, laidKinds := [.data], laidTests := true, laidLooks := .later }
def WhereReachesUptoCardSaid : Prop := Claim7.holds Tryz.pinned (.plain (OpenSpec.upto whereReachesSpec)) whereReachesUptoCard

/-- THE SECOND FORM's CARD OF 'postilionlaw29.WhereMoreEvents'. -/
def whereMoreEventsUptoCard : Claim7 := { stood := { row := whereMoreEventsUptoRow, standIns := [], harness := (true, "f34f0a4980c3a8ad577db910c4708dd4b70b75774785a7854c0d0f1b051b435c"), looks := false }, kinds := [], alts := [], laidByText := true, laidKinds := [.data], laidTests := true, laidLooks := .later }
def WhereMoreEventsUptoCardSaid : Prop := Claim7.holds Tryz.pinned (.plain (OpenSpec.upto whereMoreEventsSpec)) whereMoreEventsUptoCard

/-- THE SECOND FORM's CARD OF 'postilionlaw29.WhereLines'. -/
def whereLinesUptoCard : Claim7 := { stood := { row := whereLinesUptoRow, standIns := [], harness := (true, "f34f0a4980c3a8ad577db910c4708dd4b70b75774785a7854c0d0f1b051b435c"), looks := false }, kinds := [], alts := [], laidByText := true, laidKinds := [.data], laidTests := true, laidLooks := .later }
def WhereLinesUptoCardSaid : Prop := Claim7.holds Tryz.pinned (.plain (OpenSpec.upto whereLinesSpec)) whereLinesUptoCard

/-- THE SECOND FORM's CARD OF 'postilionlaw29.WhereSeen'. -/
def whereSeenUptoCard : Claim7 := { stood := { row := whereSeenUptoRow, standIns := [], harness := (true, "f34f0a4980c3a8ad577db910c4708dd4b70b75774785a7854c0d0f1b051b435c"), looks := false }, kinds := [], alts := [], laidByText := true, laidKinds := [.data], laidTests := true, laidLooks := .later }
def WhereSeenUptoCardSaid : Prop := Claim7.holds Tryz.pinned (.plain (OpenSpec.upto whereSeenSpec)) whereSeenUptoCard

/-- THE SECOND FORM's CARD OF 'postilionlaw29.WhereOrder'. -/
def whereOrderUptoCard : Claim7 := { stood := { row := whereOrderUptoRow, standIns := [], harness := (true, "f34f0a4980c3a8ad577db910c4708dd4b70b75774785a7854c0d0f1b051b435c"), looks := false }, kinds := [], alts := [], laidByText := true, laidKinds := [.data], laidTests := true, laidLooks := .later }
def WhereOrderUptoCardSaid : Prop := Claim7.holds Tryz.pinned (.plain (OpenSpec.upto whereOrderSpec)) whereOrderUptoCard

/-- THE SECOND FORM's CARD OF 'postilionlaw29.WhereTruth'. -/
def whereTruthUptoCard : Claim7 := { stood := { row := whereTruthUptoRow, standIns := [], harness := (true, "f34f0a4980c3a8ad577db910c4708dd4b70b75774785a7854c0d0f1b051b435c"), looks := false }, kinds := [], alts := [], laidByText := true, laidKinds := [.data], laidTests := true, laidLooks := .later }
def WhereTruthUptoCardSaid : Prop := Claim7.holds Tryz.pinned (.plain (OpenSpec.upto whereTruthSpec)) whereTruthUptoCard
end Rows
end Go.Proofs.YtnjknkgomhmlfaaGreatDoor
