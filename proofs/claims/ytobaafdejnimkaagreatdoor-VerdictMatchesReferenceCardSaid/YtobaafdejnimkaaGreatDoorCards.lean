/-
  DERIVED. GIVEN WITH THE SEED: THE CARDS: each row of YtobaafdejnimkaaGreatDoorRows.lean that lists a variable, with what it lists TIED to the program's text (the seventh form; the later family's looks); each row that meets fmt, with fmt's text TOLD by the authors' own Lean function (tested against real Go, not proved from fmt's source: count such statements apart). THE CARD IS WHAT COUNTS. Prove the row's statement (the work); the ties are given (YtobaafdejnimkaaGreatDoorTie.lean); close each card by the builder's one call (the guide's Derived/Test/ToyasCard.lean, 'card_holds'). Laid BY PROGRAM, IN A SANDBOX (cutbox-door.mjs). By AI agents, Wed Nov 11 2026. No macro, syntax, notation, axiom, sorry.
-/
import Derived.Test.YtobaafdejnimkaaGreatDoorRows
import GoSem.ClaimSeven
namespace Go.Proofs.YtobaafdejnimkaaGreatDoor
namespace Rows

/-- THE TIED CARD OF 'postilionlaw35.VerdictMatchesReference'. -/
def verdictMatchesReferenceCard : Claim7 := { stood := { row := verdictMatchesReferenceRow, standIns := [], harness := (true, "43fdc426b1b74d508c41e18fede44755061ec8034fbf0cbe4b16b3b10dac5e22"), looks := false }, kinds := [], alts := [], laidByText := true, laidKinds := [.data, .data, .data, .data], laidTests := true, laidLooks := .later }
def VerdictMatchesReferenceCardSaid : Prop := Claim7.holds Tryz.pinned (.plain (OpenSpec.ofChange verdictMatchesReferenceSpec)) verdictMatchesReferenceCard

/-- THE TIED CARD OF 'postilionlaw35.VerdictRulings'. -/
def verdictRulingsCard : Claim7 := { stood := { row := verdictRulingsRow, standIns := [], harness := (true, "43fdc426b1b74d508c41e18fede44755061ec8034fbf0cbe4b16b3b10dac5e22"), looks := false }, kinds := [], alts := [], laidByText := true, laidKinds := [.data, .data, .data, .data], laidTests := true, laidLooks := .later }
def VerdictRulingsCardSaid : Prop := Claim7.holds Tryz.pinned (.plain (OpenSpec.ofChange verdictRulingsSpec)) verdictRulingsCard

/-- THE TIED CARD OF 'postilionlaw35.VerdictLiable'. -/
def verdictLiableCard : Claim7 := { stood := { row := verdictLiableRow, standIns := [], harness := (true, "43fdc426b1b74d508c41e18fede44755061ec8034fbf0cbe4b16b3b10dac5e22"), looks := false }, kinds := [], alts := [], laidByText := true, laidKinds := [.data, .data, .data, .data], laidTests := true, laidLooks := .later }
def VerdictLiableCardSaid : Prop := Claim7.holds Tryz.pinned (.plain (OpenSpec.ofChange verdictLiableSpec)) verdictLiableCard

/-- THE TIED CARD OF 'postilionlaw35.VerdictEvidence'. -/
def verdictEvidenceCard : Claim7 := { stood := { row := verdictEvidenceRow, standIns := [], harness := (true, "43fdc426b1b74d508c41e18fede44755061ec8034fbf0cbe4b16b3b10dac5e22"), looks := false }, kinds := [], alts := [], laidByText := true, laidKinds := [.data, .data, .data, .data], laidTests := true, laidLooks := .later }
def VerdictEvidenceCardSaid : Prop := Claim7.holds Tryz.pinned (.plain (OpenSpec.ofChange verdictEvidenceSpec)) verdictEvidenceCard

/-- THE TIED CARD OF 'postilionlaw35.VerdictPapers'. -/
def verdictPapersCard : Claim7 := { stood := { row := verdictPapersRow, standIns := [], harness := (true, "43fdc426b1b74d508c41e18fede44755061ec8034fbf0cbe4b16b3b10dac5e22"), looks := false }, kinds := [], alts := [], laidByText := true, laidKinds := [.data, .data, .data, .data], laidTests := true, laidLooks := .later }
def VerdictPapersCardSaid : Prop := Claim7.holds Tryz.pinned (.plain (OpenSpec.ofChange verdictPapersSpec)) verdictPapersCard

/-- THE TIED CARD OF 'postilionlaw35.VerdictDue'. -/
def verdictDueCard : Claim7 := { stood := { row := verdictDueRow, standIns := [], harness := (true, "43fdc426b1b74d508c41e18fede44755061ec8034fbf0cbe4b16b3b10dac5e22"), looks := false }, kinds := [], alts := [], laidByText := true, laidKinds := [.data, .data, .data, .data], laidTests := true, laidLooks := .later }
def VerdictDueCardSaid : Prop := Claim7.holds Tryz.pinned (.plain (OpenSpec.ofChange verdictDueSpec)) verdictDueCard

/-- THE TIED CARD OF 'postilionlaw35.VerdictTruth'. -/
def verdictTruthCard : Claim7 := { stood := { row := verdictTruthRow, standIns := [], harness := (true, "43fdc426b1b74d508c41e18fede44755061ec8034fbf0cbe4b16b3b10dac5e22"), looks := false }, kinds := [], alts := [], laidByText := true, laidKinds := [.data, .data, .data, .data], laidTests := true, laidLooks := .later }
def VerdictTruthCardSaid : Prop := Claim7.holds Tryz.pinned (.plain (OpenSpec.ofChange verdictTruthSpec)) verdictTruthCard

/-- THE SECOND FORM's CARD OF 'postilionlaw35.VerdictMatchesReference'. -/
def verdictMatchesReferenceUptoCard : Claim7 := { stood := { row := verdictMatchesReferenceUptoRow, standIns := [], harness := (true, "43fdc426b1b74d508c41e18fede44755061ec8034fbf0cbe4b16b3b10dac5e22"), looks := false }, kinds := [], alts := [], laidByText := true, laidKinds := [.data, .data, .data, .data], laidTests := true, laidLooks := .later }
def VerdictMatchesReferenceUptoCardSaid : Prop := Claim7.holds Tryz.pinned (.plain (OpenSpec.upto verdictMatchesReferenceSpec)) verdictMatchesReferenceUptoCard

/-- THE SECOND FORM's CARD OF 'postilionlaw35.VerdictRulings'. -/
def verdictRulingsUptoCard : Claim7 := { stood := { row := verdictRulingsUptoRow, standIns := [], harness := (true, "43fdc426b1b74d508c41e18fede44755061ec8034fbf0cbe4b16b3b10dac5e22"), looks := false }, kinds := [], alts := [], laidByText := true, laidKinds := [.data, .data, .data, .data], laidTests := true, laidLooks := .later }
def VerdictRulingsUptoCardSaid : Prop := Claim7.holds Tryz.pinned (.plain (OpenSpec.upto verdictRulingsSpec)) verdictRulingsUptoCard

/-- THE SECOND FORM's CARD OF 'postilionlaw35.VerdictLiable'. -/
def verdictLiableUptoCard : Claim7 := { stood := { row := verdictLiableUptoRow, standIns := [], harness := (true, "43fdc426b1b74d508c41e18fede44755061ec8034fbf0cbe4b16b3b10dac5e22"), looks := false }, kinds := [], alts := [], laidByText := true, laidKinds := [.data, .data, .data, .data], laidTests := true, laidLooks := .later }
def VerdictLiableUptoCardSaid : Prop := Claim7.holds Tryz.pinned (.plain (OpenSpec.upto verdictLiableSpec)) verdictLiableUptoCard

/-- THE SECOND FORM's CARD OF 'postilionlaw35.VerdictEvidence'. -/
def verdictEvidenceUptoCard : Claim7 := { stood := { row := verdictEvidenceUptoRow, standIns := [], harness := (true, "43fdc426b1b74d508c41e18fede44755061ec8034fbf0cbe4b16b3b10dac5e22"), looks := false }, kinds := [], alts := [], laidByText := true, laidKinds := [.data, .data, .data, .data], laidTests := true, laidLooks := .later }
def VerdictEvidenceUptoCardSaid : Prop := Claim7.holds Tryz.pinned (.plain (OpenSpec.upto verdictEvidenceSpec)) verdictEvidenceUptoCard

/-- THE SECOND FORM's CARD OF 'postilionlaw35.VerdictPapers'. -/
def verdictPapersUptoCard : Claim7 := { stood := { row := verdictPapersUptoRow, standIns := [], harness := (true, "43fdc426b1b74d508c41e18fede44755061ec8034fbf0cbe4b16b3b10dac5e22"), looks := false }, kinds := [], alts := [], laidByText := true, laidKinds := [.data, .data, .data, .data], laidTests := true, laidLooks := .later }
def VerdictPapersUptoCardSaid : Prop := Claim7.holds Tryz.pinned (.plain (OpenSpec.upto verdictPapersSpec)) verdictPapersUptoCard

/-- THE SECOND FORM's CARD OF 'postilionlaw35.VerdictDue'. -/
def verdictDueUptoCard : Claim7 := { stood := { row := verdictDueUptoRow, standIns := [], harness := (true, "43fdc426b1b74d508c41e18fede44755061ec8034fbf0cbe4b16b3b10dac5e22"), looks := false }, kinds := [], alts := [], laidByText := true, laidKinds := [.data, .data, .data, .data], laidTests := true, laidLooks := .later }
def VerdictDueUptoCardSaid : Prop := Claim7.holds Tryz.pinned (.plain (OpenSpec.upto verdictDueSpec)) verdictDueUptoCard

/-- THE SECOND FORM's CARD OF 'postilionlaw35.VerdictTruth'. -/
def verdictTruthUptoCard : Claim7 := { stood := { row := verdictTruthUptoRow, standIns := [], harness := (true, "43fdc426b1b74d508c41e18fede44755061ec8034fbf0cbe4b16b3b10dac5e22"), looks := false }, kinds := [], alts := [], laidByText := true, laidKinds := [.data, .data, .data, .data], laidTests := true, laidLooks := .later }
def VerdictTruthUptoCardSaid : Prop := Claim7.holds Tryz.pinned (.plain (OpenSpec.upto verdictTruthSpec)) verdictTruthUptoCard
end Rows
end Go.Proofs.YtobaafdejnimkaaGreatDoor
