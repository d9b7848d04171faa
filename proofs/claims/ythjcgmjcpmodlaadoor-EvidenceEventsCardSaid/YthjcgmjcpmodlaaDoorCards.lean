/-
  DERIVED. GIVEN WITH THE SEED: THE CARDS: each row of YthjcgmjcpmodlaaDoorRows.lean that lists a variable, with what it lists TIED to the program's text (the seventh form; the later family's looks); each row that meets fmt, with fmt's text TOLD by the authors' own Lean function (tested against real Go, not proved from fmt's source: count such statements apart). THE CARD IS WHAT COUNTS. Prove the row's statement (the work); the ties are given (YthjcgmjcpmodlaaDoorTie.lean); close each card by the builder's one call (the guide's Derived/Test/ToyasCard.lean, 'card_holds'). Laid BY PROGRAM, IN A SANDBOX (cutbox-door.mjs). By AI agents, Wed Nov 11 2026. No macro, syntax, notation, axiom, sorry.
-/
import Derived.Test.YthjcgmjcpmodlaaDoorRows
import GoSem.ClaimSeven
namespace Go.Proofs.YthjcgmjcpmodlaaDoor
namespace Rows

/-- THE TIED CARD OF 'postilionlaw26.EvidenceEvents'. -/
def evidenceEventsCard : Claim7 := { stood := { row := evidenceEventsRow, standIns := [], harness := (true, "5bb2043552d0555b6ea6e4400372db576a177d6d9ee6059fcc114c4d573035dc"), looks := false }, kinds := [], alts := [], laidByText := true, laidKinds := [.data, .data, .data], laidTests := true, laidLooks := .later }
def EvidenceEventsCardSaid : Prop := Claim7.holds Tryd.pinned (.plain (OpenSpec.ofChange evidenceEventsSpec)) evidenceEventsCard

/-- THE TIED CARD OF 'postilionlaw26.EvidenceOrder'. -/
def evidenceOrderCard : Claim7 := { stood := { row := evidenceOrderRow, standIns := [], harness := (true, "5bb2043552d0555b6ea6e4400372db576a177d6d9ee6059fcc114c4d573035dc"), looks := false }, kinds := [], alts := [], laidByText := true, laidKinds := [.data, .data, .data], laidTests := true, laidLooks := .later }
def EvidenceOrderCardSaid : Prop := Claim7.holds Tryd.pinned (.plain (OpenSpec.ofChange evidenceOrderSpec)) evidenceOrderCard

/-- THE TIED CARD OF 'postilionlaw26.EvidenceMore'. -/
def evidenceMoreCard : Claim7 := { stood := { row := evidenceMoreRow, standIns := [], harness := (true, "5bb2043552d0555b6ea6e4400372db576a177d6d9ee6059fcc114c4d573035dc"), looks := false }, kinds := [], alts := [], laidByText := true, laidKinds := [.data, .data, .data], laidTests := true, laidLooks := .later }
def EvidenceMoreCardSaid : Prop := Claim7.holds Tryd.pinned (.plain (OpenSpec.ofChange evidenceMoreSpec)) evidenceMoreCard

/-- THE TIED CARD OF 'postilionlaw26.EvidenceAbout'. -/
def evidenceAboutCard : Claim7 := { stood := { row := evidenceAboutRow, standIns := [], harness := (true, "5bb2043552d0555b6ea6e4400372db576a177d6d9ee6059fcc114c4d573035dc"), looks := false }, kinds := [], alts := [], laidByText := true, laidKinds := [.data, .data, .data], laidTests := true, laidLooks := .later }
def EvidenceAboutCardSaid : Prop := Claim7.holds Tryd.pinned (.plain (OpenSpec.ofChange evidenceAboutSpec)) evidenceAboutCard

/-- THE SECOND FORM's CARD OF 'postilionlaw26.EvidenceEvents'. -/
def evidenceEventsUptoCard : Claim7 := { stood := { row := evidenceEventsUptoRow, standIns := [], harness := (true, "5bb2043552d0555b6ea6e4400372db576a177d6d9ee6059fcc114c4d573035dc"), looks := false }, kinds := [], alts := [], laidByText := true, laidKinds := [.data, .data, .data], laidTests := true, laidLooks := .later }
def EvidenceEventsUptoCardSaid : Prop := Claim7.holds Tryd.pinned (.plain (OpenSpec.upto evidenceEventsSpec)) evidenceEventsUptoCard

/-- THE SECOND FORM's CARD OF 'postilionlaw26.EvidenceOrder'. -/
def evidenceOrderUptoCard : Claim7 := { stood := { row := evidenceOrderUptoRow, standIns := [], harness := (true, "5bb2043552d0555b6ea6e4400372db576a177d6d9ee6059fcc114c4d573035dc"), looks := false }, kinds := [], alts := [], laidByText := true, laidKinds := [.data, .data, .data], laidTests := true, laidLooks := .later }
def EvidenceOrderUptoCardSaid : Prop := Claim7.holds Tryd.pinned (.plain (OpenSpec.upto evidenceOrderSpec)) evidenceOrderUptoCard

/-- THE SECOND FORM's CARD OF 'postilionlaw26.EvidenceMore'. -/
def evidenceMoreUptoCard : Claim7 := { stood := { row := evidenceMoreUptoRow, standIns := [], harness := (true, "5bb2043552d0555b6ea6e4400372db576a177d6d9ee6059fcc114c4d573035dc"), looks := false }, kinds := [], alts := [], laidByText := true, laidKinds := [.data, .data, .data], laidTests := true, laidLooks := .later }
def EvidenceMoreUptoCardSaid : Prop := Claim7.holds Tryd.pinned (.plain (OpenSpec.upto evidenceMoreSpec)) evidenceMoreUptoCard

/-- THE SECOND FORM's CARD OF 'postilionlaw26.EvidenceAbout'. -/
def evidenceAboutUptoCard : Claim7 := { stood := { row := evidenceAboutUptoRow, standIns := [], harness := (true, "5bb2043552d0555b6ea6e4400372db576a177d6d9ee6059fcc114c4d573035dc"), looks := false }, kinds := [], alts := [], laidByText := true, laidKinds := [.data, .data, .data], laidTests := true, laidLooks := .later }
def EvidenceAboutUptoCardSaid : Prop := Claim7.holds Tryd.pinned (.plain (OpenSpec.upto evidenceAboutSpec)) evidenceAboutUptoCard
end Rows
end Go.Proofs.YthjcgmjcpmodlaaDoor
