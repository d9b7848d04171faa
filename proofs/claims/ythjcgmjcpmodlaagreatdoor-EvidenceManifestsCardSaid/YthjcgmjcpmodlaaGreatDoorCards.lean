/-
  DERIVED. GIVEN WITH THE SEED: THE CARDS: each row of YthjcgmjcpmodlaaGreatDoorRows.lean that lists a variable, with what it lists TIED to the program's text (the seventh form; the later family's looks); each row that meets fmt, with fmt's text TOLD by the authors' own Lean function (tested against real Go, not proved from fmt's source: count such statements apart). THE CARD IS WHAT COUNTS. Prove the row's statement (the work); the ties are given (YthjcgmjcpmodlaaGreatDoorTie.lean); close each card by the builder's one call (the guide's Derived/Test/ToyasCard.lean, 'card_holds'). Laid BY PROGRAM, IN A SANDBOX (cutbox-door.mjs). By AI agents, Wed Nov 11 2026. No macro, syntax, notation, axiom, sorry.
-/
import Derived.Test.YthjcgmjcpmodlaaGreatDoorRows
import GoSem.ClaimSeven
namespace Go.Proofs.YthjcgmjcpmodlaaGreatDoor
namespace Rows

/-- THE TIED CARD OF 'postilionlaw26.EvidenceMatchesReference'. -/
def evidenceMatchesReferenceCard : Claim7 := { stood := { row := evidenceMatchesReferenceRow, standIns := [], harness := (true, "eba23be1118729aa3bd6c82fb7deb08dae19da7fda5fef995596e7bff5f4fc5c"), looks := false }, kinds := [], alts := [], laidByText := true, laidKinds := [.data, .data, .data], laidTests := true, laidLooks := .later }
def EvidenceMatchesReferenceCardSaid : Prop := Claim7.holds Tryz.pinned (.plain (OpenSpec.ofChange evidenceMatchesReferenceSpec)) evidenceMatchesReferenceCard

/-- THE TIED CARD OF 'postilionlaw26.EvidenceManifests'. -/
def evidenceManifestsCard : Claim7 := { stood := { row := evidenceManifestsRow, standIns := [], harness := (true, "eba23be1118729aa3bd6c82fb7deb08dae19da7fda5fef995596e7bff5f4fc5c"), looks := false }, kinds := [], alts := [], laidByText := true, laidKinds := [.data, .data, .data], laidTests := true, laidLooks := .later }
def EvidenceManifestsCardSaid : Prop := Claim7.holds Tryz.pinned (.plain (OpenSpec.ofChange evidenceManifestsSpec)) evidenceManifestsCard

/-- THE SECOND FORM's CARD OF 'postilionlaw26.EvidenceMatchesReference'. -/
def evidenceMatchesReferenceUptoCard : Claim7 := { stood := { row := evidenceMatchesReferenceUptoRow, standIns := [], harness := (true, "eba23be1118729aa3bd6c82fb7deb08dae19da7fda5fef995596e7bff5f4fc5c"), looks := false }, kinds := [], alts := [], laidByText := true, laidKinds := [.data, .data, .data], laidTests := true, laidLooks := .later }
def EvidenceMatchesReferenceUptoCardSaid : Prop := Claim7.holds Tryz.pinned (.plain (OpenSpec.upto evidenceMatchesReferenceSpec)) evidenceMatchesReferenceUptoCard

/-- THE SECOND FORM's CARD OF 'postilionlaw26.EvidenceManifests'. -/
def evidenceManifestsUptoCard : Claim7 := { stood := { row := evidenceManifestsUptoRow, standIns := [], harness := (true, "eba23be1118729aa3bd6c82fb7deb08dae19da7fda5fef995596e7bff5f4fc5c"), looks := false }, kinds := [], alts := [], laidByText := true, laidKinds := [.data, .data, .data], laidTests := true, laidLooks := .later }
def EvidenceManifestsUptoCardSaid : Prop := Claim7.holds Tryz.pinned (.plain (OpenSpec.upto evidenceManifestsSpec)) evidenceManifestsUptoCard
end Rows
end Go.Proofs.YthjcgmjcpmodlaaGreatDoor
