/-
  DERIVED. GIVEN WITH THE SEED: THE CARDS: each row of YtfhdnaonihhjjaaDoorRows.lean that lists a variable, with what it lists TIED to the program's text (the seventh form; the later family's looks); each row that meets fmt, with fmt's text TOLD by the authors' own Lean function (tested against real Go, not proved from fmt's source: count such statements apart). THE CARD IS WHAT COUNTS. Prove the row's statement (the work); the ties are given (YtfhdnaonihhjjaaDoorTie.lean); close each card by the builder's one call (the guide's Derived/Test/ToyasCard.lean, 'card_holds'). Laid BY PROGRAM, IN A SANDBOX (cutbox-door.mjs). By AI agents, Wed Nov 11 2026. No macro, syntax, notation, axiom, sorry.
-/
import Derived.Test.YtfhdnaonihhjjaaDoorRows
import GoSem.ClaimSeven
namespace Go.Proofs.YtfhdnaonihhjjaaDoor
namespace Rows

/-- THE TIED CARD OF 'burgagelaw03.SpongeMatchesReference'. -/
def spongeMatchesReferenceCard : Claim7 := { stood := { row := spongeMatchesReferenceRow, standIns := [], harness := (true, "3dceff1556ed1f0c598ff3d19b0ab0df81bf7ada8671ca90c41dcc78d5d32aea"), looks := false }, kinds := [], alts := [], laidByText := true, laidKinds := [.data], laidTests := true, laidLooks := .later }
def SpongeMatchesReferenceCardSaid : Prop := Claim7.holds Tryd.pinned (.plain (OpenSpec.ofChange spongeMatchesReferenceSpec)) spongeMatchesReferenceCard

/-- THE TIED CARD OF 'burgagelaw03.SpongeParts'. -/
def spongePartsCard : Claim7 := { stood := { row := spongePartsRow, standIns := [], harness := (true, "3dceff1556ed1f0c598ff3d19b0ab0df81bf7ada8671ca90c41dcc78d5d32aea"), looks := false }, kinds := [], alts := [], laidByText := true, laidKinds := [.data], laidTests := true, laidLooks := .later }
def SpongePartsCardSaid : Prop := Claim7.holds Tryd.pinned (.plain (OpenSpec.ofChange spongePartsSpec)) spongePartsCard

/-- THE TIED CARD OF 'burgagelaw03.SpongeSplits'. -/
def spongeSplitsCard : Claim7 := { stood := { row := spongeSplitsRow, standIns := [], harness := (true, "3dceff1556ed1f0c598ff3d19b0ab0df81bf7ada8671ca90c41dcc78d5d32aea"), looks := false }, kinds := [], alts := [], laidByText := true, laidKinds := [.data], laidTests := true, laidLooks := .later }
def SpongeSplitsCardSaid : Prop := Claim7.holds Tryd.pinned (.plain (OpenSpec.ofChange spongeSplitsSpec)) spongeSplitsCard

/-- THE TIED CARD OF 'burgagelaw03.SpongeStreams'. -/
def spongeStreamsCard : Claim7 := { stood := { row := spongeStreamsRow, standIns := [], harness := (true, "3dceff1556ed1f0c598ff3d19b0ab0df81bf7ada8671ca90c41dcc78d5d32aea"), looks := false }, kinds := [], alts := [], laidByText := true, laidKinds := [.data], laidTests := true, laidLooks := .later }
def SpongeStreamsCardSaid : Prop := Claim7.holds Tryd.pinned (.plain (OpenSpec.ofChange spongeStreamsSpec)) spongeStreamsCard

/-- THE TIED CARD OF 'burgagelaw03.SpongeBytes'. -/
def spongeBytesCard : Claim7 := { stood := { row := spongeBytesRow, standIns := [], harness := (true, "3dceff1556ed1f0c598ff3d19b0ab0df81bf7ada8671ca90c41dcc78d5d32aea"), looks := false }, kinds := [], alts := [], laidByText := true, laidKinds := [.data], laidTests := true, laidLooks := .later }
def SpongeBytesCardSaid : Prop := Claim7.holds Tryd.pinned (.plain (OpenSpec.ofChange spongeBytesSpec)) spongeBytesCard

/-- THE TIED CARD OF 'burgagelaw03.SpongeTexts'. -/
def spongeTextsCard : Claim7 := { stood := { row := spongeTextsRow, standIns := [], harness := (true, "3dceff1556ed1f0c598ff3d19b0ab0df81bf7ada8671ca90c41dcc78d5d32aea"), looks := false }, kinds := [], alts := [], laidByText := true, laidKinds := [.data], laidTests := true, laidLooks := .later }
def SpongeTextsCardSaid : Prop := Claim7.holds Tryd.pinned (.plain (OpenSpec.ofChange spongeTextsSpec)) spongeTextsCard

/-- THE TIED CARD OF 'burgagelaw03.SpongeParses'. -/
def spongeParsesCard : Claim7 := { stood := { row := spongeParsesRow, standIns := [], harness := (true, "3dceff1556ed1f0c598ff3d19b0ab0df81bf7ada8671ca90c41dcc78d5d32aea"), looks := false }, kinds := [], alts := [], laidByText := true, laidKinds := [.data], laidTests := true, laidLooks := .later }
def SpongeParsesCardSaid : Prop := Claim7.holds Tryd.pinned (.plain (OpenSpec.ofChange spongeParsesSpec)) spongeParsesCard

/-- THE SECOND FORM's CARD OF 'burgagelaw03.SpongeMatchesReference'. -/
def spongeMatchesReferenceUptoCard : Claim7 := { stood := { row := spongeMatchesReferenceUptoRow, standIns := [], harness := (true, "3dceff1556ed1f0c598ff3d19b0ab0df81bf7ada8671ca90c41dcc78d5d32aea"), looks := false }, kinds := [], alts := [], laidByText := true, laidKinds := [.data], laidTests := true, laidLooks := .later }
def SpongeMatchesReferenceUptoCardSaid : Prop := Claim7.holds Tryd.pinned (.plain (OpenSpec.upto spongeMatchesReferenceSpec)) spongeMatchesReferenceUptoCard

/-- THE SECOND FORM's CARD OF 'burgagelaw03.SpongeParts'. -/
def spongePartsUptoCard : Claim7 := { stood := { row := spongePartsUptoRow, standIns := [], harness := (true, "3dceff1556ed1f0c598ff3d19b0ab0df81bf7ada8671ca90c41dcc78d5d32aea"), looks := false }, kinds := [], alts := [], laidByText := true, laidKinds := [.data], laidTests := true, laidLooks := .later }
def SpongePartsUptoCardSaid : Prop := Claim7.holds Tryd.pinned (.plain (OpenSpec.upto spongePartsSpec)) spongePartsUptoCard

/-- THE SECOND FORM's CARD OF 'burgagelaw03.SpongeSplits'. -/
def spongeSplitsUptoCard : Claim7 := { stood := { row := spongeSplitsUptoRow, standIns := [], harness := (true, "3dceff1556ed1f0c598ff3d19b0ab0df81bf7ada8671ca90c41dcc78d5d32aea"), looks := false }, kinds := [], alts := [], laidByText := true, laidKinds := [.data], laidTests := true, laidLooks := .later }
def SpongeSplitsUptoCardSaid : Prop := Claim7.holds Tryd.pinned (.plain (OpenSpec.upto spongeSplitsSpec)) spongeSplitsUptoCard

/-- THE SECOND FORM's CARD OF 'burgagelaw03.SpongeStreams'. -/
def spongeStreamsUptoCard : Claim7 := { stood := { row := spongeStreamsUptoRow, standIns := [], harness := (true, "3dceff1556ed1f0c598ff3d19b0ab0df81bf7ada8671ca90c41dcc78d5d32aea"), looks := false }, kinds := [], alts := [], laidByText := true, laidKinds := [.data], laidTests := true, laidLooks := .later }
def SpongeStreamsUptoCardSaid : Prop := Claim7.holds Tryd.pinned (.plain (OpenSpec.upto spongeStreamsSpec)) spongeStreamsUptoCard

/-- THE SECOND FORM's CARD OF 'burgagelaw03.SpongeBytes'. -/
def spongeBytesUptoCard : Claim7 := { stood := { row := spongeBytesUptoRow, standIns := [], harness := (true, "3dceff1556ed1f0c598ff3d19b0ab0df81bf7ada8671ca90c41dcc78d5d32aea"), looks := false }, kinds := [], alts := [], laidByText := true, laidKinds := [.data], laidTests := true, laidLooks := .later }
def SpongeBytesUptoCardSaid : Prop := Claim7.holds Tryd.pinned (.plain (OpenSpec.upto spongeBytesSpec)) spongeBytesUptoCard

/-- THE SECOND FORM's CARD OF 'burgagelaw03.SpongeTexts'. -/
def spongeTextsUptoCard : Claim7 := { stood := { row := spongeTextsUptoRow, standIns := [], harness := (true, "3dceff1556ed1f0c598ff3d19b0ab0df81bf7ada8671ca90c41dcc78d5d32aea"), looks := false }, kinds := [], alts := [], laidByText := true, laidKinds := [.data], laidTests := true, laidLooks := .later }
def SpongeTextsUptoCardSaid : Prop := Claim7.holds Tryd.pinned (.plain (OpenSpec.upto spongeTextsSpec)) spongeTextsUptoCard

/-- THE SECOND FORM's CARD OF 'burgagelaw03.SpongeParses'. -/
def spongeParsesUptoCard : Claim7 := { stood := { row := spongeParsesUptoRow, standIns := [], harness := (true, "3dceff1556ed1f0c598ff3d19b0ab0df81bf7ada8671ca90c41dcc78d5d32aea"), looks := false }, kinds := [], alts := [], laidByText := true, laidKinds := [.data], laidTests := true, laidLooks := .later }
def SpongeParsesUptoCardSaid : Prop := Claim7.holds Tryd.pinned (.plain (OpenSpec.upto spongeParsesSpec)) spongeParsesUptoCard
end Rows
end Go.Proofs.YtfhdnaonihhjjaaDoor
