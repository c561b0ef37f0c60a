/-
  DERIVED. GIVEN WITH THE SEED: THE CARDS: each row of YtfioagkihgaimaaDoorRows.lean that lists a variable, with what it lists TIED to the program's text (the seventh form; the later family's looks); each row that meets fmt, with fmt's text TOLD by the authors' own Lean function (tested against real Go, not proved from fmt's source: count such statements apart). THE CARD IS WHAT COUNTS. Prove the row's statement (the work); the ties are given (YtfioagkihgaimaaDoorTie.lean); close each card by the builder's one call (the guide's Derived/Test/ToyasCard.lean, 'card_holds'). Laid BY PROGRAM, IN A SANDBOX (cutbox-door.mjs). By AI agents, Wed Nov 11 2026. No macro, syntax, notation, axiom, sorry.
-/
import Derived.Test.YtfioagkihgaimaaDoorRows
import GoSem.ClaimSeven
namespace Go.Proofs.YtfioagkihgaimaaDoor
namespace Rows

/-- THE TIED CARD OF 'burgagelaw05.SealOpens'. -/
def sealOpensCard : Claim7 := { stood := { row := sealOpensRow, standIns := [], harness := (true, "1b9a0b46f0f6110f9f4712a95aad9eab49d3cc397a354c2238749cd1b02b5fab"), looks := false }, kinds := [], alts := [], laidByText := true, laidKinds := [.data], laidTests := true, laidLooks := .later }
def SealOpensCardSaid : Prop := Claim7.holds Tryd.pinned (.plain (OpenSpec.ofChange sealOpensSpec)) sealOpensCard

/-- THE TIED CARD OF 'burgagelaw05.SealKeys'. -/
def sealKeysCard : Claim7 := { stood := { row := sealKeysRow, standIns := [], harness := (true, "1b9a0b46f0f6110f9f4712a95aad9eab49d3cc397a354c2238749cd1b02b5fab"), looks := false }, kinds := [], alts := [], laidByText := true, laidKinds := [.data], laidTests := true, laidLooks := .later }
def SealKeysCardSaid : Prop := Claim7.holds Tryd.pinned (.plain (OpenSpec.ofChange sealKeysSpec)) sealKeysCard

/-- THE TIED CARD OF 'burgagelaw05.SealChanges'. -/
def sealChangesCard : Claim7 := { stood := { row := sealChangesRow, standIns := [], harness := (true, "1b9a0b46f0f6110f9f4712a95aad9eab49d3cc397a354c2238749cd1b02b5fab"), looks := false }, kinds := [], alts := [], laidByText := true, laidKinds := [.data], laidTests := true, laidLooks := .later }
def SealChangesCardSaid : Prop := Claim7.holds Tryd.pinned (.plain (OpenSpec.ofChange sealChangesSpec)) sealChangesCard

/-- THE TIED CARD OF 'burgagelaw05.SealNoise'. -/
def sealNoiseCard : Claim7 := { stood := { row := sealNoiseRow, standIns := [], harness := (true, "1b9a0b46f0f6110f9f4712a95aad9eab49d3cc397a354c2238749cd1b02b5fab"), looks := false }, kinds := [], alts := [], laidByText := true, laidKinds := [.data], laidTests := true, laidLooks := .later }
def SealNoiseCardSaid : Prop := Claim7.holds Tryd.pinned (.plain (OpenSpec.ofChange sealNoiseSpec)) sealNoiseCard

/-- THE TIED CARD OF 'burgagelaw05.SealMatchesReference'. -/
def sealMatchesReferenceCard : Claim7 := { stood := { row := sealMatchesReferenceRow, standIns := [], harness := (true, "1b9a0b46f0f6110f9f4712a95aad9eab49d3cc397a354c2238749cd1b02b5fab"), looks := false }, kinds := [], alts := [], laidByText := true, laidKinds := [.data], laidTests := true, laidLooks := .later }
def SealMatchesReferenceCardSaid : Prop := Claim7.holds Tryd.pinned (.plain (OpenSpec.ofChange sealMatchesReferenceSpec)) sealMatchesReferenceCard

/-- THE TIED CARD OF 'burgagelaw05.SealRekeys'. -/
def sealRekeysCard : Claim7 := { stood := { row := sealRekeysRow, standIns := [], harness := (true, "1b9a0b46f0f6110f9f4712a95aad9eab49d3cc397a354c2238749cd1b02b5fab"), looks := false }, kinds := [], alts := [], laidByText := true, laidKinds := [.data], laidTests := true, laidLooks := .later }
def SealRekeysCardSaid : Prop := Claim7.holds Tryd.pinned (.plain (OpenSpec.ofChange sealRekeysSpec)) sealRekeysCard

/-- THE TIED CARD OF 'burgagelaw05.SealSizes'. -/
def sealSizesCard : Claim7 := { stood := { row := sealSizesRow, standIns := [], harness := (true, "1b9a0b46f0f6110f9f4712a95aad9eab49d3cc397a354c2238749cd1b02b5fab"), looks := false }, kinds := [], alts := [], laidByText := true, laidKinds := [.data], laidTests := true, laidLooks := .later }
def SealSizesCardSaid : Prop := Claim7.holds Tryd.pinned (.plain (OpenSpec.ofChange sealSizesSpec)) sealSizesCard

/-- THE SECOND FORM's CARD OF 'burgagelaw05.SealOpens'. -/
def sealOpensUptoCard : Claim7 := { stood := { row := sealOpensUptoRow, standIns := [], harness := (true, "1b9a0b46f0f6110f9f4712a95aad9eab49d3cc397a354c2238749cd1b02b5fab"), looks := false }, kinds := [], alts := [], laidByText := true, laidKinds := [.data], laidTests := true, laidLooks := .later }
def SealOpensUptoCardSaid : Prop := Claim7.holds Tryd.pinned (.plain (OpenSpec.upto sealOpensSpec)) sealOpensUptoCard

/-- THE SECOND FORM's CARD OF 'burgagelaw05.SealKeys'. -/
def sealKeysUptoCard : Claim7 := { stood := { row := sealKeysUptoRow, standIns := [], harness := (true, "1b9a0b46f0f6110f9f4712a95aad9eab49d3cc397a354c2238749cd1b02b5fab"), looks := false }, kinds := [], alts := [], laidByText := true, laidKinds := [.data], laidTests := true, laidLooks := .later }
def SealKeysUptoCardSaid : Prop := Claim7.holds Tryd.pinned (.plain (OpenSpec.upto sealKeysSpec)) sealKeysUptoCard

/-- THE SECOND FORM's CARD OF 'burgagelaw05.SealChanges'. -/
def sealChangesUptoCard : Claim7 := { stood := { row := sealChangesUptoRow, standIns := [], harness := (true, "1b9a0b46f0f6110f9f4712a95aad9eab49d3cc397a354c2238749cd1b02b5fab"), looks := false }, kinds := [], alts := [], laidByText := true, laidKinds := [.data], laidTests := true, laidLooks := .later }
def SealChangesUptoCardSaid : Prop := Claim7.holds Tryd.pinned (.plain (OpenSpec.upto sealChangesSpec)) sealChangesUptoCard

/-- THE SECOND FORM's CARD OF 'burgagelaw05.SealNoise'. -/
def sealNoiseUptoCard : Claim7 := { stood := { row := sealNoiseUptoRow, standIns := [], harness := (true, "1b9a0b46f0f6110f9f4712a95aad9eab49d3cc397a354c2238749cd1b02b5fab"), looks := false }, kinds := [], alts := [], laidByText := true, laidKinds := [.data], laidTests := true, laidLooks := .later }
def SealNoiseUptoCardSaid : Prop := Claim7.holds Tryd.pinned (.plain (OpenSpec.upto sealNoiseSpec)) sealNoiseUptoCard

/-- THE SECOND FORM's CARD OF 'burgagelaw05.SealMatchesReference'. -/
def sealMatchesReferenceUptoCard : Claim7 := { stood := { row := sealMatchesReferenceUptoRow, standIns := [], harness := (true, "1b9a0b46f0f6110f9f4712a95aad9eab49d3cc397a354c2238749cd1b02b5fab"), looks := false }, kinds := [], alts := [], laidByText := true, laidKinds := [.data], laidTests := true, laidLooks := .later }
def SealMatchesReferenceUptoCardSaid : Prop := Claim7.holds Tryd.pinned (.plain (OpenSpec.upto sealMatchesReferenceSpec)) sealMatchesReferenceUptoCard

/-- THE SECOND FORM's CARD OF 'burgagelaw05.SealRekeys'. -/
def sealRekeysUptoCard : Claim7 := { stood := { row := sealRekeysUptoRow, standIns := [], harness := (true, "1b9a0b46f0f6110f9f4712a95aad9eab49d3cc397a354c2238749cd1b02b5fab"), looks := false }, kinds := [], alts := [], laidByText := true, laidKinds := [.data], laidTests := true, laidLooks := .later }
def SealRekeysUptoCardSaid : Prop := Claim7.holds Tryd.pinned (.plain (OpenSpec.upto sealRekeysSpec)) sealRekeysUptoCard

/-- THE SECOND FORM's CARD OF 'burgagelaw05.SealSizes'. -/
def sealSizesUptoCard : Claim7 := { stood := { row := sealSizesUptoRow, standIns := [], harness := (true, "1b9a0b46f0f6110f9f4712a95aad9eab49d3cc397a354c2238749cd1b02b5fab"), looks := false }, kinds := [], alts := [], laidByText := true, laidKinds := [.data], laidTests := true, laidLooks := .later }
def SealSizesUptoCardSaid : Prop := Claim7.holds Tryd.pinned (.plain (OpenSpec.upto sealSizesSpec)) sealSizesUptoCard
end Rows
end Go.Proofs.YtfioagkihgaimaaDoor
