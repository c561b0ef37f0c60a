/-
  DERIVED. GIVEN WITH THE SEED: THE CARDS: each row of YtelpjhdglgledaaDoorRows.lean that lists a variable, with what it lists TIED to the program's text (the seventh form; the later family's looks); each row that meets fmt, with fmt's text TOLD by the authors' own Lean function (tested against real Go, not proved from fmt's source: count such statements apart). THE CARD IS WHAT COUNTS. Prove the row's statement (the work); the ties are given (YtelpjhdglgledaaDoorTie.lean); close each card by the builder's one call (the guide's Derived/Test/ToyasCard.lean, 'card_holds'). Laid BY PROGRAM, IN A SANDBOX (cutbox-door.mjs). By AI agents, Wed Nov 11 2026. No macro, syntax, notation, axiom, sorry.
-/
import Derived.Test.YtelpjhdglgledaaDoorRows
import GoSem.ClaimSeven
namespace Go.Proofs.YtelpjhdglgledaaDoor
namespace Rows

/-- THE TIED CARD OF 'burgagelaw06.KeysDestroys'. -/
def keysDestroysCard : Claim7 := { stood := { row := keysDestroysRow, standIns := [], harness := (true, "eb86b8c9ce3a0749ae0ea785e0fa6bd23c0a6f29c39a14d9f883e27f52d9f355"), looks := false }, kinds := [], alts := [], laidByText := true, laidKinds := [.data], laidTests := true, laidLooks := .later }
def KeysDestroysCardSaid : Prop := Claim7.holds Tryd.pinned (.plain (OpenSpec.ofChange keysDestroysSpec)) keysDestroysCard

/-- THE TIED CARD OF 'burgagelaw06.KeysOrders'. -/
def keysOrdersCard : Claim7 := { stood := { row := keysOrdersRow, standIns := [], harness := (true, "eb86b8c9ce3a0749ae0ea785e0fa6bd23c0a6f29c39a14d9f883e27f52d9f355"), looks := false }, kinds := [], alts := [], laidByText := true, laidKinds := [.data], laidTests := true, laidLooks := .later }
def KeysOrdersCardSaid : Prop := Claim7.holds Tryd.pinned (.plain (OpenSpec.ofChange keysOrdersSpec)) keysOrdersCard

/-- THE TIED CARD OF 'burgagelaw06.KeysCovers'. -/
def keysCoversCard : Claim7 := { stood := { row := keysCoversRow, standIns := [], harness := (true, "eb86b8c9ce3a0749ae0ea785e0fa6bd23c0a6f29c39a14d9f883e27f52d9f355"), looks := false }, kinds := [], alts := [], laidByText := true, laidKinds := [.data], laidTests := true, laidLooks := .later }
def KeysCoversCardSaid : Prop := Claim7.holds Tryd.pinned (.plain (OpenSpec.ofChange keysCoversSpec)) keysCoversCard

/-- THE TIED CARD OF 'burgagelaw06.KeysUnions'. -/
def keysUnionsCard : Claim7 := { stood := { row := keysUnionsRow, standIns := [], harness := (true, "eb86b8c9ce3a0749ae0ea785e0fa6bd23c0a6f29c39a14d9f883e27f52d9f355"), looks := false }, kinds := [], alts := [], laidByText := true, laidKinds := [.data], laidTests := true, laidLooks := .later }
def KeysUnionsCardSaid : Prop := Claim7.holds Tryd.pinned (.plain (OpenSpec.ofChange keysUnionsSpec)) keysUnionsCard

/-- THE TIED CARD OF 'burgagelaw06.KeysFollow'. -/
def keysFollowCard : Claim7 := { stood := { row := keysFollowRow, standIns := [], harness := (true, "eb86b8c9ce3a0749ae0ea785e0fa6bd23c0a6f29c39a14d9f883e27f52d9f355"), looks := false }, kinds := [], alts := [], laidByText := true, laidKinds := [.data], laidTests := true, laidLooks := .later }
def KeysFollowCardSaid : Prop := Claim7.holds Tryd.pinned (.plain (OpenSpec.ofChange keysFollowSpec)) keysFollowCard

/-- THE TIED CARD OF 'burgagelaw06.KeysMatchesReference'. -/
def keysMatchesReferenceCard : Claim7 := { stood := { row := keysMatchesReferenceRow, standIns := [], harness := (true, "eb86b8c9ce3a0749ae0ea785e0fa6bd23c0a6f29c39a14d9f883e27f52d9f355"), looks := false }, kinds := [], alts := [], laidByText := true, laidKinds := [.data], laidTests := true, laidLooks := .later }
def KeysMatchesReferenceCardSaid : Prop := Claim7.holds Tryd.pinned (.plain (OpenSpec.ofChange keysMatchesReferenceSpec)) keysMatchesReferenceCard

/-- THE TIED CARD OF 'burgagelaw06.KeysParses'. -/
def keysParsesCard : Claim7 := { stood := { row := keysParsesRow, standIns := [], harness := (true, "eb86b8c9ce3a0749ae0ea785e0fa6bd23c0a6f29c39a14d9f883e27f52d9f355"), looks := false }, kinds := [], alts := [], laidByText := true, laidKinds := [.data], laidTests := true, laidLooks := .later }
def KeysParsesCardSaid : Prop := Claim7.holds Tryd.pinned (.plain (OpenSpec.ofChange keysParsesSpec)) keysParsesCard

/-- THE TIED CARD OF 'burgagelaw06.KeysBytes'. -/
def keysBytesCard : Claim7 := { stood := { row := keysBytesRow, standIns := [], harness := (true, "eb86b8c9ce3a0749ae0ea785e0fa6bd23c0a6f29c39a14d9f883e27f52d9f355"), looks := false }, kinds := [], alts := [], laidByText := true, laidKinds := [.data], laidTests := true, laidLooks := .later }
def KeysBytesCardSaid : Prop := Claim7.holds Tryd.pinned (.plain (OpenSpec.ofChange keysBytesSpec)) keysBytesCard

/-- THE SECOND FORM's CARD OF 'burgagelaw06.KeysDestroys'. -/
def keysDestroysUptoCard : Claim7 := { stood := { row := keysDestroysUptoRow, standIns := [], harness := (true, "eb86b8c9ce3a0749ae0ea785e0fa6bd23c0a6f29c39a14d9f883e27f52d9f355"), looks := false }, kinds := [], alts := [], laidByText := true, laidKinds := [.data], laidTests := true, laidLooks := .later }
def KeysDestroysUptoCardSaid : Prop := Claim7.holds Tryd.pinned (.plain (OpenSpec.upto keysDestroysSpec)) keysDestroysUptoCard

/-- THE SECOND FORM's CARD OF 'burgagelaw06.KeysOrders'. -/
def keysOrdersUptoCard : Claim7 := { stood := { row := keysOrdersUptoRow, standIns := [], harness := (true, "eb86b8c9ce3a0749ae0ea785e0fa6bd23c0a6f29c39a14d9f883e27f52d9f355"), looks := false }, kinds := [], alts := [], laidByText := true, laidKinds := [.data], laidTests := true, laidLooks := .later }
def KeysOrdersUptoCardSaid : Prop := Claim7.holds Tryd.pinned (.plain (OpenSpec.upto keysOrdersSpec)) keysOrdersUptoCard

/-- THE SECOND FORM's CARD OF 'burgagelaw06.KeysCovers'. -/
def keysCoversUptoCard : Claim7 := { stood := { row := keysCoversUptoRow, standIns := [], harness := (true, "eb86b8c9ce3a0749ae0ea785e0fa6bd23c0a6f29c39a14d9f883e27f52d9f355"), looks := false }, kinds := [], alts := [], laidByText := true, laidKinds := [.data], laidTests := true, laidLooks := .later }
def KeysCoversUptoCardSaid : Prop := Claim7.holds Tryd.pinned (.plain (OpenSpec.upto keysCoversSpec)) keysCoversUptoCard

/-- THE SECOND FORM's CARD OF 'burgagelaw06.KeysUnions'. -/
def keysUnionsUptoCard : Claim7 := { stood := { row := keysUnionsUptoRow, standIns := [], harness := (true, "eb86b8c9ce3a0749ae0ea785e0fa6bd23c0a6f29c39a14d9f883e27f52d9f355"), looks := false }, kinds := [], alts := [], laidByText := true, laidKinds := [.data], laidTests := true, laidLooks := .later }
def KeysUnionsUptoCardSaid : Prop := Claim7.holds Tryd.pinned (.plain (OpenSpec.upto keysUnionsSpec)) keysUnionsUptoCard

/-- THE SECOND FORM's CARD OF 'burgagelaw06.KeysFollow'. -/
def keysFollowUptoCard : Claim7 := { stood := { row := keysFollowUptoRow, standIns := [], harness := (true, "eb86b8c9ce3a0749ae0ea785e0fa6bd23c0a6f29c39a14d9f883e27f52d9f355"), looks := false }, kinds := [], alts := [], laidByText := true, laidKinds := [.data], laidTests := true, laidLooks := .later }
def KeysFollowUptoCardSaid : Prop := Claim7.holds Tryd.pinned (.plain (OpenSpec.upto keysFollowSpec)) keysFollowUptoCard

/-- THE SECOND FORM's CARD OF 'burgagelaw06.KeysMatchesReference'. -/
def keysMatchesReferenceUptoCard : Claim7 := { stood := { row := keysMatchesReferenceUptoRow, standIns := [], harness := (true, "eb86b8c9ce3a0749ae0ea785e0fa6bd23c0a6f29c39a14d9f883e27f52d9f355"), looks := false }, kinds := [], alts := [], laidByText := true, laidKinds := [.data], laidTests := true, laidLooks := .later }
def KeysMatchesReferenceUptoCardSaid : Prop := Claim7.holds Tryd.pinned (.plain (OpenSpec.upto keysMatchesReferenceSpec)) keysMatchesReferenceUptoCard

/-- THE SECOND FORM's CARD OF 'burgagelaw06.KeysParses'. -/
def keysParsesUptoCard : Claim7 := { stood := { row := keysParsesUptoRow, standIns := [], harness := (true, "eb86b8c9ce3a0749ae0ea785e0fa6bd23c0a6f29c39a14d9f883e27f52d9f355"), looks := false }, kinds := [], alts := [], laidByText := true, laidKinds := [.data], laidTests := true, laidLooks := .later }
def KeysParsesUptoCardSaid : Prop := Claim7.holds Tryd.pinned (.plain (OpenSpec.upto keysParsesSpec)) keysParsesUptoCard

/-- THE SECOND FORM's CARD OF 'burgagelaw06.KeysBytes'. -/
def keysBytesUptoCard : Claim7 := { stood := { row := keysBytesUptoRow, standIns := [], harness := (true, "eb86b8c9ce3a0749ae0ea785e0fa6bd23c0a6f29c39a14d9f883e27f52d9f355"), looks := false }, kinds := [], alts := [], laidByText := true, laidKinds := [.data], laidTests := true, laidLooks := .later }
def KeysBytesUptoCardSaid : Prop := Claim7.holds Tryd.pinned (.plain (OpenSpec.upto keysBytesSpec)) keysBytesUptoCard
end Rows
end Go.Proofs.YtelpjhdglgledaaDoor
