/-
  DERIVED. GIVEN WITH THE SEED: THE CARDS: each row of YtoaefniopgmoaaaDoorRows.lean that lists a variable, with what it lists TIED to the program's text (the seventh form; the later family's looks); each row that meets fmt, with fmt's text TOLD by the authors' own Lean function (tested against real Go, not proved from fmt's source: count such statements apart). THE CARD IS WHAT COUNTS. Prove the row's statement (the work); the ties are given (YtoaefniopgmoaaaDoorTie.lean); close each card by the builder's one call (the guide's Derived/Test/ToyasCard.lean, 'card_holds'). Laid BY PROGRAM, IN A SANDBOX (cutbox-door.mjs). By AI agents, Wed Nov 11 2026. No macro, syntax, notation, axiom, sorry.
-/
import Derived.Test.YtoaefniopgmoaaaDoorRows
import GoSem.ClaimSeven
namespace Go.Proofs.YtoaefniopgmoaaaDoor
namespace Rows

/-- THE TIED CARD OF 'burgagelaw22.StoreValid'. -/
def storeValidCard : Claim7 := { stood := { row := storeValidRow, standIns := [], harness := (true, "786004220a0088c8ac943370fed4486ab37855598c2747c2f0757778a093094c"), looks := false }, kinds := [], alts := [], laidByText := true, laidKinds := [.data], laidTests := true, laidLooks := .later }
def StoreValidCardSaid : Prop := Claim7.holds Tryd.pinned (.plain (OpenSpec.ofChange storeValidSpec)) storeValidCard

/-- THE TIED CARD OF 'burgagelaw22.StoreRefuses'. -/
def storeRefusesCard : Claim7 := { stood := { row := storeRefusesRow, standIns := [], harness := (true, "786004220a0088c8ac943370fed4486ab37855598c2747c2f0757778a093094c"), looks := false }, kinds := [], alts := [], laidByText := true, laidKinds := [.data], laidTests := true, laidLooks := .later }
def StoreRefusesCardSaid : Prop := Claim7.holds Tryd.pinned (.plain (OpenSpec.ofChange storeRefusesSpec)) storeRefusesCard

/-- THE TIED CARD OF 'burgagelaw22.StoreSyncs'. -/
def storeSyncsCard : Claim7 := { stood := { row := storeSyncsRow, standIns := [], harness := (true, "786004220a0088c8ac943370fed4486ab37855598c2747c2f0757778a093094c"), looks := false }, kinds := [], alts := [], laidByText := true, laidKinds := [.data], laidTests := true, laidLooks := .later }
def StoreSyncsCardSaid : Prop := Claim7.holds Tryd.pinned (.plain (OpenSpec.ofChange storeSyncsSpec)) storeSyncsCard

/-- THE TIED CARD OF 'burgagelaw22.StoreCrashes'. -/
def storeCrashesCard : Claim7 := { stood := { row := storeCrashesRow, standIns := [], harness := (true, "786004220a0088c8ac943370fed4486ab37855598c2747c2f0757778a093094c"), looks := false }, kinds := [], alts := [], laidByText := true, laidKinds := [.data], laidTests := true, laidLooks := .later }
def StoreCrashesCardSaid : Prop := Claim7.holds Tryd.pinned (.plain (OpenSpec.ofChange storeCrashesSpec)) storeCrashesCard

/-- THE TIED CARD OF 'burgagelaw22.StoreRots'. -/
def storeRotsCard : Claim7 := { stood := { row := storeRotsRow, standIns := [], harness := (true, "786004220a0088c8ac943370fed4486ab37855598c2747c2f0757778a093094c"), looks := false }, kinds := [], alts := [], laidByText := true, laidKinds := [.data], laidTests := true, laidLooks := .later }
def StoreRotsCardSaid : Prop := Claim7.holds Tryd.pinned (.plain (OpenSpec.ofChange storeRotsSpec)) storeRotsCard

/-- THE TIED CARD OF 'burgagelaw22.StoreLists'. -/
def storeListsCard : Claim7 := { stood := { row := storeListsRow, standIns := [], harness := (true, "786004220a0088c8ac943370fed4486ab37855598c2747c2f0757778a093094c"), looks := false }, kinds := [], alts := [], laidByText := true, laidKinds := [.data], laidTests := true, laidLooks := .later }
def StoreListsCardSaid : Prop := Claim7.holds Tryd.pinned (.plain (OpenSpec.ofChange storeListsSpec)) storeListsCard

/-- THE TIED CARD OF 'burgagelaw22.StoreMatchesReference'. -/
def storeMatchesReferenceCard : Claim7 := { stood := { row := storeMatchesReferenceRow, standIns := [], harness := (true, "786004220a0088c8ac943370fed4486ab37855598c2747c2f0757778a093094c"), looks := false }, kinds := [], alts := [], laidByText := true, laidKinds := [.data], laidTests := true, laidLooks := .later }
def StoreMatchesReferenceCardSaid : Prop := Claim7.holds Tryd.pinned (.plain (OpenSpec.ofChange storeMatchesReferenceSpec)) storeMatchesReferenceCard

/-- THE TIED CARD OF 'burgagelaw22.StoreReads'. -/
def storeReadsCard : Claim7 := { stood := { row := storeReadsRow, standIns := [], harness := (true, "786004220a0088c8ac943370fed4486ab37855598c2747c2f0757778a093094c"), looks := false }, kinds := [], alts := [], laidByText := true, laidKinds := [.data], laidTests := true, laidLooks := .later }
def StoreReadsCardSaid : Prop := Claim7.holds Tryd.pinned (.plain (OpenSpec.ofChange storeReadsSpec)) storeReadsCard

/-- THE SECOND FORM's CARD OF 'burgagelaw22.StoreValid'. -/
def storeValidUptoCard : Claim7 := { stood := { row := storeValidUptoRow, standIns := [], harness := (true, "786004220a0088c8ac943370fed4486ab37855598c2747c2f0757778a093094c"), looks := false }, kinds := [], alts := [], laidByText := true, laidKinds := [.data], laidTests := true, laidLooks := .later }
def StoreValidUptoCardSaid : Prop := Claim7.holds Tryd.pinned (.plain (OpenSpec.upto storeValidSpec)) storeValidUptoCard

/-- THE SECOND FORM's CARD OF 'burgagelaw22.StoreRefuses'. -/
def storeRefusesUptoCard : Claim7 := { stood := { row := storeRefusesUptoRow, standIns := [], harness := (true, "786004220a0088c8ac943370fed4486ab37855598c2747c2f0757778a093094c"), looks := false }, kinds := [], alts := [], laidByText := true, laidKinds := [.data], laidTests := true, laidLooks := .later }
def StoreRefusesUptoCardSaid : Prop := Claim7.holds Tryd.pinned (.plain (OpenSpec.upto storeRefusesSpec)) storeRefusesUptoCard

/-- THE SECOND FORM's CARD OF 'burgagelaw22.StoreSyncs'. -/
def storeSyncsUptoCard : Claim7 := { stood := { row := storeSyncsUptoRow, standIns := [], harness := (true, "786004220a0088c8ac943370fed4486ab37855598c2747c2f0757778a093094c"), looks := false }, kinds := [], alts := [], laidByText := true, laidKinds := [.data], laidTests := true, laidLooks := .later }
def StoreSyncsUptoCardSaid : Prop := Claim7.holds Tryd.pinned (.plain (OpenSpec.upto storeSyncsSpec)) storeSyncsUptoCard

/-- THE SECOND FORM's CARD OF 'burgagelaw22.StoreCrashes'. -/
def storeCrashesUptoCard : Claim7 := { stood := { row := storeCrashesUptoRow, standIns := [], harness := (true, "786004220a0088c8ac943370fed4486ab37855598c2747c2f0757778a093094c"), looks := false }, kinds := [], alts := [], laidByText := true, laidKinds := [.data], laidTests := true, laidLooks := .later }
def StoreCrashesUptoCardSaid : Prop := Claim7.holds Tryd.pinned (.plain (OpenSpec.upto storeCrashesSpec)) storeCrashesUptoCard

/-- THE SECOND FORM's CARD OF 'burgagelaw22.StoreRots'. -/
def storeRotsUptoCard : Claim7 := { stood := { row := storeRotsUptoRow, standIns := [], harness := (true, "786004220a0088c8ac943370fed4486ab37855598c2747c2f0757778a093094c"), looks := false }, kinds := [], alts := [], laidByText := true, laidKinds := [.data], laidTests := true, laidLooks := .later }
def StoreRotsUptoCardSaid : Prop := Claim7.holds Tryd.pinned (.plain (OpenSpec.upto storeRotsSpec)) storeRotsUptoCard

/-- THE SECOND FORM's CARD OF 'burgagelaw22.StoreLists'. -/
def storeListsUptoCard : Claim7 := { stood := { row := storeListsUptoRow, standIns := [], harness := (true, "786004220a0088c8ac943370fed4486ab37855598c2747c2f0757778a093094c"), looks := false }, kinds := [], alts := [], laidByText := true, laidKinds := [.data], laidTests := true, laidLooks := .later }
def StoreListsUptoCardSaid : Prop := Claim7.holds Tryd.pinned (.plain (OpenSpec.upto storeListsSpec)) storeListsUptoCard

/-- THE SECOND FORM's CARD OF 'burgagelaw22.StoreMatchesReference'. -/
def storeMatchesReferenceUptoCard : Claim7 := { stood := { row := storeMatchesReferenceUptoRow, standIns := [], harness := (true, "786004220a0088c8ac943370fed4486ab37855598c2747c2f0757778a093094c"), looks := false }, kinds := [], alts := [], laidByText := true, laidKinds := [.data], laidTests := true, laidLooks := .later }
def StoreMatchesReferenceUptoCardSaid : Prop := Claim7.holds Tryd.pinned (.plain (OpenSpec.upto storeMatchesReferenceSpec)) storeMatchesReferenceUptoCard

/-- THE SECOND FORM's CARD OF 'burgagelaw22.StoreReads'. -/
def storeReadsUptoCard : Claim7 := { stood := { row := storeReadsUptoRow, standIns := [], harness := (true, "786004220a0088c8ac943370fed4486ab37855598c2747c2f0757778a093094c"), looks := false }, kinds := [], alts := [], laidByText := true, laidKinds := [.data], laidTests := true, laidLooks := .later }
def StoreReadsUptoCardSaid : Prop := Claim7.holds Tryd.pinned (.plain (OpenSpec.upto storeReadsSpec)) storeReadsUptoCard
end Rows
end Go.Proofs.YtoaefniopgmoaaaDoor
