/-
  NARROWER THAN 'FOR EVERY INPUT', by the rows' own cells (each row's printed sentence says how): StoreValid: laid · StoreRefuses: laid · StoreSyncs: laid · StoreCrashes: laid · StoreRots: laid · StoreLists: laid · StoreMatchesReference: laid · StoreReads: laid.
  DERIVED. THE GIVEN ROWS OF THIS SEAT. 8 by the template 'for every input the law returns true; each argument reads behind the call as it read before'; 0 by the template 'total and deterministic' (their statements: YtoaefniopgmoaaaDoorTotals.lean).
  GIVEN WITH THE SEED: the statements are not yours to turn. If you find one false, say at which input.
  Laid BY PROGRAM, IN A SANDBOX (cutbox-rows.mjs): the forced cells as the released guide's own fill.sh prints them over the translation ca58c7c2617c1018… (all of the seat's roots in one cut). By AI agents, Wed Nov 11 2026. No macro, syntax, notation, axiom, sorry.
-/
import Derived.Test.YtoaefniopgmoaaaDoorChecked
import GoSem.Claim
import GoSem.ClaimJoined
import GoSem.ClaimMapViews
import Derived.JoinedTies
import Derived.KernelRfl
namespace Go.Proofs.YtoaefniopgmoaaaDoor
/- THE CELL 'sum', in the pinned program and in every row, IS THE sha256 OF THE DUMP (.gsa) THAT YtoaefniopgmoaaaDoorProg.lean LOADS. Nothing in Lean hashes anything: it is a label: what it is worth is what the hold of that sum in a sandbox is worth. -/
noncomputable def Tryd.pinned : Pinned := { name := "ytoaefniopgmoaaadoor", sum := "ca58c7c2617c1018732f430c2c4f6351fa5a36e8662e47654cb1ac0f6b76319c", checked := Tryd.checked }
namespace Rows
def none {H : Type} : Left H := { results := [], args := [] }

/- WHAT THE LISTED PACKAGE-LEVEL VARIABLES READ AS WHEN THE CALL BEGINS. Each datum BY PROGRAM (the guide's laid-datum.mjs) off the statement by which the dump's own 'gosem.cut.vars' lays the variable. In a bare row this is a premise. The card (YtoaefniopgmoaaaDoorCards.lean) ties it to the program's text. -/
def laid_burgage_sponge_words {H : Type} : DataW H := .agg [.lit (.int .u64 1), .lit (.int .u64 32898), .lit (.int .u64 9223372036854808714), .lit (.int .u64 9223372039002292224), .lit (.int .u64 32907), .lit (.int .u64 2147483649), .lit (.int .u64 9223372039002292353), .lit (.int .u64 9223372036854808585), .lit (.int .u64 138), .lit (.int .u64 136), .lit (.int .u64 2147516425), .lit (.int .u64 2147483658), .lit (.int .u64 2147516555), .lit (.int .u64 9223372036854775947), .lit (.int .u64 9223372036854808713), .lit (.int .u64 9223372036854808579), .lit (.int .u64 9223372036854808578), .lit (.int .u64 9223372036854775936), .lit (.int .u64 32778), .lit (.int .u64 9223372039002259466), .lit (.int .u64 9223372039002292353), .lit (.int .u64 9223372036854808704), .lit (.int .u64 2147483649), .lit (.int .u64 9223372039002292232)]

/-- 'burgagelaw22.StoreValid': WHATEVER THE INPUT: true; the input reads as it did. -/
def storeValidSpec : ChangeSpec := { name := "storeValid", fn := fun _ => fun
  | [d] => { results := [.lit (.bool true)], args := [d] }
  | _ => none }
def storeValidRow : OpenClaim := { program := "ytoaefniopgmoaaadoor", sum := "ca58c7c2617c1018732f430c2c4f6351fa5a36e8662e47654cb1ac0f6b76319c", func := "burgage/burgagelaw22.StoreValid", spec := "storeValid", inPlace := ["slices.overlaps[burgage/api.Cell]"], unfollowed := true, recurses := true, named := ["burgage/sponge.words"], apart := false, laid := [("burgage/sponge.words", laid_burgage_sponge_words)] }
def StoreValidSaid : Prop := storeValidRow.holds Tryd.pinned (OpenSpec.ofChange storeValidSpec)

/-- ITS FALSE NEIGHBOUR: 'it returns false'. Refute it at one input. -/
def storeValidWrong : ChangeSpec := { name := "storeValid", fn := fun _ => fun
  | [d] => { results := [.lit (.bool false)], args := [d] }
  | _ => none }
def StoreValidWrongFalsely : Prop := storeValidRow.holds Tryd.pinned (OpenSpec.ofChange storeValidWrong)

/-- 'burgagelaw22.StoreRefuses': WHATEVER THE INPUT: true; the input reads as it did. -/
def storeRefusesSpec : ChangeSpec := { name := "storeRefuses", fn := fun _ => fun
  | [d1, d2, d3] => { results := [.lit (.bool true)], args := [d1, d2, d3] }
  | _ => none }
def storeRefusesRow : OpenClaim := { program := "ytoaefniopgmoaaadoor", sum := "ca58c7c2617c1018732f430c2c4f6351fa5a36e8662e47654cb1ac0f6b76319c", func := "burgage/burgagelaw22.StoreRefuses", spec := "storeRefuses", inPlace := ["slices.overlaps[burgage/api.Cell]"], unfollowed := true, recurses := true, named := ["burgage/sponge.words"], apart := false, laid := [("burgage/sponge.words", laid_burgage_sponge_words)] }
def StoreRefusesSaid : Prop := storeRefusesRow.holds Tryd.pinned (OpenSpec.ofChange storeRefusesSpec)

/-- ITS FALSE NEIGHBOUR: 'it returns false'. Refute it at one input. -/
def storeRefusesWrong : ChangeSpec := { name := "storeRefuses", fn := fun _ => fun
  | [d1, d2, d3] => { results := [.lit (.bool false)], args := [d1, d2, d3] }
  | _ => none }
def StoreRefusesWrongFalsely : Prop := storeRefusesRow.holds Tryd.pinned (OpenSpec.ofChange storeRefusesWrong)

/-- 'burgagelaw22.StoreSyncs': WHATEVER THE INPUT: true; the input reads as it did. -/
def storeSyncsSpec : ChangeSpec := { name := "storeSyncs", fn := fun _ => fun
  | [d1, d2, d3] => { results := [.lit (.bool true)], args := [d1, d2, d3] }
  | _ => none }
def storeSyncsRow : OpenClaim := { program := "ytoaefniopgmoaaadoor", sum := "ca58c7c2617c1018732f430c2c4f6351fa5a36e8662e47654cb1ac0f6b76319c", func := "burgage/burgagelaw22.StoreSyncs", spec := "storeSyncs", inPlace := ["slices.overlaps[burgage/api.Cell]"], unfollowed := true, recurses := true, named := ["burgage/sponge.words"], apart := false, laid := [("burgage/sponge.words", laid_burgage_sponge_words)] }
def StoreSyncsSaid : Prop := storeSyncsRow.holds Tryd.pinned (OpenSpec.ofChange storeSyncsSpec)

/-- ITS FALSE NEIGHBOUR: 'it returns false'. Refute it at one input. -/
def storeSyncsWrong : ChangeSpec := { name := "storeSyncs", fn := fun _ => fun
  | [d1, d2, d3] => { results := [.lit (.bool false)], args := [d1, d2, d3] }
  | _ => none }
def StoreSyncsWrongFalsely : Prop := storeSyncsRow.holds Tryd.pinned (OpenSpec.ofChange storeSyncsWrong)

/-- 'burgagelaw22.StoreCrashes': WHATEVER THE INPUT: true; the input reads as it did. -/
def storeCrashesSpec : ChangeSpec := { name := "storeCrashes", fn := fun _ => fun
  | [d1, d2] => { results := [.lit (.bool true)], args := [d1, d2] }
  | _ => none }
def storeCrashesRow : OpenClaim := { program := "ytoaefniopgmoaaadoor", sum := "ca58c7c2617c1018732f430c2c4f6351fa5a36e8662e47654cb1ac0f6b76319c", func := "burgage/burgagelaw22.StoreCrashes", spec := "storeCrashes", inPlace := ["slices.overlaps[burgage/api.Cell]"], unfollowed := true, recurses := true, named := ["burgage/sponge.words"], apart := false, laid := [("burgage/sponge.words", laid_burgage_sponge_words)] }
def StoreCrashesSaid : Prop := storeCrashesRow.holds Tryd.pinned (OpenSpec.ofChange storeCrashesSpec)

/-- ITS FALSE NEIGHBOUR: 'it returns false'. Refute it at one input. -/
def storeCrashesWrong : ChangeSpec := { name := "storeCrashes", fn := fun _ => fun
  | [d1, d2] => { results := [.lit (.bool false)], args := [d1, d2] }
  | _ => none }
def StoreCrashesWrongFalsely : Prop := storeCrashesRow.holds Tryd.pinned (OpenSpec.ofChange storeCrashesWrong)

/-- 'burgagelaw22.StoreRots': WHATEVER THE INPUT: true; the input reads as it did. -/
def storeRotsSpec : ChangeSpec := { name := "storeRots", fn := fun _ => fun
  | [d1, d2] => { results := [.lit (.bool true)], args := [d1, d2] }
  | _ => none }
def storeRotsRow : OpenClaim := { program := "ytoaefniopgmoaaadoor", sum := "ca58c7c2617c1018732f430c2c4f6351fa5a36e8662e47654cb1ac0f6b76319c", func := "burgage/burgagelaw22.StoreRots", spec := "storeRots", inPlace := ["slices.overlaps[burgage/api.Cell]"], unfollowed := true, recurses := true, named := ["burgage/sponge.words"], apart := false, laid := [("burgage/sponge.words", laid_burgage_sponge_words)] }
def StoreRotsSaid : Prop := storeRotsRow.holds Tryd.pinned (OpenSpec.ofChange storeRotsSpec)

/-- ITS FALSE NEIGHBOUR: 'it returns false'. Refute it at one input. -/
def storeRotsWrong : ChangeSpec := { name := "storeRots", fn := fun _ => fun
  | [d1, d2] => { results := [.lit (.bool false)], args := [d1, d2] }
  | _ => none }
def StoreRotsWrongFalsely : Prop := storeRotsRow.holds Tryd.pinned (OpenSpec.ofChange storeRotsWrong)

/-- 'burgagelaw22.StoreLists': WHATEVER THE INPUT: true; the input reads as it did. -/
def storeListsSpec : ChangeSpec := { name := "storeLists", fn := fun _ => fun
  | [d] => { results := [.lit (.bool true)], args := [d] }
  | _ => none }
def storeListsRow : OpenClaim := { program := "ytoaefniopgmoaaadoor", sum := "ca58c7c2617c1018732f430c2c4f6351fa5a36e8662e47654cb1ac0f6b76319c", func := "burgage/burgagelaw22.StoreLists", spec := "storeLists", inPlace := ["slices.overlaps[burgage/api.Cell]"], unfollowed := true, recurses := true, named := ["burgage/sponge.words"], apart := false, laid := [("burgage/sponge.words", laid_burgage_sponge_words)] }
def StoreListsSaid : Prop := storeListsRow.holds Tryd.pinned (OpenSpec.ofChange storeListsSpec)

/-- ITS FALSE NEIGHBOUR: 'it returns false'. Refute it at one input. -/
def storeListsWrong : ChangeSpec := { name := "storeLists", fn := fun _ => fun
  | [d] => { results := [.lit (.bool false)], args := [d] }
  | _ => none }
def StoreListsWrongFalsely : Prop := storeListsRow.holds Tryd.pinned (OpenSpec.ofChange storeListsWrong)

/-- 'burgagelaw22.StoreMatchesReference': WHATEVER THE INPUT: true; the input reads as it did. -/
def storeMatchesReferenceSpec : ChangeSpec := { name := "storeMatchesReference", fn := fun _ => fun
  | [d1, d2, d3] => { results := [.lit (.bool true)], args := [d1, d2, d3] }
  | _ => none }
def storeMatchesReferenceRow : OpenClaim := { program := "ytoaefniopgmoaaadoor", sum := "ca58c7c2617c1018732f430c2c4f6351fa5a36e8662e47654cb1ac0f6b76319c", func := "burgage/burgagelaw22.StoreMatchesReference", spec := "storeMatchesReference", inPlace := ["slices.overlaps[burgage/api.Cell]"], unfollowed := true, recurses := true, named := ["burgage/sponge.words"], apart := false, laid := [("burgage/sponge.words", laid_burgage_sponge_words)] }
def StoreMatchesReferenceSaid : Prop := storeMatchesReferenceRow.holds Tryd.pinned (OpenSpec.ofChange storeMatchesReferenceSpec)

/-- ITS FALSE NEIGHBOUR: 'it returns false'. Refute it at one input. -/
def storeMatchesReferenceWrong : ChangeSpec := { name := "storeMatchesReference", fn := fun _ => fun
  | [d1, d2, d3] => { results := [.lit (.bool false)], args := [d1, d2, d3] }
  | _ => none }
def StoreMatchesReferenceWrongFalsely : Prop := storeMatchesReferenceRow.holds Tryd.pinned (OpenSpec.ofChange storeMatchesReferenceWrong)

/-- 'burgagelaw22.StoreReads': WHATEVER THE INPUT: true; the input reads as it did. -/
def storeReadsSpec : ChangeSpec := { name := "storeReads", fn := fun _ => fun
  | [d1, d2, d3] => { results := [.lit (.bool true)], args := [d1, d2, d3] }
  | _ => none }
def storeReadsRow : OpenClaim := { program := "ytoaefniopgmoaaadoor", sum := "ca58c7c2617c1018732f430c2c4f6351fa5a36e8662e47654cb1ac0f6b76319c", func := "burgage/burgagelaw22.StoreReads", spec := "storeReads", inPlace := ["slices.overlaps[burgage/api.Cell]"], unfollowed := true, recurses := true, named := ["burgage/sponge.words"], apart := false, laid := [("burgage/sponge.words", laid_burgage_sponge_words)] }
def StoreReadsSaid : Prop := storeReadsRow.holds Tryd.pinned (OpenSpec.ofChange storeReadsSpec)

/-- ITS FALSE NEIGHBOUR: 'it returns false'. Refute it at one input. -/
def storeReadsWrong : ChangeSpec := { name := "storeReads", fn := fun _ => fun
  | [d1, d2, d3] => { results := [.lit (.bool false)], args := [d1, d2, d3] }
  | _ => none }
def StoreReadsWrongFalsely : Prop := storeReadsRow.holds Tryd.pinned (OpenSpec.ofChange storeReadsWrong)

/- THE SECOND FORM. 'bulk': how many values and letters a reading holds, each counted each time it is reached (what is shared counts as often as it is met; a slice's spare places count too). A statement '..UptoSaid' is the law's where the arguments, and the package variables that the reading takes, are together of bulk at most 1048576: NARROWER than '..Said'. Prove '..Said' where nothing that the law and all that it calls make is longer than what came in: it says more and counts as full. Else prove '..UptoSaid'. A law counts once. -/
mutual
def uptoBulk {H : Type} : DataW H → Nat
  | .lit (.string bytes) => bytes.length + 1
  | .lit _ => 1
  | .nil => 1
  | .ptr d => uptoBulk d + 1
  | .slice elems spare => uptoBulkAll elems + uptoBulkAll spare + 1
  | .agg parts => uptoBulkAll parts + 1
  | .iface _ d => uptoBulk d + 1
  | .map entries => uptoBulkEntries entries + 1
  | .held _ => 1
def uptoBulkAll {H : Type} : List (DataW H) → Nat
  | [] => 0
  | d :: r => uptoBulk d + uptoBulkAll r
def uptoBulkEntries {H : Type} : List (Lit × DataW H) → Nat
  | [] => 0
  | x :: r => uptoBulkEntry x + uptoBulkEntries r
def uptoBulkEntry {H : Type} : Lit × DataW H → Nat
  | (.string bytes, d) => bytes.length + uptoBulk d + 1
  | (_, d) => uptoBulk d + 1
 end
def uptoSmall : (H : Type) → List (DataW H) → Bool := fun _ ds => decide (uptoBulkAll ds ≤ 1048576)
def OpenSpec.upto (s : _root_.Go.ChangeSpec) : _root_.Go.OpenSpec := { _root_.Go.OpenSpec.ofChange s with cond := some uptoSmall }

/-- 'burgagelaw22.StoreValid', WHERE WHAT IT READS IS OF BULK AT MOST 1048576: true; the input reads as it did. -/
def storeValidUptoRow : OpenClaim := { program := "ytoaefniopgmoaaadoor", sum := "ca58c7c2617c1018732f430c2c4f6351fa5a36e8662e47654cb1ac0f6b76319c", func := "burgage/burgagelaw22.StoreValid", spec := "storeValid", inPlace := ["slices.overlaps[burgage/api.Cell]"], unfollowed := true, recurses := true, named := ["burgage/sponge.words"], apart := false, laid := [("burgage/sponge.words", laid_burgage_sponge_words)], narrowed := true }
def StoreValidUptoSaid : Prop := storeValidUptoRow.holds Tryd.pinned (OpenSpec.upto storeValidSpec)

/-- 'burgagelaw22.StoreRefuses', WHERE WHAT IT READS IS OF BULK AT MOST 1048576: true; the input reads as it did. -/
def storeRefusesUptoRow : OpenClaim := { program := "ytoaefniopgmoaaadoor", sum := "ca58c7c2617c1018732f430c2c4f6351fa5a36e8662e47654cb1ac0f6b76319c", func := "burgage/burgagelaw22.StoreRefuses", spec := "storeRefuses", inPlace := ["slices.overlaps[burgage/api.Cell]"], unfollowed := true, recurses := true, named := ["burgage/sponge.words"], apart := false, laid := [("burgage/sponge.words", laid_burgage_sponge_words)], narrowed := true }
def StoreRefusesUptoSaid : Prop := storeRefusesUptoRow.holds Tryd.pinned (OpenSpec.upto storeRefusesSpec)

/-- 'burgagelaw22.StoreSyncs', WHERE WHAT IT READS IS OF BULK AT MOST 1048576: true; the input reads as it did. -/
def storeSyncsUptoRow : OpenClaim := { program := "ytoaefniopgmoaaadoor", sum := "ca58c7c2617c1018732f430c2c4f6351fa5a36e8662e47654cb1ac0f6b76319c", func := "burgage/burgagelaw22.StoreSyncs", spec := "storeSyncs", inPlace := ["slices.overlaps[burgage/api.Cell]"], unfollowed := true, recurses := true, named := ["burgage/sponge.words"], apart := false, laid := [("burgage/sponge.words", laid_burgage_sponge_words)], narrowed := true }
def StoreSyncsUptoSaid : Prop := storeSyncsUptoRow.holds Tryd.pinned (OpenSpec.upto storeSyncsSpec)

/-- 'burgagelaw22.StoreCrashes', WHERE WHAT IT READS IS OF BULK AT MOST 1048576: true; the input reads as it did. -/
def storeCrashesUptoRow : OpenClaim := { program := "ytoaefniopgmoaaadoor", sum := "ca58c7c2617c1018732f430c2c4f6351fa5a36e8662e47654cb1ac0f6b76319c", func := "burgage/burgagelaw22.StoreCrashes", spec := "storeCrashes", inPlace := ["slices.overlaps[burgage/api.Cell]"], unfollowed := true, recurses := true, named := ["burgage/sponge.words"], apart := false, laid := [("burgage/sponge.words", laid_burgage_sponge_words)], narrowed := true }
def StoreCrashesUptoSaid : Prop := storeCrashesUptoRow.holds Tryd.pinned (OpenSpec.upto storeCrashesSpec)

/-- 'burgagelaw22.StoreRots', WHERE WHAT IT READS IS OF BULK AT MOST 1048576: true; the input reads as it did. -/
def storeRotsUptoRow : OpenClaim := { program := "ytoaefniopgmoaaadoor", sum := "ca58c7c2617c1018732f430c2c4f6351fa5a36e8662e47654cb1ac0f6b76319c", func := "burgage/burgagelaw22.StoreRots", spec := "storeRots", inPlace := ["slices.overlaps[burgage/api.Cell]"], unfollowed := true, recurses := true, named := ["burgage/sponge.words"], apart := false, laid := [("burgage/sponge.words", laid_burgage_sponge_words)], narrowed := true }
def StoreRotsUptoSaid : Prop := storeRotsUptoRow.holds Tryd.pinned (OpenSpec.upto storeRotsSpec)

/-- 'burgagelaw22.StoreLists', WHERE WHAT IT READS IS OF BULK AT MOST 1048576: true; the input reads as it did. -/
def storeListsUptoRow : OpenClaim := { program := "ytoaefniopgmoaaadoor", sum := "ca58c7c2617c1018732f430c2c4f6351fa5a36e8662e47654cb1ac0f6b76319c", func := "burgage/burgagelaw22.StoreLists", spec := "storeLists", inPlace := ["slices.overlaps[burgage/api.Cell]"], unfollowed := true, recurses := true, named := ["burgage/sponge.words"], apart := false, laid := [("burgage/sponge.words", laid_burgage_sponge_words)], narrowed := true }
def StoreListsUptoSaid : Prop := storeListsUptoRow.holds Tryd.pinned (OpenSpec.upto storeListsSpec)

/-- 'burgagelaw22.StoreMatchesReference', WHERE WHAT IT READS IS OF BULK AT MOST 1048576: true; the input reads as it did. -/
def storeMatchesReferenceUptoRow : OpenClaim := { program := "ytoaefniopgmoaaadoor", sum := "ca58c7c2617c1018732f430c2c4f6351fa5a36e8662e47654cb1ac0f6b76319c", func := "burgage/burgagelaw22.StoreMatchesReference", spec := "storeMatchesReference", inPlace := ["slices.overlaps[burgage/api.Cell]"], unfollowed := true, recurses := true, named := ["burgage/sponge.words"], apart := false, laid := [("burgage/sponge.words", laid_burgage_sponge_words)], narrowed := true }
def StoreMatchesReferenceUptoSaid : Prop := storeMatchesReferenceUptoRow.holds Tryd.pinned (OpenSpec.upto storeMatchesReferenceSpec)

/-- 'burgagelaw22.StoreReads', WHERE WHAT IT READS IS OF BULK AT MOST 1048576: true; the input reads as it did. -/
def storeReadsUptoRow : OpenClaim := { program := "ytoaefniopgmoaaadoor", sum := "ca58c7c2617c1018732f430c2c4f6351fa5a36e8662e47654cb1ac0f6b76319c", func := "burgage/burgagelaw22.StoreReads", spec := "storeReads", inPlace := ["slices.overlaps[burgage/api.Cell]"], unfollowed := true, recurses := true, named := ["burgage/sponge.words"], apart := false, laid := [("burgage/sponge.words", laid_burgage_sponge_words)], narrowed := true }
def StoreReadsUptoSaid : Prop := storeReadsUptoRow.holds Tryd.pinned (OpenSpec.upto storeReadsSpec)

end Rows
end Go.Proofs.YtoaefniopgmoaaaDoor
