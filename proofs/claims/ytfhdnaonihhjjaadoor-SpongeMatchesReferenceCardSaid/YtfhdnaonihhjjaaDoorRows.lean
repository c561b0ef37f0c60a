/-
  NARROWER THAN 'FOR EVERY INPUT', by the rows' own cells (each row's printed sentence says how): SpongeMatchesReference: laid · SpongeParts: laid · SpongeSplits: laid · SpongeStreams: laid · SpongeBytes: laid · SpongeTexts: laid · SpongeParses: laid.
  DERIVED. THE GIVEN ROWS OF THIS SEAT. 7 by the template 'for every input the law returns true; each argument reads behind the call as it read before'; 0 by the template 'total and deterministic' (their statements: YtfhdnaonihhjjaaDoorTotals.lean).
  GIVEN WITH THE SEED: the statements are not yours to turn. If you find one false, say at which input.
  Laid BY PROGRAM, IN A SANDBOX (cutbox-rows.mjs): the forced cells as the released guide's own fill.sh prints them over the translation 5803ce9b213b5140… (all of the seat's roots in one cut). By AI agents, Wed Nov 11 2026. No macro, syntax, notation, axiom, sorry.
-/
import Derived.Test.YtfhdnaonihhjjaaDoorChecked
import GoSem.Claim
import GoSem.ClaimJoined
import GoSem.ClaimMapViews
import Derived.JoinedTies
import Derived.KernelRfl
namespace Go.Proofs.YtfhdnaonihhjjaaDoor
/- THE CELL 'sum', in the pinned program and in every row, IS THE sha256 OF THE DUMP (.gsa) THAT YtfhdnaonihhjjaaDoorProg.lean LOADS. Nothing in Lean hashes anything: it is a label: what it is worth is what the hold of that sum in a sandbox is worth. -/
noncomputable def Tryd.pinned : Pinned := { name := "ytfhdnaonihhjjaadoor", sum := "5803ce9b213b5140a103287cc9cc9dd4f8cd01593ded417f183bc70557a2081f", checked := Tryd.checked }
namespace Rows
def none {H : Type} : Left H := { results := [], args := [] }

/- WHAT THE LISTED PACKAGE-LEVEL VARIABLES READ AS WHEN THE CALL BEGINS. Each datum BY PROGRAM (the guide's laid-datum.mjs) off the statement by which the dump's own 'gosem.cut.vars' lays the variable. In a bare row this is a premise. The card (YtfhdnaonihhjjaaDoorCards.lean) ties it to the program's text. -/
def laid_burgage_sponge_words {H : Type} : DataW H := .agg [.lit (.int .u64 1), .lit (.int .u64 32898), .lit (.int .u64 9223372036854808714), .lit (.int .u64 9223372039002292224), .lit (.int .u64 32907), .lit (.int .u64 2147483649), .lit (.int .u64 9223372039002292353), .lit (.int .u64 9223372036854808585), .lit (.int .u64 138), .lit (.int .u64 136), .lit (.int .u64 2147516425), .lit (.int .u64 2147483658), .lit (.int .u64 2147516555), .lit (.int .u64 9223372036854775947), .lit (.int .u64 9223372036854808713), .lit (.int .u64 9223372036854808579), .lit (.int .u64 9223372036854808578), .lit (.int .u64 9223372036854775936), .lit (.int .u64 32778), .lit (.int .u64 9223372039002259466), .lit (.int .u64 9223372039002292353), .lit (.int .u64 9223372036854808704), .lit (.int .u64 2147483649), .lit (.int .u64 9223372039002292232)]

/-- 'burgagelaw03.SpongeMatchesReference': WHATEVER THE INPUT: true; the input reads as it did. -/
def spongeMatchesReferenceSpec : ChangeSpec := { name := "spongeMatchesReference", fn := fun _ => fun
  | [d1, d2, d3] => { results := [.lit (.bool true)], args := [d1, d2, d3] }
  | _ => none }
def spongeMatchesReferenceRow : OpenClaim := { program := "ytfhdnaonihhjjaadoor", sum := "5803ce9b213b5140a103287cc9cc9dd4f8cd01593ded417f183bc70557a2081f", func := "burgage/burgagelaw03.SpongeMatchesReference", spec := "spongeMatchesReference", inPlace := ["internal/abi.NoEscape"], unfollowed := true, recurses := true, named := ["burgage/sponge.words"], apart := false, laid := [("burgage/sponge.words", laid_burgage_sponge_words)] }
def SpongeMatchesReferenceSaid : Prop := spongeMatchesReferenceRow.holds Tryd.pinned (OpenSpec.ofChange spongeMatchesReferenceSpec)

/-- ITS FALSE NEIGHBOUR: 'it returns false'. Refute it at one input. -/
def spongeMatchesReferenceWrong : ChangeSpec := { name := "spongeMatchesReference", fn := fun _ => fun
  | [d1, d2, d3] => { results := [.lit (.bool false)], args := [d1, d2, d3] }
  | _ => none }
def SpongeMatchesReferenceWrongFalsely : Prop := spongeMatchesReferenceRow.holds Tryd.pinned (OpenSpec.ofChange spongeMatchesReferenceWrong)

/-- 'burgagelaw03.SpongeParts': WHATEVER THE INPUT: true; the input reads as it did. -/
def spongePartsSpec : ChangeSpec := { name := "spongeParts", fn := fun _ => fun
  | [d1, d2] => { results := [.lit (.bool true)], args := [d1, d2] }
  | _ => none }
def spongePartsRow : OpenClaim := { program := "ytfhdnaonihhjjaadoor", sum := "5803ce9b213b5140a103287cc9cc9dd4f8cd01593ded417f183bc70557a2081f", func := "burgage/burgagelaw03.SpongeParts", spec := "spongeParts", inPlace := ["internal/abi.NoEscape"], unfollowed := true, recurses := true, named := ["burgage/sponge.words"], apart := false, laid := [("burgage/sponge.words", laid_burgage_sponge_words)] }
def SpongePartsSaid : Prop := spongePartsRow.holds Tryd.pinned (OpenSpec.ofChange spongePartsSpec)

/-- ITS FALSE NEIGHBOUR: 'it returns false'. Refute it at one input. -/
def spongePartsWrong : ChangeSpec := { name := "spongeParts", fn := fun _ => fun
  | [d1, d2] => { results := [.lit (.bool false)], args := [d1, d2] }
  | _ => none }
def SpongePartsWrongFalsely : Prop := spongePartsRow.holds Tryd.pinned (OpenSpec.ofChange spongePartsWrong)

/-- 'burgagelaw03.SpongeSplits': WHATEVER THE INPUT: true; the input reads as it did. -/
def spongeSplitsSpec : ChangeSpec := { name := "spongeSplits", fn := fun _ => fun
  | [d1, d2, d3] => { results := [.lit (.bool true)], args := [d1, d2, d3] }
  | _ => none }
def spongeSplitsRow : OpenClaim := { program := "ytfhdnaonihhjjaadoor", sum := "5803ce9b213b5140a103287cc9cc9dd4f8cd01593ded417f183bc70557a2081f", func := "burgage/burgagelaw03.SpongeSplits", spec := "spongeSplits", inPlace := ["internal/abi.NoEscape"], unfollowed := true, recurses := true, named := ["burgage/sponge.words"], apart := false, laid := [("burgage/sponge.words", laid_burgage_sponge_words)] }
def SpongeSplitsSaid : Prop := spongeSplitsRow.holds Tryd.pinned (OpenSpec.ofChange spongeSplitsSpec)

/-- ITS FALSE NEIGHBOUR: 'it returns false'. Refute it at one input. -/
def spongeSplitsWrong : ChangeSpec := { name := "spongeSplits", fn := fun _ => fun
  | [d1, d2, d3] => { results := [.lit (.bool false)], args := [d1, d2, d3] }
  | _ => none }
def SpongeSplitsWrongFalsely : Prop := spongeSplitsRow.holds Tryd.pinned (OpenSpec.ofChange spongeSplitsWrong)

/-- 'burgagelaw03.SpongeStreams': WHATEVER THE INPUT: true; the input reads as it did. -/
def spongeStreamsSpec : ChangeSpec := { name := "spongeStreams", fn := fun _ => fun
  | [d1, d2, d3] => { results := [.lit (.bool true)], args := [d1, d2, d3] }
  | _ => none }
def spongeStreamsRow : OpenClaim := { program := "ytfhdnaonihhjjaadoor", sum := "5803ce9b213b5140a103287cc9cc9dd4f8cd01593ded417f183bc70557a2081f", func := "burgage/burgagelaw03.SpongeStreams", spec := "spongeStreams", inPlace := ["internal/abi.NoEscape"], unfollowed := true, recurses := true, named := ["burgage/sponge.words"], apart := false, laid := [("burgage/sponge.words", laid_burgage_sponge_words)] }
def SpongeStreamsSaid : Prop := spongeStreamsRow.holds Tryd.pinned (OpenSpec.ofChange spongeStreamsSpec)

/-- ITS FALSE NEIGHBOUR: 'it returns false'. Refute it at one input. -/
def spongeStreamsWrong : ChangeSpec := { name := "spongeStreams", fn := fun _ => fun
  | [d1, d2, d3] => { results := [.lit (.bool false)], args := [d1, d2, d3] }
  | _ => none }
def SpongeStreamsWrongFalsely : Prop := spongeStreamsRow.holds Tryd.pinned (OpenSpec.ofChange spongeStreamsWrong)

/-- 'burgagelaw03.SpongeBytes': WHATEVER THE INPUT: true; the input reads as it did. -/
def spongeBytesSpec : ChangeSpec := { name := "spongeBytes", fn := fun _ => fun
  | [d1, d2] => { results := [.lit (.bool true)], args := [d1, d2] }
  | _ => none }
def spongeBytesRow : OpenClaim := { program := "ytfhdnaonihhjjaadoor", sum := "5803ce9b213b5140a103287cc9cc9dd4f8cd01593ded417f183bc70557a2081f", func := "burgage/burgagelaw03.SpongeBytes", spec := "spongeBytes", inPlace := ["internal/abi.NoEscape"], unfollowed := true, recurses := true, named := ["burgage/sponge.words"], apart := false, laid := [("burgage/sponge.words", laid_burgage_sponge_words)] }
def SpongeBytesSaid : Prop := spongeBytesRow.holds Tryd.pinned (OpenSpec.ofChange spongeBytesSpec)

/-- ITS FALSE NEIGHBOUR: 'it returns false'. Refute it at one input. -/
def spongeBytesWrong : ChangeSpec := { name := "spongeBytes", fn := fun _ => fun
  | [d1, d2] => { results := [.lit (.bool false)], args := [d1, d2] }
  | _ => none }
def SpongeBytesWrongFalsely : Prop := spongeBytesRow.holds Tryd.pinned (OpenSpec.ofChange spongeBytesWrong)

/-- 'burgagelaw03.SpongeTexts': WHATEVER THE INPUT: true; the input reads as it did. -/
def spongeTextsSpec : ChangeSpec := { name := "spongeTexts", fn := fun _ => fun
  | [d1, d2, d3] => { results := [.lit (.bool true)], args := [d1, d2, d3] }
  | _ => none }
def spongeTextsRow : OpenClaim := { program := "ytfhdnaonihhjjaadoor", sum := "5803ce9b213b5140a103287cc9cc9dd4f8cd01593ded417f183bc70557a2081f", func := "burgage/burgagelaw03.SpongeTexts", spec := "spongeTexts", inPlace := ["internal/abi.NoEscape", "internal/bytealg.IndexByteString"], unfollowed := true, recurses := true, named := ["burgage/sponge.words"], apart := false, laid := [("burgage/sponge.words", laid_burgage_sponge_words)] }
def SpongeTextsSaid : Prop := spongeTextsRow.holds Tryd.pinned (OpenSpec.ofChange spongeTextsSpec)

/-- ITS FALSE NEIGHBOUR: 'it returns false'. Refute it at one input. -/
def spongeTextsWrong : ChangeSpec := { name := "spongeTexts", fn := fun _ => fun
  | [d1, d2, d3] => { results := [.lit (.bool false)], args := [d1, d2, d3] }
  | _ => none }
def SpongeTextsWrongFalsely : Prop := spongeTextsRow.holds Tryd.pinned (OpenSpec.ofChange spongeTextsWrong)

/-- 'burgagelaw03.SpongeParses': WHATEVER THE INPUT: true; the input reads as it did. -/
def spongeParsesSpec : ChangeSpec := { name := "spongeParses", fn := fun _ => fun
  | [d1, d2, d3] => { results := [.lit (.bool true)], args := [d1, d2, d3] }
  | _ => none }
def spongeParsesRow : OpenClaim := { program := "ytfhdnaonihhjjaadoor", sum := "5803ce9b213b5140a103287cc9cc9dd4f8cd01593ded417f183bc70557a2081f", func := "burgage/burgagelaw03.SpongeParses", spec := "spongeParses", inPlace := ["internal/abi.NoEscape", "internal/bytealg.IndexByteString"], unfollowed := true, recurses := true, named := ["burgage/sponge.words"], apart := false, laid := [("burgage/sponge.words", laid_burgage_sponge_words)] }
def SpongeParsesSaid : Prop := spongeParsesRow.holds Tryd.pinned (OpenSpec.ofChange spongeParsesSpec)

/-- ITS FALSE NEIGHBOUR: 'it returns false'. Refute it at one input. -/
def spongeParsesWrong : ChangeSpec := { name := "spongeParses", fn := fun _ => fun
  | [d1, d2, d3] => { results := [.lit (.bool false)], args := [d1, d2, d3] }
  | _ => none }
def SpongeParsesWrongFalsely : Prop := spongeParsesRow.holds Tryd.pinned (OpenSpec.ofChange spongeParsesWrong)

/- THE SECOND FORM. 'bulk': how many values and letters a reading holds, each counted each time it is reached (what is shared counts as often as it is met; a slice's spare places count too). A statement '..UptoSaid' is the law's where the arguments, and the package variables that the reading takes, are together of bulk at most 1048576: NARROWER than '..Said'. Prove '..Said' where nothing that the law and all that it calls make is longer than what came in: it says more and counts as full. Else prove '..UptoSaid'. A law counts once. -/
mutual
def uptoBulk {H : Type} : DataW H → Nat
  | .lit (.string bytes) => bytes.length + 1
  | .lit _ => 1
  | .nil => 1
  | .ptr d => uptoBulk d + 1
  | .slice elems spare => uptoBulkAll elems + uptoBulkAll spare + 1
  | .agg parts => uptoBulkAll parts + 1
  | .iface _ d => uptoBulk d + 1
  | .map entries => uptoBulkEntries entries + 1
  | .held _ => 1
def uptoBulkAll {H : Type} : List (DataW H) → Nat
  | [] => 0
  | d :: r => uptoBulk d + uptoBulkAll r
def uptoBulkEntries {H : Type} : List (Lit × DataW H) → Nat
  | [] => 0
  | x :: r => uptoBulkEntry x + uptoBulkEntries r
def uptoBulkEntry {H : Type} : Lit × DataW H → Nat
  | (.string bytes, d) => bytes.length + uptoBulk d + 1
  | (_, d) => uptoBulk d + 1
 end
def uptoSmall : (H : Type) → List (DataW H) → Bool := fun _ ds => decide (uptoBulkAll ds ≤ 1048576)
def OpenSpec.upto (s : _root_.Go.ChangeSpec) : _root_.Go.OpenSpec := { _root_.Go.OpenSpec.ofChange s with cond := some uptoSmall }

/-- 'burgagelaw03.SpongeMatchesReference', WHERE WHAT IT READS IS OF BULK AT MOST 1048576: true; the input reads as it did. -/
def spongeMatchesReferenceUptoRow : OpenClaim := { program := "ytfhdnaonihhjjaadoor", sum := "5803ce9b213b5140a103287cc9cc9dd4f8cd01593ded417f183bc70557a2081f", func := "burgage/burgagelaw03.SpongeMatchesReference", spec := "spongeMatchesReference", inPlace := ["internal/abi.NoEscape"], unfollowed := true, recurses := true, named := ["burgage/sponge.words"], apart := false, laid := [("burgage/sponge.words", laid_burgage_sponge_words)], narrowed := true }
def SpongeMatchesReferenceUptoSaid : Prop := spongeMatchesReferenceUptoRow.holds Tryd.pinned (OpenSpec.upto spongeMatchesReferenceSpec)

/-- 'burgagelaw03.SpongeParts', WHERE WHAT IT READS IS OF BULK AT MOST 1048576: true; the input reads as it did. -/
def spongePartsUptoRow : OpenClaim := { program := "ytfhdnaonihhjjaadoor", sum := "5803ce9b213b5140a103287cc9cc9dd4f8cd01593ded417f183bc70557a2081f", func := "burgage/burgagelaw03.SpongeParts", spec := "spongeParts", inPlace := ["internal/abi.NoEscape"], unfollowed := true, recurses := true, named := ["burgage/sponge.words"], apart := false, laid := [("burgage/sponge.words", laid_burgage_sponge_words)], narrowed := true }
def SpongePartsUptoSaid : Prop := spongePartsUptoRow.holds Tryd.pinned (OpenSpec.upto spongePartsSpec)

/-- 'burgagelaw03.SpongeSplits', WHERE WHAT IT READS IS OF BULK AT MOST 1048576: true; the input reads as it did. -/
def spongeSplitsUptoRow : OpenClaim := { program := "ytfhdnaonihhjjaadoor", sum := "5803ce9b213b5140a103287cc9cc9dd4f8cd01593ded417f183bc70557a2081f", func := "burgage/burgagelaw03.SpongeSplits", spec := "spongeSplits", inPlace := ["internal/abi.NoEscape"], unfollowed := true, recurses := true, named := ["burgage/sponge.words"], apart := false, laid := [("burgage/sponge.words", laid_burgage_sponge_words)], narrowed := true }
def SpongeSplitsUptoSaid : Prop := spongeSplitsUptoRow.holds Tryd.pinned (OpenSpec.upto spongeSplitsSpec)

/-- 'burgagelaw03.SpongeStreams', WHERE WHAT IT READS IS OF BULK AT MOST 1048576: true; the input reads as it did. -/
def spongeStreamsUptoRow : OpenClaim := { program := "ytfhdnaonihhjjaadoor", sum := "5803ce9b213b5140a103287cc9cc9dd4f8cd01593ded417f183bc70557a2081f", func := "burgage/burgagelaw03.SpongeStreams", spec := "spongeStreams", inPlace := ["internal/abi.NoEscape"], unfollowed := true, recurses := true, named := ["burgage/sponge.words"], apart := false, laid := [("burgage/sponge.words", laid_burgage_sponge_words)], narrowed := true }
def SpongeStreamsUptoSaid : Prop := spongeStreamsUptoRow.holds Tryd.pinned (OpenSpec.upto spongeStreamsSpec)

/-- 'burgagelaw03.SpongeBytes', WHERE WHAT IT READS IS OF BULK AT MOST 1048576: true; the input reads as it did. -/
def spongeBytesUptoRow : OpenClaim := { program := "ytfhdnaonihhjjaadoor", sum := "5803ce9b213b5140a103287cc9cc9dd4f8cd01593ded417f183bc70557a2081f", func := "burgage/burgagelaw03.SpongeBytes", spec := "spongeBytes", inPlace := ["internal/abi.NoEscape"], unfollowed := true, recurses := true, named := ["burgage/sponge.words"], apart := false, laid := [("burgage/sponge.words", laid_burgage_sponge_words)], narrowed := true }
def SpongeBytesUptoSaid : Prop := spongeBytesUptoRow.holds Tryd.pinned (OpenSpec.upto spongeBytesSpec)

/-- 'burgagelaw03.SpongeTexts', WHERE WHAT IT READS IS OF BULK AT MOST 1048576: true; the input reads as it did. -/
def spongeTextsUptoRow : OpenClaim := { program := "ytfhdnaonihhjjaadoor", sum := "5803ce9b213b5140a103287cc9cc9dd4f8cd01593ded417f183bc70557a2081f", func := "burgage/burgagelaw03.SpongeTexts", spec := "spongeTexts", inPlace := ["internal/abi.NoEscape", "internal/bytealg.IndexByteString"], unfollowed := true, recurses := true, named := ["burgage/sponge.words"], apart := false, laid := [("burgage/sponge.words", laid_burgage_sponge_words)], narrowed := true }
def SpongeTextsUptoSaid : Prop := spongeTextsUptoRow.holds Tryd.pinned (OpenSpec.upto spongeTextsSpec)

/-- 'burgagelaw03.SpongeParses', WHERE WHAT IT READS IS OF BULK AT MOST 1048576: true; the input reads as it did. -/
def spongeParsesUptoRow : OpenClaim := { program := "ytfhdnaonihhjjaadoor", sum := "5803ce9b213b5140a103287cc9cc9dd4f8cd01593ded417f183bc70557a2081f", func := "burgage/burgagelaw03.SpongeParses", spec := "spongeParses", inPlace := ["internal/abi.NoEscape", "internal/bytealg.IndexByteString"], unfollowed := true, recurses := true, named := ["burgage/sponge.words"], apart := false, laid := [("burgage/sponge.words", laid_burgage_sponge_words)], narrowed := true }
def SpongeParsesUptoSaid : Prop := spongeParsesUptoRow.holds Tryd.pinned (OpenSpec.upto spongeParsesSpec)

end Rows
end Go.Proofs.YtfhdnaonihhjjaaDoor
