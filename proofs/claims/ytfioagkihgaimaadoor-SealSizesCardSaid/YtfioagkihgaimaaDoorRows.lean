/-
  NARROWER THAN 'FOR EVERY INPUT', by the rows' own cells (each row's printed sentence says how): SealOpens: laid · SealKeys: laid · SealChanges: laid · SealNoise: laid · SealMatchesReference: laid · SealRekeys: laid · SealSizes: laid.
  DERIVED. THE GIVEN ROWS OF THIS SEAT. 7 by the template 'for every input the law returns true; each argument reads behind the call as it read before'; 0 by the template 'total and deterministic' (their statements: YtfioagkihgaimaaDoorTotals.lean).
  GIVEN WITH THE SEED: the statements are not yours to turn. If you find one false, say at which input.
  Laid BY PROGRAM, IN A SANDBOX (cutbox-rows.mjs): the forced cells as the released guide's own fill.sh prints them over the translation d7eab704f23499d3… (all of the seat's roots in one cut). By AI agents, Wed Nov 11 2026. No macro, syntax, notation, axiom, sorry.
-/
import Derived.Test.YtfioagkihgaimaaDoorChecked
import GoSem.Claim
import GoSem.ClaimJoined
import GoSem.ClaimMapViews
import Derived.JoinedTies
import Derived.KernelRfl
namespace Go.Proofs.YtfioagkihgaimaaDoor
/- THE CELL 'sum', in the pinned program and in every row, IS THE sha256 OF THE DUMP (.gsa) THAT YtfioagkihgaimaaDoorProg.lean LOADS. Nothing in Lean hashes anything: it is a label: what it is worth is what the hold of that sum in a sandbox is worth. -/
noncomputable def Tryd.pinned : Pinned := { name := "ytfioagkihgaimaadoor", sum := "d7eab704f23499d30aa350bf9556c401aa6870ad465a19b327cd50b221f9a39b", checked := Tryd.checked }
namespace Rows
def none {H : Type} : Left H := { results := [], args := [] }

/- WHAT THE LISTED PACKAGE-LEVEL VARIABLES READ AS WHEN THE CALL BEGINS. Each datum BY PROGRAM (the guide's laid-datum.mjs) off the statement by which the dump's own 'gosem.cut.vars' lays the variable. In a bare row this is a premise. The card (YtfioagkihgaimaaDoorCards.lean) ties it to the program's text. -/
def laid_burgage_sponge_words {H : Type} : DataW H := .agg [.lit (.int .u64 1), .lit (.int .u64 32898), .lit (.int .u64 9223372036854808714), .lit (.int .u64 9223372039002292224), .lit (.int .u64 32907), .lit (.int .u64 2147483649), .lit (.int .u64 9223372039002292353), .lit (.int .u64 9223372036854808585), .lit (.int .u64 138), .lit (.int .u64 136), .lit (.int .u64 2147516425), .lit (.int .u64 2147483658), .lit (.int .u64 2147516555), .lit (.int .u64 9223372036854775947), .lit (.int .u64 9223372036854808713), .lit (.int .u64 9223372036854808579), .lit (.int .u64 9223372036854808578), .lit (.int .u64 9223372036854775936), .lit (.int .u64 32778), .lit (.int .u64 9223372039002259466), .lit (.int .u64 9223372039002292353), .lit (.int .u64 9223372036854808704), .lit (.int .u64 2147483649), .lit (.int .u64 9223372039002292232)]

/-- 'burgagelaw05.SealOpens': WHATEVER THE INPUT: true; the input reads as it did. -/
def sealOpensSpec : ChangeSpec := { name := "sealOpens", fn := fun _ => fun
  | [d1, d2, d3] => { results := [.lit (.bool true)], args := [d1, d2, d3] }
  | _ => none }
def sealOpensRow : OpenClaim := { program := "ytfioagkihgaimaadoor", sum := "d7eab704f23499d30aa350bf9556c401aa6870ad465a19b327cd50b221f9a39b", func := "burgage/burgagelaw05.SealOpens", spec := "sealOpens", unfollowed := true, recurses := true, named := ["burgage/sponge.words"], apart := false, laid := [("burgage/sponge.words", laid_burgage_sponge_words)] }
def SealOpensSaid : Prop := sealOpensRow.holds Tryd.pinned (OpenSpec.ofChange sealOpensSpec)

/-- ITS FALSE NEIGHBOUR: 'it returns false'. Refute it at one input. -/
def sealOpensWrong : ChangeSpec := { name := "sealOpens", fn := fun _ => fun
  | [d1, d2, d3] => { results := [.lit (.bool false)], args := [d1, d2, d3] }
  | _ => none }
def SealOpensWrongFalsely : Prop := sealOpensRow.holds Tryd.pinned (OpenSpec.ofChange sealOpensWrong)

/-- 'burgagelaw05.SealKeys': WHATEVER THE INPUT: true; the input reads as it did. -/
def sealKeysSpec : ChangeSpec := { name := "sealKeys", fn := fun _ => fun
  | [d1, d2, d3] => { results := [.lit (.bool true)], args := [d1, d2, d3] }
  | _ => none }
def sealKeysRow : OpenClaim := { program := "ytfioagkihgaimaadoor", sum := "d7eab704f23499d30aa350bf9556c401aa6870ad465a19b327cd50b221f9a39b", func := "burgage/burgagelaw05.SealKeys", spec := "sealKeys", unfollowed := true, recurses := true, named := ["burgage/sponge.words"], apart := false, laid := [("burgage/sponge.words", laid_burgage_sponge_words)] }
def SealKeysSaid : Prop := sealKeysRow.holds Tryd.pinned (OpenSpec.ofChange sealKeysSpec)

/-- ITS FALSE NEIGHBOUR: 'it returns false'. Refute it at one input. -/
def sealKeysWrong : ChangeSpec := { name := "sealKeys", fn := fun _ => fun
  | [d1, d2, d3] => { results := [.lit (.bool false)], args := [d1, d2, d3] }
  | _ => none }
def SealKeysWrongFalsely : Prop := sealKeysRow.holds Tryd.pinned (OpenSpec.ofChange sealKeysWrong)

/-- 'burgagelaw05.SealChanges': WHATEVER THE INPUT: true; the input reads as it did. -/
def sealChangesSpec : ChangeSpec := { name := "sealChanges", fn := fun _ => fun
  | [d1, d2, d3] => { results := [.lit (.bool true)], args := [d1, d2, d3] }
  | _ => none }
def sealChangesRow : OpenClaim := { program := "ytfioagkihgaimaadoor", sum := "d7eab704f23499d30aa350bf9556c401aa6870ad465a19b327cd50b221f9a39b", func := "burgage/burgagelaw05.SealChanges", spec := "sealChanges", unfollowed := true, recurses := true, named := ["burgage/sponge.words"], apart := false, laid := [("burgage/sponge.words", laid_burgage_sponge_words)] }
def SealChangesSaid : Prop := sealChangesRow.holds Tryd.pinned (OpenSpec.ofChange sealChangesSpec)

/-- ITS FALSE NEIGHBOUR: 'it returns false'. Refute it at one input. -/
def sealChangesWrong : ChangeSpec := { name := "sealChanges", fn := fun _ => fun
  | [d1, d2, d3] => { results := [.lit (.bool false)], args := [d1, d2, d3] }
  | _ => none }
def SealChangesWrongFalsely : Prop := sealChangesRow.holds Tryd.pinned (OpenSpec.ofChange sealChangesWrong)

/-- 'burgagelaw05.SealNoise': WHATEVER THE INPUT: true; the input reads as it did. -/
def sealNoiseSpec : ChangeSpec := { name := "sealNoise", fn := fun _ => fun
  | [d1, d2, d3] => { results := [.lit (.bool true)], args := [d1, d2, d3] }
  | _ => none }
def sealNoiseRow : OpenClaim := { program := "ytfioagkihgaimaadoor", sum := "d7eab704f23499d30aa350bf9556c401aa6870ad465a19b327cd50b221f9a39b", func := "burgage/burgagelaw05.SealNoise", spec := "sealNoise", unfollowed := true, recurses := true, named := ["burgage/sponge.words"], apart := false, laid := [("burgage/sponge.words", laid_burgage_sponge_words)] }
def SealNoiseSaid : Prop := sealNoiseRow.holds Tryd.pinned (OpenSpec.ofChange sealNoiseSpec)

/-- ITS FALSE NEIGHBOUR: 'it returns false'. Refute it at one input. -/
def sealNoiseWrong : ChangeSpec := { name := "sealNoise", fn := fun _ => fun
  | [d1, d2, d3] => { results := [.lit (.bool false)], args := [d1, d2, d3] }
  | _ => none }
def SealNoiseWrongFalsely : Prop := sealNoiseRow.holds Tryd.pinned (OpenSpec.ofChange sealNoiseWrong)

/-- 'burgagelaw05.SealMatchesReference': WHATEVER THE INPUT: true; the input reads as it did. -/
def sealMatchesReferenceSpec : ChangeSpec := { name := "sealMatchesReference", fn := fun _ => fun
  | [d1, d2, d3] => { results := [.lit (.bool true)], args := [d1, d2, d3] }
  | _ => none }
def sealMatchesReferenceRow : OpenClaim := { program := "ytfioagkihgaimaadoor", sum := "d7eab704f23499d30aa350bf9556c401aa6870ad465a19b327cd50b221f9a39b", func := "burgage/burgagelaw05.SealMatchesReference", spec := "sealMatchesReference", unfollowed := true, recurses := true, named := ["burgage/sponge.words"], apart := false, laid := [("burgage/sponge.words", laid_burgage_sponge_words)] }
def SealMatchesReferenceSaid : Prop := sealMatchesReferenceRow.holds Tryd.pinned (OpenSpec.ofChange sealMatchesReferenceSpec)

/-- ITS FALSE NEIGHBOUR: 'it returns false'. Refute it at one input. -/
def sealMatchesReferenceWrong : ChangeSpec := { name := "sealMatchesReference", fn := fun _ => fun
  | [d1, d2, d3] => { results := [.lit (.bool false)], args := [d1, d2, d3] }
  | _ => none }
def SealMatchesReferenceWrongFalsely : Prop := sealMatchesReferenceRow.holds Tryd.pinned (OpenSpec.ofChange sealMatchesReferenceWrong)

/-- 'burgagelaw05.SealRekeys': WHATEVER THE INPUT: true; the input reads as it did. -/
def sealRekeysSpec : ChangeSpec := { name := "sealRekeys", fn := fun _ => fun
  | [d1, d2, d3] => { results := [.lit (.bool true)], args := [d1, d2, d3] }
  | _ => none }
def sealRekeysRow : OpenClaim := { program := "ytfioagkihgaimaadoor", sum := "d7eab704f23499d30aa350bf9556c401aa6870ad465a19b327cd50b221f9a39b", func := "burgage/burgagelaw05.SealRekeys", spec := "sealRekeys", unfollowed := true, recurses := true, named := ["burgage/sponge.words"], apart := false, laid := [("burgage/sponge.words", laid_burgage_sponge_words)] }
def SealRekeysSaid : Prop := sealRekeysRow.holds Tryd.pinned (OpenSpec.ofChange sealRekeysSpec)

/-- ITS FALSE NEIGHBOUR: 'it returns false'. Refute it at one input. -/
def sealRekeysWrong : ChangeSpec := { name := "sealRekeys", fn := fun _ => fun
  | [d1, d2, d3] => { results := [.lit (.bool false)], args := [d1, d2, d3] }
  | _ => none }
def SealRekeysWrongFalsely : Prop := sealRekeysRow.holds Tryd.pinned (OpenSpec.ofChange sealRekeysWrong)

/-- 'burgagelaw05.SealSizes': WHATEVER THE INPUT: true; the input reads as it did. -/
def sealSizesSpec : ChangeSpec := { name := "sealSizes", fn := fun _ => fun
  | [d1, d2] => { results := [.lit (.bool true)], args := [d1, d2] }
  | _ => none }
def sealSizesRow : OpenClaim := { program := "ytfioagkihgaimaadoor", sum := "d7eab704f23499d30aa350bf9556c401aa6870ad465a19b327cd50b221f9a39b", func := "burgage/burgagelaw05.SealSizes", spec := "sealSizes", unfollowed := true, recurses := true, named := ["burgage/sponge.words"], apart := false, laid := [("burgage/sponge.words", laid_burgage_sponge_words)] }
def SealSizesSaid : Prop := sealSizesRow.holds Tryd.pinned (OpenSpec.ofChange sealSizesSpec)

/-- ITS FALSE NEIGHBOUR: 'it returns false'. Refute it at one input. -/
def sealSizesWrong : ChangeSpec := { name := "sealSizes", fn := fun _ => fun
  | [d1, d2] => { results := [.lit (.bool false)], args := [d1, d2] }
  | _ => none }
def SealSizesWrongFalsely : Prop := sealSizesRow.holds Tryd.pinned (OpenSpec.ofChange sealSizesWrong)

/- THE SECOND FORM. 'bulk': how many values and letters a reading holds, each counted each time it is reached (what is shared counts as often as it is met; a slice's spare places count too). A statement '..UptoSaid' is the law's where the arguments, and the package variables that the reading takes, are together of bulk at most 1048576: NARROWER than '..Said'. Prove '..Said' where nothing that the law and all that it calls make is longer than what came in: it says more and counts as full. Else prove '..UptoSaid'. A law counts once. -/
mutual
def uptoBulk {H : Type} : DataW H → Nat
  | .lit (.string bytes) => bytes.length + 1
  | .lit _ => 1
  | .nil => 1
  | .ptr d => uptoBulk d + 1
  | .slice elems spare => uptoBulkAll elems + uptoBulkAll spare + 1
  | .agg parts => uptoBulkAll parts + 1
  | .iface _ d => uptoBulk d + 1
  | .map entries => uptoBulkEntries entries + 1
  | .held _ => 1
def uptoBulkAll {H : Type} : List (DataW H) → Nat
  | [] => 0
  | d :: r => uptoBulk d + uptoBulkAll r
def uptoBulkEntries {H : Type} : List (Lit × DataW H) → Nat
  | [] => 0
  | x :: r => uptoBulkEntry x + uptoBulkEntries r
def uptoBulkEntry {H : Type} : Lit × DataW H → Nat
  | (.string bytes, d) => bytes.length + uptoBulk d + 1
  | (_, d) => uptoBulk d + 1
 end
def uptoSmall : (H : Type) → List (DataW H) → Bool := fun _ ds => decide (uptoBulkAll ds ≤ 1048576)
def OpenSpec.upto (s : _root_.Go.ChangeSpec) : _root_.Go.OpenSpec := { _root_.Go.OpenSpec.ofChange s with cond := some uptoSmall }

/-- 'burgagelaw05.SealOpens', WHERE WHAT IT READS IS OF BULK AT MOST 1048576: true; the input reads as it did. -/
def sealOpensUptoRow : OpenClaim := { program := "ytfioagkihgaimaadoor", sum := "d7eab704f23499d30aa350bf9556c401aa6870ad465a19b327cd50b221f9a39b", func := "burgage/burgagelaw05.SealOpens", spec := "sealOpens", unfollowed := true, recurses := true, named := ["burgage/sponge.words"], apart := false, laid := [("burgage/sponge.words", laid_burgage_sponge_words)], narrowed := true }
def SealOpensUptoSaid : Prop := sealOpensUptoRow.holds Tryd.pinned (OpenSpec.upto sealOpensSpec)

/-- 'burgagelaw05.SealKeys', WHERE WHAT IT READS IS OF BULK AT MOST 1048576: true; the input reads as it did. -/
def sealKeysUptoRow : OpenClaim := { program := "ytfioagkihgaimaadoor", sum := "d7eab704f23499d30aa350bf9556c401aa6870ad465a19b327cd50b221f9a39b", func := "burgage/burgagelaw05.SealKeys", spec := "sealKeys", unfollowed := true, recurses := true, named := ["burgage/sponge.words"], apart := false, laid := [("burgage/sponge.words", laid_burgage_sponge_words)], narrowed := true }
def SealKeysUptoSaid : Prop := sealKeysUptoRow.holds Tryd.pinned (OpenSpec.upto sealKeysSpec)

/-- 'burgagelaw05.SealChanges', WHERE WHAT IT READS IS OF BULK AT MOST 1048576: true; the input reads as it did. -/
def sealChangesUptoRow : OpenClaim := { program := "ytfioagkihgaimaadoor", sum := "d7eab704f23499d30aa350bf9556c401aa6870ad465a19b327cd50b221f9a39b", func := "burgage/burgagelaw05.SealChanges", spec := "sealChanges", unfollowed := true, recurses := true, named := ["burgage/sponge.words"], apart := false, laid := [("burgage/sponge.words", laid_burgage_sponge_words)], narrowed := true }
def SealChangesUptoSaid : Prop := sealChangesUptoRow.holds Tryd.pinned (OpenSpec.upto sealChangesSpec)

/-- 'burgagelaw05.SealNoise', WHERE WHAT IT READS IS OF BULK AT MOST 1048576: true; the input reads as it did. -/
def sealNoiseUptoRow : OpenClaim := { program := "ytfioagkihgaimaadoor", sum := "d7eab704f23499d30aa350bf9556c401aa6870ad465a19b327cd50b221f9a39b", func := "burgage/burgagelaw05.SealNoise", spec := "sealNoise", unfollowed := true, recurses := true, named := ["burgage/sponge.words"], apart := false, laid := [("burgage/sponge.words", laid_burgage_sponge_words)], narrowed := true }
def SealNoiseUptoSaid : Prop := sealNoiseUptoRow.holds Tryd.pinned (OpenSpec.upto sealNoiseSpec)

/-- 'burgagelaw05.SealMatchesReference', WHERE WHAT IT READS IS OF BULK AT MOST 1048576: true; the input reads as it did. -/
def sealMatchesReferenceUptoRow : OpenClaim := { program := "ytfioagkihgaimaadoor", sum := "d7eab704f23499d30aa350bf9556c401aa6870ad465a19b327cd50b221f9a39b", func := "burgage/burgagelaw05.SealMatchesReference", spec := "sealMatchesReference", unfollowed := true, recurses := true, named := ["burgage/sponge.words"], apart := false, laid := [("burgage/sponge.words", laid_burgage_sponge_words)], narrowed := true }
def SealMatchesReferenceUptoSaid : Prop := sealMatchesReferenceUptoRow.holds Tryd.pinned (OpenSpec.upto sealMatchesReferenceSpec)

/-- 'burgagelaw05.SealRekeys', WHERE WHAT IT READS IS OF BULK AT MOST 1048576: true; the input reads as it did. -/
def sealRekeysUptoRow : OpenClaim := { program := "ytfioagkihgaimaadoor", sum := "d7eab704f23499d30aa350bf9556c401aa6870ad465a19b327cd50b221f9a39b", func := "burgage/burgagelaw05.SealRekeys", spec := "sealRekeys", unfollowed := true, recurses := true, named := ["burgage/sponge.words"], apart := false, laid := [("burgage/sponge.words", laid_burgage_sponge_words)], narrowed := true }
def SealRekeysUptoSaid : Prop := sealRekeysUptoRow.holds Tryd.pinned (OpenSpec.upto sealRekeysSpec)

/-- 'burgagelaw05.SealSizes', WHERE WHAT IT READS IS OF BULK AT MOST 1048576: true; the input reads as it did. -/
def sealSizesUptoRow : OpenClaim := { program := "ytfioagkihgaimaadoor", sum := "d7eab704f23499d30aa350bf9556c401aa6870ad465a19b327cd50b221f9a39b", func := "burgage/burgagelaw05.SealSizes", spec := "sealSizes", unfollowed := true, recurses := true, named := ["burgage/sponge.words"], apart := false, laid := [("burgage/sponge.words", laid_burgage_sponge_words)], narrowed := true }
def SealSizesUptoSaid : Prop := sealSizesUptoRow.holds Tryd.pinned (OpenSpec.upto sealSizesSpec)

end Rows
end Go.Proofs.YtfioagkihgaimaaDoor
