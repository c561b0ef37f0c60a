/-
  NARROWER THAN 'FOR EVERY INPUT', by the rows' own cells (each row's printed sentence says how): KeysDestroys: laid · KeysOrders: laid · KeysCovers: laid · KeysUnions: laid · KeysFollow: laid · KeysMatchesReference: laid · KeysParses: laid · KeysBytes: laid.
  DERIVED. THE GIVEN ROWS OF THIS SEAT. 8 by the template 'for every input the law returns true; each argument reads behind the call as it read before'; 0 by the template 'total and deterministic' (their statements: YtelpjhdglgledaaDoorTotals.lean).
  GIVEN WITH THE SEED: the statements are not yours to turn. If you find one false, say at which input.
  Laid BY PROGRAM, IN A SANDBOX (cutbox-rows.mjs): the forced cells as the released guide's own fill.sh prints them over the translation a0ea51213ecf30d5… (all of the seat's roots in one cut). By AI agents, Wed Nov 11 2026. No macro, syntax, notation, axiom, sorry.
-/
import Derived.Test.YtelpjhdglgledaaDoorChecked
import GoSem.Claim
import GoSem.ClaimJoined
import GoSem.ClaimMapViews
import Derived.JoinedTies
import Derived.KernelRfl
namespace Go.Proofs.YtelpjhdglgledaaDoor
/- THE CELL 'sum', in the pinned program and in every row, IS THE sha256 OF THE DUMP (.gsa) THAT YtelpjhdglgledaaDoorProg.lean LOADS. Nothing in Lean hashes anything: it is a label: what it is worth is what the hold of that sum in a sandbox is worth. -/
noncomputable def Tryd.pinned : Pinned := { name := "ytelpjhdglgledaadoor", sum := "a0ea51213ecf30d57aa2db1eb91dce462b08baf6e5cbb3bc86bb6eb96b14b2e3", checked := Tryd.checked }
namespace Rows
def none {H : Type} : Left H := { results := [], args := [] }

/- WHAT THE LISTED PACKAGE-LEVEL VARIABLES READ AS WHEN THE CALL BEGINS. Each datum BY PROGRAM (the guide's laid-datum.mjs) off the statement by which the dump's own 'gosem.cut.vars' lays the variable. In a bare row this is a premise. The card (YtelpjhdglgledaaDoorCards.lean) ties it to the program's text. -/
def laid_burgage_sponge_words {H : Type} : DataW H := .agg [.lit (.int .u64 1), .lit (.int .u64 32898), .lit (.int .u64 9223372036854808714), .lit (.int .u64 9223372039002292224), .lit (.int .u64 32907), .lit (.int .u64 2147483649), .lit (.int .u64 9223372039002292353), .lit (.int .u64 9223372036854808585), .lit (.int .u64 138), .lit (.int .u64 136), .lit (.int .u64 2147516425), .lit (.int .u64 2147483658), .lit (.int .u64 2147516555), .lit (.int .u64 9223372036854775947), .lit (.int .u64 9223372036854808713), .lit (.int .u64 9223372036854808579), .lit (.int .u64 9223372036854808578), .lit (.int .u64 9223372036854775936), .lit (.int .u64 32778), .lit (.int .u64 9223372039002259466), .lit (.int .u64 9223372039002292353), .lit (.int .u64 9223372036854808704), .lit (.int .u64 2147483649), .lit (.int .u64 9223372039002292232)]

/-- 'burgagelaw06.KeysDestroys': WHATEVER THE INPUT: true; the input reads as it did. -/
def keysDestroysSpec : ChangeSpec := { name := "keysDestroys", fn := fun _ => fun
  | [d1, d2, d3] => { results := [.lit (.bool true)], args := [d1, d2, d3] }
  | _ => none }
def keysDestroysRow : OpenClaim := { program := "ytelpjhdglgledaadoor", sum := "a0ea51213ecf30d57aa2db1eb91dce462b08baf6e5cbb3bc86bb6eb96b14b2e3", func := "burgage/burgagelaw06.KeysDestroys", spec := "keysDestroys", unfollowed := true, recurses := true, named := ["burgage/sponge.words"], apart := false, laid := [("burgage/sponge.words", laid_burgage_sponge_words)] }
def KeysDestroysSaid : Prop := keysDestroysRow.holds Tryd.pinned (OpenSpec.ofChange keysDestroysSpec)

/-- ITS FALSE NEIGHBOUR: 'it returns false'. Refute it at one input. -/
def keysDestroysWrong : ChangeSpec := { name := "keysDestroys", fn := fun _ => fun
  | [d1, d2, d3] => { results := [.lit (.bool false)], args := [d1, d2, d3] }
  | _ => none }
def KeysDestroysWrongFalsely : Prop := keysDestroysRow.holds Tryd.pinned (OpenSpec.ofChange keysDestroysWrong)

/-- 'burgagelaw06.KeysOrders': WHATEVER THE INPUT: true; the input reads as it did. -/
def keysOrdersSpec : ChangeSpec := { name := "keysOrders", fn := fun _ => fun
  | [d1, d2, d3] => { results := [.lit (.bool true)], args := [d1, d2, d3] }
  | _ => none }
def keysOrdersRow : OpenClaim := { program := "ytelpjhdglgledaadoor", sum := "a0ea51213ecf30d57aa2db1eb91dce462b08baf6e5cbb3bc86bb6eb96b14b2e3", func := "burgage/burgagelaw06.KeysOrders", spec := "keysOrders", unfollowed := true, recurses := true, named := ["burgage/sponge.words"], apart := false, laid := [("burgage/sponge.words", laid_burgage_sponge_words)] }
def KeysOrdersSaid : Prop := keysOrdersRow.holds Tryd.pinned (OpenSpec.ofChange keysOrdersSpec)

/-- ITS FALSE NEIGHBOUR: 'it returns false'. Refute it at one input. -/
def keysOrdersWrong : ChangeSpec := { name := "keysOrders", fn := fun _ => fun
  | [d1, d2, d3] => { results := [.lit (.bool false)], args := [d1, d2, d3] }
  | _ => none }
def KeysOrdersWrongFalsely : Prop := keysOrdersRow.holds Tryd.pinned (OpenSpec.ofChange keysOrdersWrong)

/-- 'burgagelaw06.KeysCovers': WHATEVER THE INPUT: true; the input reads as it did. -/
def keysCoversSpec : ChangeSpec := { name := "keysCovers", fn := fun _ => fun
  | [d1, d2] => { results := [.lit (.bool true)], args := [d1, d2] }
  | _ => none }
def keysCoversRow : OpenClaim := { program := "ytelpjhdglgledaadoor", sum := "a0ea51213ecf30d57aa2db1eb91dce462b08baf6e5cbb3bc86bb6eb96b14b2e3", func := "burgage/burgagelaw06.KeysCovers", spec := "keysCovers", unfollowed := true, recurses := true, named := ["burgage/sponge.words"], apart := false, laid := [("burgage/sponge.words", laid_burgage_sponge_words)] }
def KeysCoversSaid : Prop := keysCoversRow.holds Tryd.pinned (OpenSpec.ofChange keysCoversSpec)

/-- ITS FALSE NEIGHBOUR: 'it returns false'. Refute it at one input. -/
def keysCoversWrong : ChangeSpec := { name := "keysCovers", fn := fun _ => fun
  | [d1, d2] => { results := [.lit (.bool false)], args := [d1, d2] }
  | _ => none }
def KeysCoversWrongFalsely : Prop := keysCoversRow.holds Tryd.pinned (OpenSpec.ofChange keysCoversWrong)

/-- 'burgagelaw06.KeysUnions': WHATEVER THE INPUT: true; the input reads as it did. -/
def keysUnionsSpec : ChangeSpec := { name := "keysUnions", fn := fun _ => fun
  | [d1, d2, d3] => { results := [.lit (.bool true)], args := [d1, d2, d3] }
  | _ => none }
def keysUnionsRow : OpenClaim := { program := "ytelpjhdglgledaadoor", sum := "a0ea51213ecf30d57aa2db1eb91dce462b08baf6e5cbb3bc86bb6eb96b14b2e3", func := "burgage/burgagelaw06.KeysUnions", spec := "keysUnions", unfollowed := true, recurses := true, named := ["burgage/sponge.words"], apart := false, laid := [("burgage/sponge.words", laid_burgage_sponge_words)] }
def KeysUnionsSaid : Prop := keysUnionsRow.holds Tryd.pinned (OpenSpec.ofChange keysUnionsSpec)

/-- ITS FALSE NEIGHBOUR: 'it returns false'. Refute it at one input. -/
def keysUnionsWrong : ChangeSpec := { name := "keysUnions", fn := fun _ => fun
  | [d1, d2, d3] => { results := [.lit (.bool false)], args := [d1, d2, d3] }
  | _ => none }
def KeysUnionsWrongFalsely : Prop := keysUnionsRow.holds Tryd.pinned (OpenSpec.ofChange keysUnionsWrong)

/-- 'burgagelaw06.KeysFollow': WHATEVER THE INPUT: true; the input reads as it did. -/
def keysFollowSpec : ChangeSpec := { name := "keysFollow", fn := fun _ => fun
  | [d1, d2] => { results := [.lit (.bool true)], args := [d1, d2] }
  | _ => none }
def keysFollowRow : OpenClaim := { program := "ytelpjhdglgledaadoor", sum := "a0ea51213ecf30d57aa2db1eb91dce462b08baf6e5cbb3bc86bb6eb96b14b2e3", func := "burgage/burgagelaw06.KeysFollow", spec := "keysFollow", unfollowed := true, recurses := true, named := ["burgage/sponge.words"], apart := false, laid := [("burgage/sponge.words", laid_burgage_sponge_words)] }
def KeysFollowSaid : Prop := keysFollowRow.holds Tryd.pinned (OpenSpec.ofChange keysFollowSpec)

/-- ITS FALSE NEIGHBOUR: 'it returns false'. Refute it at one input. -/
def keysFollowWrong : ChangeSpec := { name := "keysFollow", fn := fun _ => fun
  | [d1, d2] => { results := [.lit (.bool false)], args := [d1, d2] }
  | _ => none }
def KeysFollowWrongFalsely : Prop := keysFollowRow.holds Tryd.pinned (OpenSpec.ofChange keysFollowWrong)

/-- 'burgagelaw06.KeysMatchesReference': WHATEVER THE INPUT: true; the input reads as it did. -/
def keysMatchesReferenceSpec : ChangeSpec := { name := "keysMatchesReference", fn := fun _ => fun
  | [d1, d2, d3] => { results := [.lit (.bool true)], args := [d1, d2, d3] }
  | _ => none }
def keysMatchesReferenceRow : OpenClaim := { program := "ytelpjhdglgledaadoor", sum := "a0ea51213ecf30d57aa2db1eb91dce462b08baf6e5cbb3bc86bb6eb96b14b2e3", func := "burgage/burgagelaw06.KeysMatchesReference", spec := "keysMatchesReference", unfollowed := true, recurses := true, named := ["burgage/sponge.words"], apart := false, laid := [("burgage/sponge.words", laid_burgage_sponge_words)] }
def KeysMatchesReferenceSaid : Prop := keysMatchesReferenceRow.holds Tryd.pinned (OpenSpec.ofChange keysMatchesReferenceSpec)

/-- ITS FALSE NEIGHBOUR: 'it returns false'. Refute it at one input. -/
def keysMatchesReferenceWrong : ChangeSpec := { name := "keysMatchesReference", fn := fun _ => fun
  | [d1, d2, d3] => { results := [.lit (.bool false)], args := [d1, d2, d3] }
  | _ => none }
def KeysMatchesReferenceWrongFalsely : Prop := keysMatchesReferenceRow.holds Tryd.pinned (OpenSpec.ofChange keysMatchesReferenceWrong)

/-- 'burgagelaw06.KeysParses': WHATEVER THE INPUT: true; the input reads as it did. -/
def keysParsesSpec : ChangeSpec := { name := "keysParses", fn := fun _ => fun
  | [d1, d2] => { results := [.lit (.bool true)], args := [d1, d2] }
  | _ => none }
def keysParsesRow : OpenClaim := { program := "ytelpjhdglgledaadoor", sum := "a0ea51213ecf30d57aa2db1eb91dce462b08baf6e5cbb3bc86bb6eb96b14b2e3", func := "burgage/burgagelaw06.KeysParses", spec := "keysParses", unfollowed := true, recurses := true, named := ["burgage/sponge.words"], apart := false, laid := [("burgage/sponge.words", laid_burgage_sponge_words)] }
def KeysParsesSaid : Prop := keysParsesRow.holds Tryd.pinned (OpenSpec.ofChange keysParsesSpec)

/-- ITS FALSE NEIGHBOUR: 'it returns false'. Refute it at one input. -/
def keysParsesWrong : ChangeSpec := { name := "keysParses", fn := fun _ => fun
  | [d1, d2] => { results := [.lit (.bool false)], args := [d1, d2] }
  | _ => none }
def KeysParsesWrongFalsely : Prop := keysParsesRow.holds Tryd.pinned (OpenSpec.ofChange keysParsesWrong)

/-- 'burgagelaw06.KeysBytes': WHATEVER THE INPUT: true; the input reads as it did. -/
def keysBytesSpec : ChangeSpec := { name := "keysBytes", fn := fun _ => fun
  | [d1, d2, d3] => { results := [.lit (.bool true)], args := [d1, d2, d3] }
  | _ => none }
def keysBytesRow : OpenClaim := { program := "ytelpjhdglgledaadoor", sum := "a0ea51213ecf30d57aa2db1eb91dce462b08baf6e5cbb3bc86bb6eb96b14b2e3", func := "burgage/burgagelaw06.KeysBytes", spec := "keysBytes", unfollowed := true, recurses := true, named := ["burgage/sponge.words"], apart := false, laid := [("burgage/sponge.words", laid_burgage_sponge_words)] }
def KeysBytesSaid : Prop := keysBytesRow.holds Tryd.pinned (OpenSpec.ofChange keysBytesSpec)

/-- ITS FALSE NEIGHBOUR: 'it returns false'. Refute it at one input. -/
def keysBytesWrong : ChangeSpec := { name := "keysBytes", fn := fun _ => fun
  | [d1, d2, d3] => { results := [.lit (.bool false)], args := [d1, d2, d3] }
  | _ => none }
def KeysBytesWrongFalsely : Prop := keysBytesRow.holds Tryd.pinned (OpenSpec.ofChange keysBytesWrong)

/- THE SECOND FORM. 'bulk': how many values and letters a reading holds, each counted each time it is reached (what is shared counts as often as it is met; a slice's spare places count too). A statement '..UptoSaid' is the law's where the arguments, and the package variables that the reading takes, are together of bulk at most 1048576: NARROWER than '..Said'. Prove '..Said' where nothing that the law and all that it calls make is longer than what came in: it says more and counts as full. Else prove '..UptoSaid'. A law counts once. -/
mutual
def uptoBulk {H : Type} : DataW H → Nat
  | .lit (.string bytes) => bytes.length + 1
  | .lit _ => 1
  | .nil => 1
  | .ptr d => uptoBulk d + 1
  | .slice elems spare => uptoBulkAll elems + uptoBulkAll spare + 1
  | .agg parts => uptoBulkAll parts + 1
  | .iface _ d => uptoBulk d + 1
  | .map entries => uptoBulkEntries entries + 1
  | .held _ => 1
def uptoBulkAll {H : Type} : List (DataW H) → Nat
  | [] => 0
  | d :: r => uptoBulk d + uptoBulkAll r
def uptoBulkEntries {H : Type} : List (Lit × DataW H) → Nat
  | [] => 0
  | x :: r => uptoBulkEntry x + uptoBulkEntries r
def uptoBulkEntry {H : Type} : Lit × DataW H → Nat
  | (.string bytes, d) => bytes.length + uptoBulk d + 1
  | (_, d) => uptoBulk d + 1
 end
def uptoSmall : (H : Type) → List (DataW H) → Bool := fun _ ds => decide (uptoBulkAll ds ≤ 1048576)
def OpenSpec.upto (s : _root_.Go.ChangeSpec) : _root_.Go.OpenSpec := { _root_.Go.OpenSpec.ofChange s with cond := some uptoSmall }

/-- 'burgagelaw06.KeysDestroys', WHERE WHAT IT READS IS OF BULK AT MOST 1048576: true; the input reads as it did. -/
def keysDestroysUptoRow : OpenClaim := { program := "ytelpjhdglgledaadoor", sum := "a0ea51213ecf30d57aa2db1eb91dce462b08baf6e5cbb3bc86bb6eb96b14b2e3", func := "burgage/burgagelaw06.KeysDestroys", spec := "keysDestroys", unfollowed := true, recurses := true, named := ["burgage/sponge.words"], apart := false, laid := [("burgage/sponge.words", laid_burgage_sponge_words)], narrowed := true }
def KeysDestroysUptoSaid : Prop := keysDestroysUptoRow.holds Tryd.pinned (OpenSpec.upto keysDestroysSpec)

/-- 'burgagelaw06.KeysOrders', WHERE WHAT IT READS IS OF BULK AT MOST 1048576: true; the input reads as it did. -/
def keysOrdersUptoRow : OpenClaim := { program := "ytelpjhdglgledaadoor", sum := "a0ea51213ecf30d57aa2db1eb91dce462b08baf6e5cbb3bc86bb6eb96b14b2e3", func := "burgage/burgagelaw06.KeysOrders", spec := "keysOrders", unfollowed := true, recurses := true, named := ["burgage/sponge.words"], apart := false, laid := [("burgage/sponge.words", laid_burgage_sponge_words)], narrowed := true }
def KeysOrdersUptoSaid : Prop := keysOrdersUptoRow.holds Tryd.pinned (OpenSpec.upto keysOrdersSpec)

/-- 'burgagelaw06.KeysCovers', WHERE WHAT IT READS IS OF BULK AT MOST 1048576: true; the input reads as it did. -/
def keysCoversUptoRow : OpenClaim := { program := "ytelpjhdglgledaadoor", sum := "a0ea51213ecf30d57aa2db1eb91dce462b08baf6e5cbb3bc86bb6eb96b14b2e3", func := "burgage/burgagelaw06.KeysCovers", spec := "keysCovers", unfollowed := true, recurses := true, named := ["burgage/sponge.words"], apart := false, laid := [("burgage/sponge.words", laid_burgage_sponge_words)], narrowed := true }
def KeysCoversUptoSaid : Prop := keysCoversUptoRow.holds Tryd.pinned (OpenSpec.upto keysCoversSpec)

/-- 'burgagelaw06.KeysUnions', WHERE WHAT IT READS IS OF BULK AT MOST 1048576: true; the input reads as it did. -/
def keysUnionsUptoRow : OpenClaim := { program := "ytelpjhdglgledaadoor", sum := "a0ea51213ecf30d57aa2db1eb91dce462b08baf6e5cbb3bc86bb6eb96b14b2e3", func := "burgage/burgagelaw06.KeysUnions", spec := "keysUnions", unfollowed := true, recurses := true, named := ["burgage/sponge.words"], apart := false, laid := [("burgage/sponge.words", laid_burgage_sponge_words)], narrowed := true }
def KeysUnionsUptoSaid : Prop := keysUnionsUptoRow.holds Tryd.pinned (OpenSpec.upto keysUnionsSpec)

/-- 'burgagelaw06.KeysFollow', WHERE WHAT IT READS IS OF BULK AT MOST 1048576: true; the input reads as it did. -/
def keysFollowUptoRow : OpenClaim := { program := "ytelpjhdglgledaadoor", sum := "a0ea51213ecf30d57aa2db1eb91dce462b08baf6e5cbb3bc86bb6eb96b14b2e3", func := "burgage/burgagelaw06.KeysFollow", spec := "keysFollow", unfollowed := true, recurses := true, named := ["burgage/sponge.words"], apart := false, laid := [("burgage/sponge.words", laid_burgage_sponge_words)], narrowed := true }
def KeysFollowUptoSaid : Prop := keysFollowUptoRow.holds Tryd.pinned (OpenSpec.upto keysFollowSpec)

/-- 'burgagelaw06.KeysMatchesReference', WHERE WHAT IT READS IS OF BULK AT MOST 1048576: true; the input reads as it did. -/
def keysMatchesReferenceUptoRow : OpenClaim := { program := "ytelpjhdglgledaadoor", sum := "a0ea51213ecf30d57aa2db1eb91dce462b08baf6e5cbb3bc86bb6eb96b14b2e3", func := "burgage/burgagelaw06.KeysMatchesReference", spec := "keysMatchesReference", unfollowed := true, recurses := true, named := ["burgage/sponge.words"], apart := false, laid := [("burgage/sponge.words", laid_burgage_sponge_words)], narrowed := true }
def KeysMatchesReferenceUptoSaid : Prop := keysMatchesReferenceUptoRow.holds Tryd.pinned (OpenSpec.upto keysMatchesReferenceSpec)

/-- 'burgagelaw06.KeysParses', WHERE WHAT IT READS IS OF BULK AT MOST 1048576: true; the input reads as it did. -/
def keysParsesUptoRow : OpenClaim := { program := "ytelpjhdglgledaadoor", sum := "a0ea51213ecf30d57aa2db1eb91dce462b08baf6e5cbb3bc86bb6eb96b14b2e3", func := "burgage/burgagelaw06.KeysParses", spec := "keysParses", unfollowed := true, recurses := true, named := ["burgage/sponge.words"], apart := false, laid := [("burgage/sponge.words", laid_burgage_sponge_words)], narrowed := true }
def KeysParsesUptoSaid : Prop := keysParsesUptoRow.holds Tryd.pinned (OpenSpec.upto keysParsesSpec)

/-- 'burgagelaw06.KeysBytes', WHERE WHAT IT READS IS OF BULK AT MOST 1048576: true; the input reads as it did. -/
def keysBytesUptoRow : OpenClaim := { program := "ytelpjhdglgledaadoor", sum := "a0ea51213ecf30d57aa2db1eb91dce462b08baf6e5cbb3bc86bb6eb96b14b2e3", func := "burgage/burgagelaw06.KeysBytes", spec := "keysBytes", unfollowed := true, recurses := true, named := ["burgage/sponge.words"], apart := false, laid := [("burgage/sponge.words", laid_burgage_sponge_words)], narrowed := true }
def KeysBytesUptoSaid : Prop := keysBytesUptoRow.holds Tryd.pinned (OpenSpec.upto keysBytesSpec)

end Rows
end Go.Proofs.YtelpjhdglgledaaDoor
