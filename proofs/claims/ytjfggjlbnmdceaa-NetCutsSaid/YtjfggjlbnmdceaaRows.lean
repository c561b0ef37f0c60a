/-
  No cell of these rows narrows 'for every input' (looked for: loops, veiled, ifaces, maps, wideKeys, modest, calm, conditions, laid).
  DERIVED. THE GIVEN ROWS OF THIS SEAT. 8 by the template 'for every input the law returns true; each argument reads behind the call as it read before'; 0 by the template 'total and deterministic' (their statements: YtjfggjlbnmdceaaTotals.lean).
  GIVEN WITH THE SEED: the statements are not yours to turn. If you find one false, say at which input.
  Laid BY PROGRAM, IN A SANDBOX (cutbox-rows.mjs): the forced cells as the released guide's own fill.sh prints them over the translation 5b11c690ae2a567c… (all of the seat's roots in one cut). By AI agents, Wed Nov 11 2026. No macro, syntax, notation, axiom, sorry.
-/
import Derived.Test.YtjfggjlbnmdceaaChecked
import GoSem.Claim
import GoSem.ClaimJoined
import GoSem.ClaimMapViews
import Derived.JoinedTies
import Derived.KernelRfl
namespace Go.Proofs.Ytjfggjlbnmdceaa
/- THE CELL 'sum', in the pinned program and in every row, IS THE sha256 OF THE DUMP (.gsa) THAT YtjfggjlbnmdceaaProg.lean LOADS. Nothing in Lean hashes anything: it is a label: what it is worth is what the hold of that sum in a sandbox is worth. -/
noncomputable def Try.pinned : Pinned := { name := "ytjfggjlbnmdceaa", sum := "5b11c690ae2a567c6581ed8caed2dc51cf1a43f9fbfb7d7fe1a27cd7a1ae829a", checked := Try.checked }
namespace Rows
def none {H : Type} : Left H := { results := [], args := [] }

/-- 'burgagelaw32.NetMatchesReference': WHATEVER THE INPUT: true; the input reads as it did. -/
def netMatchesReferenceSpec : ChangeSpec := { name := "netMatchesReference", fn := fun _ => fun
  | [d1, d2, d3] => { results := [.lit (.bool true)], args := [d1, d2, d3] }
  | _ => none }
def netMatchesReferenceRow : OpenClaim := { program := "ytjfggjlbnmdceaa", sum := "5b11c690ae2a567c6581ed8caed2dc51cf1a43f9fbfb7d7fe1a27cd7a1ae829a", func := "burgage/burgagelaw32.NetMatchesReference", spec := "netMatchesReference", inPlace := ["slices.overlaps[[2]int]"], unfollowed := true, recurses := true, apart := false }
def NetMatchesReferenceSaid : Prop := netMatchesReferenceRow.holds Try.pinned (OpenSpec.ofChange netMatchesReferenceSpec)

/-- ITS FALSE NEIGHBOUR: 'it returns false'. Refute it at one input. -/
def netMatchesReferenceWrong : ChangeSpec := { name := "netMatchesReference", fn := fun _ => fun
  | [d1, d2, d3] => { results := [.lit (.bool false)], args := [d1, d2, d3] }
  | _ => none }
def NetMatchesReferenceWrongFalsely : Prop := netMatchesReferenceRow.holds Try.pinned (OpenSpec.ofChange netMatchesReferenceWrong)

/-- 'burgagelaw32.NetScripts': WHATEVER THE INPUT: true; the input reads as it did. -/
def netScriptsSpec : ChangeSpec := { name := "netScripts", fn := fun _ => fun
  | [d] => { results := [.lit (.bool true)], args := [d] }
  | _ => none }
def netScriptsRow : OpenClaim := { program := "ytjfggjlbnmdceaa", sum := "5b11c690ae2a567c6581ed8caed2dc51cf1a43f9fbfb7d7fe1a27cd7a1ae829a", func := "burgage/burgagelaw32.NetScripts", spec := "netScripts", inPlace := ["slices.overlaps[[2]int]"], unfollowed := true, recurses := true, apart := false }
def NetScriptsSaid : Prop := netScriptsRow.holds Try.pinned (OpenSpec.ofChange netScriptsSpec)

/-- ITS FALSE NEIGHBOUR: 'it returns false'. Refute it at one input. -/
def netScriptsWrong : ChangeSpec := { name := "netScripts", fn := fun _ => fun
  | [d] => { results := [.lit (.bool false)], args := [d] }
  | _ => none }
def NetScriptsWrongFalsely : Prop := netScriptsRow.holds Try.pinned (OpenSpec.ofChange netScriptsWrong)

/-- 'burgagelaw32.NetOnce': WHATEVER THE INPUT: true; the input reads as it did. -/
def netOnceSpec : ChangeSpec := { name := "netOnce", fn := fun _ => fun
  | [d1, d2] => { results := [.lit (.bool true)], args := [d1, d2] }
  | _ => none }
def netOnceRow : OpenClaim := { program := "ytjfggjlbnmdceaa", sum := "5b11c690ae2a567c6581ed8caed2dc51cf1a43f9fbfb7d7fe1a27cd7a1ae829a", func := "burgage/burgagelaw32.NetOnce", spec := "netOnce", inPlace := ["slices.overlaps[[2]int]"], unfollowed := true, recurses := true, apart := false }
def NetOnceSaid : Prop := netOnceRow.holds Try.pinned (OpenSpec.ofChange netOnceSpec)

/-- ITS FALSE NEIGHBOUR: 'it returns false'. Refute it at one input. -/
def netOnceWrong : ChangeSpec := { name := "netOnce", fn := fun _ => fun
  | [d1, d2] => { results := [.lit (.bool false)], args := [d1, d2] }
  | _ => none }
def NetOnceWrongFalsely : Prop := netOnceRow.holds Try.pinned (OpenSpec.ofChange netOnceWrong)

/-- 'burgagelaw32.NetCuts': WHATEVER THE INPUT: true; the input reads as it did. -/
def netCutsSpec : ChangeSpec := { name := "netCuts", fn := fun _ => fun
  | [d1, d2] => { results := [.lit (.bool true)], args := [d1, d2] }
  | _ => none }
def netCutsRow : OpenClaim := { program := "ytjfggjlbnmdceaa", sum := "5b11c690ae2a567c6581ed8caed2dc51cf1a43f9fbfb7d7fe1a27cd7a1ae829a", func := "burgage/burgagelaw32.NetCuts", spec := "netCuts", inPlace := ["slices.overlaps[[2]int]"], unfollowed := true, recurses := true, apart := false }
def NetCutsSaid : Prop := netCutsRow.holds Try.pinned (OpenSpec.ofChange netCutsSpec)

/-- ITS FALSE NEIGHBOUR: 'it returns false'. Refute it at one input. -/
def netCutsWrong : ChangeSpec := { name := "netCuts", fn := fun _ => fun
  | [d1, d2] => { results := [.lit (.bool false)], args := [d1, d2] }
  | _ => none }
def NetCutsWrongFalsely : Prop := netCutsRow.holds Try.pinned (OpenSpec.ofChange netCutsWrong)

/-- 'burgagelaw32.NetLoses': WHATEVER THE INPUT: true; the input reads as it did. -/
def netLosesSpec : ChangeSpec := { name := "netLoses", fn := fun _ => fun
  | [d1, d2] => { results := [.lit (.bool true)], args := [d1, d2] }
  | _ => none }
def netLosesRow : OpenClaim := { program := "ytjfggjlbnmdceaa", sum := "5b11c690ae2a567c6581ed8caed2dc51cf1a43f9fbfb7d7fe1a27cd7a1ae829a", func := "burgage/burgagelaw32.NetLoses", spec := "netLoses", inPlace := ["slices.overlaps[[2]int]"], unfollowed := true, recurses := true, apart := false }
def NetLosesSaid : Prop := netLosesRow.holds Try.pinned (OpenSpec.ofChange netLosesSpec)

/-- ITS FALSE NEIGHBOUR: 'it returns false'. Refute it at one input. -/
def netLosesWrong : ChangeSpec := { name := "netLoses", fn := fun _ => fun
  | [d1, d2] => { results := [.lit (.bool false)], args := [d1, d2] }
  | _ => none }
def NetLosesWrongFalsely : Prop := netLosesRow.holds Try.pinned (OpenSpec.ofChange netLosesWrong)

/-- 'burgagelaw32.NetDoubles': WHATEVER THE INPUT: true; the input reads as it did. -/
def netDoublesSpec : ChangeSpec := { name := "netDoubles", fn := fun _ => fun
  | [d1, d2, d3] => { results := [.lit (.bool true)], args := [d1, d2, d3] }
  | _ => none }
def netDoublesRow : OpenClaim := { program := "ytjfggjlbnmdceaa", sum := "5b11c690ae2a567c6581ed8caed2dc51cf1a43f9fbfb7d7fe1a27cd7a1ae829a", func := "burgage/burgagelaw32.NetDoubles", spec := "netDoubles", inPlace := ["slices.overlaps[[2]int]"], unfollowed := true, recurses := true, apart := false }
def NetDoublesSaid : Prop := netDoublesRow.holds Try.pinned (OpenSpec.ofChange netDoublesSpec)

/-- ITS FALSE NEIGHBOUR: 'it returns false'. Refute it at one input. -/
def netDoublesWrong : ChangeSpec := { name := "netDoubles", fn := fun _ => fun
  | [d1, d2, d3] => { results := [.lit (.bool false)], args := [d1, d2, d3] }
  | _ => none }
def NetDoublesWrongFalsely : Prop := netDoublesRow.holds Try.pinned (OpenSpec.ofChange netDoublesWrong)

/-- 'burgagelaw32.NetCounts': WHATEVER THE INPUT: true; the input reads as it did. -/
def netCountsSpec : ChangeSpec := { name := "netCounts", fn := fun _ => fun
  | [d] => { results := [.lit (.bool true)], args := [d] }
  | _ => none }
def netCountsRow : OpenClaim := { program := "ytjfggjlbnmdceaa", sum := "5b11c690ae2a567c6581ed8caed2dc51cf1a43f9fbfb7d7fe1a27cd7a1ae829a", func := "burgage/burgagelaw32.NetCounts", spec := "netCounts", inPlace := ["slices.overlaps[[2]int]"], unfollowed := true, recurses := true, apart := false }
def NetCountsSaid : Prop := netCountsRow.holds Try.pinned (OpenSpec.ofChange netCountsSpec)

/-- ITS FALSE NEIGHBOUR: 'it returns false'. Refute it at one input. -/
def netCountsWrong : ChangeSpec := { name := "netCounts", fn := fun _ => fun
  | [d] => { results := [.lit (.bool false)], args := [d] }
  | _ => none }
def NetCountsWrongFalsely : Prop := netCountsRow.holds Try.pinned (OpenSpec.ofChange netCountsWrong)

/-- 'burgagelaw32.NetLimits': WHATEVER THE INPUT: true; the input reads as it did. -/
def netLimitsSpec : ChangeSpec := { name := "netLimits", fn := fun _ => fun
  | [d1, d2] => { results := [.lit (.bool true)], args := [d1, d2] }
  | _ => none }
def netLimitsRow : OpenClaim := { program := "ytjfggjlbnmdceaa", sum := "5b11c690ae2a567c6581ed8caed2dc51cf1a43f9fbfb7d7fe1a27cd7a1ae829a", func := "burgage/burgagelaw32.NetLimits", spec := "netLimits", inPlace := ["slices.overlaps[[2]int]"], unfollowed := true, recurses := true, apart := false }
def NetLimitsSaid : Prop := netLimitsRow.holds Try.pinned (OpenSpec.ofChange netLimitsSpec)

/-- ITS FALSE NEIGHBOUR: 'it returns false'. Refute it at one input. -/
def netLimitsWrong : ChangeSpec := { name := "netLimits", fn := fun _ => fun
  | [d1, d2] => { results := [.lit (.bool false)], args := [d1, d2] }
  | _ => none }
def NetLimitsWrongFalsely : Prop := netLimitsRow.holds Try.pinned (OpenSpec.ofChange netLimitsWrong)

/- THE SECOND FORM. 'bulk': how many values and letters a reading holds, each counted each time it is reached (what is shared counts as often as it is met; a slice's spare places count too). A statement '..UptoSaid' is the law's where the arguments, and the package variables that the reading takes, are together of bulk at most 1048576: NARROWER than '..Said'. Prove '..Said' where nothing that the law and all that it calls make is longer than what came in: it says more and counts as full. Else prove '..UptoSaid'. A law counts once. -/
mutual
def uptoBulk {H : Type} : DataW H → Nat
  | .lit (.string bytes) => bytes.length + 1
  | .lit _ => 1
  | .nil => 1
  | .ptr d => uptoBulk d + 1
  | .slice elems spare => uptoBulkAll elems + uptoBulkAll spare + 1
  | .agg parts => uptoBulkAll parts + 1
  | .iface _ d => uptoBulk d + 1
  | .map entries => uptoBulkEntries entries + 1
  | .held _ => 1
def uptoBulkAll {H : Type} : List (DataW H) → Nat
  | [] => 0
  | d :: r => uptoBulk d + uptoBulkAll r
def uptoBulkEntries {H : Type} : List (Lit × DataW H) → Nat
  | [] => 0
  | x :: r => uptoBulkEntry x + uptoBulkEntries r
def uptoBulkEntry {H : Type} : Lit × DataW H → Nat
  | (.string bytes, d) => bytes.length + uptoBulk d + 1
  | (_, d) => uptoBulk d + 1
 end
def uptoSmall : (H : Type) → List (DataW H) → Bool := fun _ ds => decide (uptoBulkAll ds ≤ 1048576)
def OpenSpec.upto (s : _root_.Go.ChangeSpec) : _root_.Go.OpenSpec := { _root_.Go.OpenSpec.ofChange s with cond := some uptoSmall }

/-- 'burgagelaw32.NetMatchesReference', WHERE WHAT IT READS IS OF BULK AT MOST 1048576: true; the input reads as it did. -/
def netMatchesReferenceUptoRow : OpenClaim := { program := "ytjfggjlbnmdceaa", sum := "5b11c690ae2a567c6581ed8caed2dc51cf1a43f9fbfb7d7fe1a27cd7a1ae829a", func := "burgage/burgagelaw32.NetMatchesReference", spec := "netMatchesReference", inPlace := ["slices.overlaps[[2]int]"], unfollowed := true, recurses := true, apart := false, narrowed := true }
def NetMatchesReferenceUptoSaid : Prop := netMatchesReferenceUptoRow.holds Try.pinned (OpenSpec.upto netMatchesReferenceSpec)

/-- 'burgagelaw32.NetScripts', WHERE WHAT IT READS IS OF BULK AT MOST 1048576: true; the input reads as it did. -/
def netScriptsUptoRow : OpenClaim := { program := "ytjfggjlbnmdceaa", sum := "5b11c690ae2a567c6581ed8caed2dc51cf1a43f9fbfb7d7fe1a27cd7a1ae829a", func := "burgage/burgagelaw32.NetScripts", spec := "netScripts", inPlace := ["slices.overlaps[[2]int]"], unfollowed := true, recurses := true, apart := false, narrowed := true }
def NetScriptsUptoSaid : Prop := netScriptsUptoRow.holds Try.pinned (OpenSpec.upto netScriptsSpec)

/-- 'burgagelaw32.NetOnce', WHERE WHAT IT READS IS OF BULK AT MOST 1048576: true; the input reads as it did. -/
def netOnceUptoRow : OpenClaim := { program := "ytjfggjlbnmdceaa", sum := "5b11c690ae2a567c6581ed8caed2dc51cf1a43f9fbfb7d7fe1a27cd7a1ae829a", func := "burgage/burgagelaw32.NetOnce", spec := "netOnce", inPlace := ["slices.overlaps[[2]int]"], unfollowed := true, recurses := true, apart := false, narrowed := true }
def NetOnceUptoSaid : Prop := netOnceUptoRow.holds Try.pinned (OpenSpec.upto netOnceSpec)

/-- 'burgagelaw32.NetCuts', WHERE WHAT IT READS IS OF BULK AT MOST 1048576: true; the input reads as it did. -/
def netCutsUptoRow : OpenClaim := { program := "ytjfggjlbnmdceaa", sum := "5b11c690ae2a567c6581ed8caed2dc51cf1a43f9fbfb7d7fe1a27cd7a1ae829a", func := "burgage/burgagelaw32.NetCuts", spec := "netCuts", inPlace := ["slices.overlaps[[2]int]"], unfollowed := true, recurses := true, apart := false, narrowed := true }
def NetCutsUptoSaid : Prop := netCutsUptoRow.holds Try.pinned (OpenSpec.upto netCutsSpec)

/-- 'burgagelaw32.NetLoses', WHERE WHAT IT READS IS OF BULK AT MOST 1048576: true; the input reads as it did. -/
def netLosesUptoRow : OpenClaim := { program := "ytjfggjlbnmdceaa", sum := "5b11c690ae2a567c6581ed8caed2dc51cf1a43f9fbfb7d7fe1a27cd7a1ae829a", func := "burgage/burgagelaw32.NetLoses", spec := "netLoses", inPlace := ["slices.overlaps[[2]int]"], unfollowed := true, recurses := true, apart := false, narrowed := true }
def NetLosesUptoSaid : Prop := netLosesUptoRow.holds Try.pinned (OpenSpec.upto netLosesSpec)

/-- 'burgagelaw32.NetDoubles', WHERE WHAT IT READS IS OF BULK AT MOST 1048576: true; the input reads as it did. -/
def netDoublesUptoRow : OpenClaim := { program := "ytjfggjlbnmdceaa", sum := "5b11c690ae2a567c6581ed8caed2dc51cf1a43f9fbfb7d7fe1a27cd7a1ae829a", func := "burgage/burgagelaw32.NetDoubles", spec := "netDoubles", inPlace := ["slices.overlaps[[2]int]"], unfollowed := true, recurses := true, apart := false, narrowed := true }
def NetDoublesUptoSaid : Prop := netDoublesUptoRow.holds Try.pinned (OpenSpec.upto netDoublesSpec)

/-- 'burgagelaw32.NetCounts', WHERE WHAT IT READS IS OF BULK AT MOST 1048576: true; the input reads as it did. -/
def netCountsUptoRow : OpenClaim := { program := "ytjfggjlbnmdceaa", sum := "5b11c690ae2a567c6581ed8caed2dc51cf1a43f9fbfb7d7fe1a27cd7a1ae829a", func := "burgage/burgagelaw32.NetCounts", spec := "netCounts", inPlace := ["slices.overlaps[[2]int]"], unfollowed := true, recurses := true, apart := false, narrowed := true }
def NetCountsUptoSaid : Prop := netCountsUptoRow.holds Try.pinned (OpenSpec.upto netCountsSpec)

/-- 'burgagelaw32.NetLimits', WHERE WHAT IT READS IS OF BULK AT MOST 1048576: true; the input reads as it did. -/
def netLimitsUptoRow : OpenClaim := { program := "ytjfggjlbnmdceaa", sum := "5b11c690ae2a567c6581ed8caed2dc51cf1a43f9fbfb7d7fe1a27cd7a1ae829a", func := "burgage/burgagelaw32.NetLimits", spec := "netLimits", inPlace := ["slices.overlaps[[2]int]"], unfollowed := true, recurses := true, apart := false, narrowed := true }
def NetLimitsUptoSaid : Prop := netLimitsUptoRow.holds Try.pinned (OpenSpec.upto netLimitsSpec)

end Rows
end Go.Proofs.Ytjfggjlbnmdceaa
