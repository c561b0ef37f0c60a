/-
  No cell of these rows narrows 'for every input' (looked for: loops, veiled, ifaces, maps, wideKeys, modest, calm, conditions, laid).
  DERIVED. THE GIVEN ROWS OF THIS SEAT. 7 by the template 'for every input the law returns true; each argument reads behind the call as it read before'; 0 by the template 'total and deterministic' (their statements: YtaabgmjgldinpaaTotals.lean).
  GIVEN WITH THE SEED: the statements are not yours to turn. If you find one false, say at which input.
  Laid BY PROGRAM, IN A SANDBOX (cutbox-rows.mjs): the forced cells as the released guide's own fill.sh prints them over the translation a27d94ab79b5dc97… (all of the seat's roots in one cut). By AI agents, Wed Nov 11 2026. No macro, syntax, notation, axiom, sorry.
-/
import Derived.Test.YtaabgmjgldinpaaChecked
import GoSem.Claim
import GoSem.ClaimJoined
import GoSem.ClaimMapViews
import Derived.JoinedTies
import Derived.KernelRfl
namespace Go.Proofs.Ytaabgmjgldinpaa
/- THE CELL 'sum', in the pinned program and in every row, IS THE sha256 OF THE DUMP (.gsa) THAT YtaabgmjgldinpaaProg.lean LOADS. Nothing in Lean hashes anything: it is a label: what it is worth is what the hold of that sum in a sandbox is worth. -/
noncomputable def Try.pinned : Pinned := { name := "ytaabgmjgldinpaa", sum := "a27d94ab79b5dc9739678bf5169418b20f2fe587087d2e60119e942b789b1c33", checked := Try.checked }
namespace Rows
def none {H : Type} : Left H := { results := [], args := [] }

/-- 'burgagelaw19.SessionOnce': WHATEVER THE INPUT: true; the input reads as it did. -/
def sessionOnceSpec : ChangeSpec := { name := "sessionOnce", fn := fun _ => fun
  | [d] => { results := [.lit (.bool true)], args := [d] }
  | _ => none }
def sessionOnceRow : OpenClaim := { program := "ytaabgmjgldinpaa", sum := "a27d94ab79b5dc9739678bf5169418b20f2fe587087d2e60119e942b789b1c33", func := "burgage/burgagelaw19.SessionOnce", spec := "sessionOnce", inPlace := ["slices.overlaps[burgage/api.Session]"], unfollowed := true, recurses := true, apart := false }
def SessionOnceSaid : Prop := sessionOnceRow.holds Try.pinned (OpenSpec.ofChange sessionOnceSpec)

/-- ITS FALSE NEIGHBOUR: 'it returns false'. Refute it at one input. -/
def sessionOnceWrong : ChangeSpec := { name := "sessionOnce", fn := fun _ => fun
  | [d] => { results := [.lit (.bool false)], args := [d] }
  | _ => none }
def SessionOnceWrongFalsely : Prop := sessionOnceRow.holds Try.pinned (OpenSpec.ofChange sessionOnceWrong)

/-- 'burgagelaw19.SessionReplies': WHATEVER THE INPUT: true; the input reads as it did. -/
def sessionRepliesSpec : ChangeSpec := { name := "sessionReplies", fn := fun _ => fun
  | [d1, d2, d3] => { results := [.lit (.bool true)], args := [d1, d2, d3] }
  | _ => none }
def sessionRepliesRow : OpenClaim := { program := "ytaabgmjgldinpaa", sum := "a27d94ab79b5dc9739678bf5169418b20f2fe587087d2e60119e942b789b1c33", func := "burgage/burgagelaw19.SessionReplies", spec := "sessionReplies", inPlace := ["slices.overlaps[burgage/api.Session]"], unfollowed := true, recurses := true, apart := false }
def SessionRepliesSaid : Prop := sessionRepliesRow.holds Try.pinned (OpenSpec.ofChange sessionRepliesSpec)

/-- ITS FALSE NEIGHBOUR: 'it returns false'. Refute it at one input. -/
def sessionRepliesWrong : ChangeSpec := { name := "sessionReplies", fn := fun _ => fun
  | [d1, d2, d3] => { results := [.lit (.bool false)], args := [d1, d2, d3] }
  | _ => none }
def SessionRepliesWrongFalsely : Prop := sessionRepliesRow.holds Try.pinned (OpenSpec.ofChange sessionRepliesWrong)

/-- 'burgagelaw19.SessionSame': WHATEVER THE INPUT: true; the input reads as it did. -/
def sessionSameSpec : ChangeSpec := { name := "sessionSame", fn := fun _ => fun
  | [d1, d2] => { results := [.lit (.bool true)], args := [d1, d2] }
  | _ => none }
def sessionSameRow : OpenClaim := { program := "ytaabgmjgldinpaa", sum := "a27d94ab79b5dc9739678bf5169418b20f2fe587087d2e60119e942b789b1c33", func := "burgage/burgagelaw19.SessionSame", spec := "sessionSame", inPlace := ["slices.overlaps[burgage/api.Session]"], unfollowed := true, recurses := true, apart := false }
def SessionSameSaid : Prop := sessionSameRow.holds Try.pinned (OpenSpec.ofChange sessionSameSpec)

/-- ITS FALSE NEIGHBOUR: 'it returns false'. Refute it at one input. -/
def sessionSameWrong : ChangeSpec := { name := "sessionSame", fn := fun _ => fun
  | [d1, d2] => { results := [.lit (.bool false)], args := [d1, d2] }
  | _ => none }
def SessionSameWrongFalsely : Prop := sessionSameRow.holds Try.pinned (OpenSpec.ofChange sessionSameWrong)

/-- 'burgagelaw19.SessionMatchesReference': WHATEVER THE INPUT: true; the input reads as it did. -/
def sessionMatchesReferenceSpec : ChangeSpec := { name := "sessionMatchesReference", fn := fun _ => fun
  | [d1, d2, d3] => { results := [.lit (.bool true)], args := [d1, d2, d3] }
  | _ => none }
def sessionMatchesReferenceRow : OpenClaim := { program := "ytaabgmjgldinpaa", sum := "a27d94ab79b5dc9739678bf5169418b20f2fe587087d2e60119e942b789b1c33", func := "burgage/burgagelaw19.SessionMatchesReference", spec := "sessionMatchesReference", inPlace := ["slices.overlaps[burgage/api.Session]"], unfollowed := true, recurses := true, apart := false }
def SessionMatchesReferenceSaid : Prop := sessionMatchesReferenceRow.holds Try.pinned (OpenSpec.ofChange sessionMatchesReferenceSpec)

/-- ITS FALSE NEIGHBOUR: 'it returns false'. Refute it at one input. -/
def sessionMatchesReferenceWrong : ChangeSpec := { name := "sessionMatchesReference", fn := fun _ => fun
  | [d1, d2, d3] => { results := [.lit (.bool false)], args := [d1, d2, d3] }
  | _ => none }
def SessionMatchesReferenceWrongFalsely : Prop := sessionMatchesReferenceRow.holds Try.pinned (OpenSpec.ofChange sessionMatchesReferenceWrong)

/-- 'burgagelaw19.SessionApart': WHATEVER THE INPUT: true; the input reads as it did. -/
def sessionApartSpec : ChangeSpec := { name := "sessionApart", fn := fun _ => fun
  | [d1, d2] => { results := [.lit (.bool true)], args := [d1, d2] }
  | _ => none }
def sessionApartRow : OpenClaim := { program := "ytaabgmjgldinpaa", sum := "a27d94ab79b5dc9739678bf5169418b20f2fe587087d2e60119e942b789b1c33", func := "burgage/burgagelaw19.SessionApart", spec := "sessionApart", inPlace := ["slices.overlaps[burgage/api.Session]"], unfollowed := true, recurses := true, apart := false }
def SessionApartSaid : Prop := sessionApartRow.holds Try.pinned (OpenSpec.ofChange sessionApartSpec)

/-- ITS FALSE NEIGHBOUR: 'it returns false'. Refute it at one input. -/
def sessionApartWrong : ChangeSpec := { name := "sessionApart", fn := fun _ => fun
  | [d1, d2] => { results := [.lit (.bool false)], args := [d1, d2] }
  | _ => none }
def SessionApartWrongFalsely : Prop := sessionApartRow.holds Try.pinned (OpenSpec.ofChange sessionApartWrong)

/-- 'burgagelaw19.SessionLists': WHATEVER THE INPUT: true; the input reads as it did. -/
def sessionListsSpec : ChangeSpec := { name := "sessionLists", fn := fun _ => fun
  | [d1, d2] => { results := [.lit (.bool true)], args := [d1, d2] }
  | _ => none }
def sessionListsRow : OpenClaim := { program := "ytaabgmjgldinpaa", sum := "a27d94ab79b5dc9739678bf5169418b20f2fe587087d2e60119e942b789b1c33", func := "burgage/burgagelaw19.SessionLists", spec := "sessionLists", inPlace := ["slices.overlaps[burgage/api.Session]"], unfollowed := true, recurses := true, apart := false }
def SessionListsSaid : Prop := sessionListsRow.holds Try.pinned (OpenSpec.ofChange sessionListsSpec)

/-- ITS FALSE NEIGHBOUR: 'it returns false'. Refute it at one input. -/
def sessionListsWrong : ChangeSpec := { name := "sessionLists", fn := fun _ => fun
  | [d1, d2] => { results := [.lit (.bool false)], args := [d1, d2] }
  | _ => none }
def SessionListsWrongFalsely : Prop := sessionListsRow.holds Try.pinned (OpenSpec.ofChange sessionListsWrong)

/-- 'burgagelaw19.SessionRefuses': WHATEVER THE INPUT: true; the input reads as it did. -/
def sessionRefusesSpec : ChangeSpec := { name := "sessionRefuses", fn := fun _ => fun
  | [d1, d2, d3] => { results := [.lit (.bool true)], args := [d1, d2, d3] }
  | _ => none }
def sessionRefusesRow : OpenClaim := { program := "ytaabgmjgldinpaa", sum := "a27d94ab79b5dc9739678bf5169418b20f2fe587087d2e60119e942b789b1c33", func := "burgage/burgagelaw19.SessionRefuses", spec := "sessionRefuses", inPlace := ["slices.overlaps[burgage/api.Session]"], unfollowed := true, recurses := true, apart := false }
def SessionRefusesSaid : Prop := sessionRefusesRow.holds Try.pinned (OpenSpec.ofChange sessionRefusesSpec)

/-- ITS FALSE NEIGHBOUR: 'it returns false'. Refute it at one input. -/
def sessionRefusesWrong : ChangeSpec := { name := "sessionRefuses", fn := fun _ => fun
  | [d1, d2, d3] => { results := [.lit (.bool false)], args := [d1, d2, d3] }
  | _ => none }
def SessionRefusesWrongFalsely : Prop := sessionRefusesRow.holds Try.pinned (OpenSpec.ofChange sessionRefusesWrong)

/- THE SECOND FORM. 'bulk': how many values and letters a reading holds, each counted each time it is reached (what is shared counts as often as it is met; a slice's spare places count too). A statement '..UptoSaid' is the law's where the arguments, and the package variables that the reading takes, are together of bulk at most 1048576: NARROWER than '..Said'. Prove '..Said' where nothing that the law and all that it calls make is longer than what came in: it says more and counts as full. Else prove '..UptoSaid'. A law counts once. -/
mutual
def uptoBulk {H : Type} : DataW H → Nat
  | .lit (.string bytes) => bytes.length + 1
  | .lit _ => 1
  | .nil => 1
  | .ptr d => uptoBulk d + 1
  | .slice elems spare => uptoBulkAll elems + uptoBulkAll spare + 1
  | .agg parts => uptoBulkAll parts + 1
  | .iface _ d => uptoBulk d + 1
  | .map entries => uptoBulkEntries entries + 1
  | .held _ => 1
def uptoBulkAll {H : Type} : List (DataW H) → Nat
  | [] => 0
  | d :: r => uptoBulk d + uptoBulkAll r
def uptoBulkEntries {H : Type} : List (Lit × DataW H) → Nat
  | [] => 0
  | x :: r => uptoBulkEntry x + uptoBulkEntries r
def uptoBulkEntry {H : Type} : Lit × DataW H → Nat
  | (.string bytes, d) => bytes.length + uptoBulk d + 1
  | (_, d) => uptoBulk d + 1
 end
def uptoSmall : (H : Type) → List (DataW H) → Bool := fun _ ds => decide (uptoBulkAll ds ≤ 1048576)
def OpenSpec.upto (s : _root_.Go.ChangeSpec) : _root_.Go.OpenSpec := { _root_.Go.OpenSpec.ofChange s with cond := some uptoSmall }

/-- 'burgagelaw19.SessionOnce', WHERE WHAT IT READS IS OF BULK AT MOST 1048576: true; the input reads as it did. -/
def sessionOnceUptoRow : OpenClaim := { program := "ytaabgmjgldinpaa", sum := "a27d94ab79b5dc9739678bf5169418b20f2fe587087d2e60119e942b789b1c33", func := "burgage/burgagelaw19.SessionOnce", spec := "sessionOnce", inPlace := ["slices.overlaps[burgage/api.Session]"], unfollowed := true, recurses := true, apart := false, narrowed := true }
def SessionOnceUptoSaid : Prop := sessionOnceUptoRow.holds Try.pinned (OpenSpec.upto sessionOnceSpec)

/-- 'burgagelaw19.SessionReplies', WHERE WHAT IT READS IS OF BULK AT MOST 1048576: true; the input reads as it did. -/
def sessionRepliesUptoRow : OpenClaim := { program := "ytaabgmjgldinpaa", sum := "a27d94ab79b5dc9739678bf5169418b20f2fe587087d2e60119e942b789b1c33", func := "burgage/burgagelaw19.SessionReplies", spec := "sessionReplies", inPlace := ["slices.overlaps[burgage/api.Session]"], unfollowed := true, recurses := true, apart := false, narrowed := true }
def SessionRepliesUptoSaid : Prop := sessionRepliesUptoRow.holds Try.pinned (OpenSpec.upto sessionRepliesSpec)

/-- 'burgagelaw19.SessionSame', WHERE WHAT IT READS IS OF BULK AT MOST 1048576: true; the input reads as it did. -/
def sessionSameUptoRow : OpenClaim := { program := "ytaabgmjgldinpaa", sum := "a27d94ab79b5dc9739678bf5169418b20f2fe587087d2e60119e942b789b1c33", func := "burgage/burgagelaw19.SessionSame", spec := "sessionSame", inPlace := ["slices.overlaps[burgage/api.Session]"], unfollowed := true, recurses := true, apart := false, narrowed := true }
def SessionSameUptoSaid : Prop := sessionSameUptoRow.holds Try.pinned (OpenSpec.upto sessionSameSpec)

/-- 'burgagelaw19.SessionMatchesReference', WHERE WHAT IT READS IS OF BULK AT MOST 1048576: true; the input reads as it did. -/
def sessionMatchesReferenceUptoRow : OpenClaim := { program := "ytaabgmjgldinpaa", sum := "a27d94ab79b5dc9739678bf5169418b20f2fe587087d2e60119e942b789b1c33", func := "burgage/burgagelaw19.SessionMatchesReference", spec := "sessionMatchesReference", inPlace := ["slices.overlaps[burgage/api.Session]"], unfollowed := true, recurses := true, apart := false, narrowed := true }
def SessionMatchesReferenceUptoSaid : Prop := sessionMatchesReferenceUptoRow.holds Try.pinned (OpenSpec.upto sessionMatchesReferenceSpec)

/-- 'burgagelaw19.SessionApart', WHERE WHAT IT READS IS OF BULK AT MOST 1048576: true; the input reads as it did. -/
def sessionApartUptoRow : OpenClaim := { program := "ytaabgmjgldinpaa", sum := "a27d94ab79b5dc9739678bf5169418b20f2fe587087d2e60119e942b789b1c33", func := "burgage/burgagelaw19.SessionApart", spec := "sessionApart", inPlace := ["slices.overlaps[burgage/api.Session]"], unfollowed := true, recurses := true, apart := false, narrowed := true }
def SessionApartUptoSaid : Prop := sessionApartUptoRow.holds Try.pinned (OpenSpec.upto sessionApartSpec)

/-- 'burgagelaw19.SessionLists', WHERE WHAT IT READS IS OF BULK AT MOST 1048576: true; the input reads as it did. -/
def sessionListsUptoRow : OpenClaim := { program := "ytaabgmjgldinpaa", sum := "a27d94ab79b5dc9739678bf5169418b20f2fe587087d2e60119e942b789b1c33", func := "burgage/burgagelaw19.SessionLists", spec := "sessionLists", inPlace := ["slices.overlaps[burgage/api.Session]"], unfollowed := true, recurses := true, apart := false, narrowed := true }
def SessionListsUptoSaid : Prop := sessionListsUptoRow.holds Try.pinned (OpenSpec.upto sessionListsSpec)

/-- 'burgagelaw19.SessionRefuses', WHERE WHAT IT READS IS OF BULK AT MOST 1048576: true; the input reads as it did. -/
def sessionRefusesUptoRow : OpenClaim := { program := "ytaabgmjgldinpaa", sum := "a27d94ab79b5dc9739678bf5169418b20f2fe587087d2e60119e942b789b1c33", func := "burgage/burgagelaw19.SessionRefuses", spec := "sessionRefuses", inPlace := ["slices.overlaps[burgage/api.Session]"], unfollowed := true, recurses := true, apart := false, narrowed := true }
def SessionRefusesUptoSaid : Prop := sessionRefusesUptoRow.holds Try.pinned (OpenSpec.upto sessionRefusesSpec)

end Rows
end Go.Proofs.Ytaabgmjgldinpaa
