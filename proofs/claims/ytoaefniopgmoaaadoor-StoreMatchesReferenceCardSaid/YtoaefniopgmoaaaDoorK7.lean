/- Contracts from the kit's own, for functions that leave the old memory as it was. -/
import Derived.Test.YtoaefniopgmoaaaDoorK6
import Derived.Below
namespace Go.Bu
open Go.RowKit
theorem flat_one {n : Nat} {g : Nat → List Value} {x : Nat → Value} (h : ∀ i, i < n → g i = [x i]) : flat n g = (List.range n).map x := by
 induction n with
 | zero => rfl
 | succ n ih => rw [flat, ih fun i hi => h i (by omega), h n (by omega), List.range_succ, List.map_append]; rfl
end Go.Bu

