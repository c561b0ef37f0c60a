/- A step, and disks made by steps. -/
import Derived.Test.YtoaefniopgmoaaaDoorK22
namespace Go.Bu.W
open Sp
abbrev rwA (ex ez : Bool) (x : Rw) : AV := .st [u8 x.k, u8 x.i, u8 x.s, .dat x.b.length ex 1 (rowL x.b), bA ez x.dn]
def rw0 : Rw := ⟨0, 0, 0, [], []⟩
def rwAt (l : List Rw) (i : Nat) : Rw := l.getD i rw0
abbrev rwsA (ex : Bool) (e1 e2 : Nat → Bool) (l : List Rw) : AV := .dat l.length ex 5 (fun i => rwA (e1 i) (e2 i) (rwAt l i))
def toRw : AV → Rw
  | .st [k, i, s, .dat n _ _ f, y] => ⟨asN k, asN i, asN s, bytesL n f, bLs y⟩
  | _ => rw0
def toRws : AV → List Rw
  | .dat n _ _ f => (List.range n).map fun i => toRw (f i)
  | _ => []
def crStep : List AV → Option (AV × List (Nat × Blk))
  | [x, y] => some (dkA false false (stepD (toDk x) (toRw y)), [])
  | _ => none
def crMade : List AV → Option (AV × List (Nat × Blk))
  | [x, n] => some (dkA false false (madeN (toRws x) (min (asI n).toNat (toRws x).length)), [])
  | _ => none
def crT7 (g : Nat) (args : List AV) (H : List (Nat × Blk)) : Option (AV × List (Nat × Blk)) :=
  sel (Nat.beq g F_rstep) (crStep args) <| sel (Nat.beq g F_made) (crMade args) <| crT5 g args H
theorem toRw_A (ea eb : Bool) (x : Rw) : toRw (rwA ea eb x) = x := by
  have e2 : bLs (bA eb x.dn) = x.dn := by
    apply List.ext_getElem
    · simp [bLs]
    · intro i h1 h2
      simp [bLs, asB, List.getD_eq_getElem?_getD, List.getElem?_eq_getElem h2]
  show Rw.mk x.k x.i x.s (bytesL x.b.length (rowL x.b)) (bLs (bA eb x.dn)) = x
  rw [bytesL_row, e2]
theorem bLs_A (eb : Bool) (l : List Bool) : bLs (bA eb l) = l := congrArg Rw.dn (toRw_A false eb ⟨0, 0, 0, [], l⟩)
theorem take20 (b : List Nat) : bytesL (Int.toNat (Min.min (((List.length b) : Nat) : Int) (20 : Int))) (fun (i : Nat) => (AV.v (Value.int IntKind.u8 (((List.getD b (0 + i) 0) : Nat) : Int)))) = b.take 20 := by
  have e : Int.toNat (Min.min (((List.length b) : Nat) : Int) (20 : Int)) = min b.length 20 := by omega
  rw [e]
  apply List.ext_getElem
  · simp [bytesL]; omega
  · intro i h1 h2
    rw [List.length_take] at h2
    simp [bytesL, dN, asN, List.getD_eq_getElem?_getD, List.getElem?_eq_getElem (show i < b.length by omega)]
structure OkRw (x : Rw) : Prop where
  k : x.k < 256
  i : x.i < 256
  s : x.s < 256
  b : Small x.b
theorem sm_take (b : List Nat) : simR some (AV.dat (Int.toNat (Min.min (((List.length b) : Nat) : Int) (20 : Int))) false 1 (fun (i : Nat) => (AV.v (Value.int IntKind.u8 (((List.getD b (0 + i) 0) : Nat) : Int))))) (dbA false (b.take 20)) := by
  refine sm_dat' (by rw [List.length_take]; omega) (by simp) fun i hi => ?_
  show u8 (b.getD (0 + i) 0) = u8 ((b.take 20).getD i 0)
  rw [Nat.zero_add, List.getD_eq_getElem?_getD, List.getD_eq_getElem?_getD, List.getElem?_take_of_lt (by omega)]
theorem rwAt_lt {l : List Rw} {i : Nat} (h : i < l.length) : rwAt l i = l[i] := by
  unfold rwAt
  rw [List.getD_eq_getElem?_getD, List.getElem?_eq_getElem h]; rfl
end Go.Bu.W


