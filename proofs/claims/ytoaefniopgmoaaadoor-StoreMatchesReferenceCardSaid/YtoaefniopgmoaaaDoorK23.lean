/- A step, and disks made by steps. -/
import Derived.Test.YtoaefniopgmoaaaDoorK22
namespace Go.Bu.W
open Sp
abbrev rwA (ex ez : Bool) (x : Rw) : AV := .st [u8 x.k, u8 x.i, u8 x.s, .dat x.b.length ex 1 (rowL x.b), bA ez x.dn]
def rw0 : Rw := ⟨0, 0, 0, [], []⟩
def rwAt (l : List Rw) (i : Nat) : Rw := l.getD i rw0
abbrev rwsA (ex : Bool) (e1 e2 : Nat → Bool) (l : List Rw) : AV := .dat l.length ex 5 (fun i => rwA (e1 i) (e2 i) (rwAt l i))
def toRw : AV → Rw
 | .st [k, i, s, .dat n _ _ f, y] => ⟨asN k, asN i, asN s, bytesL n f, bLs y⟩
 | _ => rw0
def toRws : AV → List Rw
 | .dat n _ _ f => (List.range n).map fun i => toRw (f i)
 | _ => []
def crStep : List AV → Option (AV × List (Nat × Blk))
 | [x, y] => some (dkA false false (stepD (toDk x) (toRw y)), [])
 | _ => none
def crMade : List AV → Option (AV × List (Nat × Blk))
 | [x, n] => some (dkA false false (madeN (toRws x) (min (asI n).toNat (toRws x).length)), [])
 | _ => none
def crT7 (g : Nat) (args : List AV) (H : List (Nat × Blk)) : Option (AV × List (Nat × Blk)) :=
 sel (Nat.beq g F_rstep) (crStep args) <| sel (Nat.beq g F_made) (crMade args) <| crT5 g args H
def wayA7 (keep : List Nat) (nt : Nat) (cuts : List Nat) : Way := ⟨crT7, fun _ => false, keep, [], nt, cuts, []⟩
def w_rstep : Way := wayA7 [0, 1, 2, 3, 4, 5, 15, 16, 33, 40, 45] 66 [8]
def w_made : Way := wayA7 [0, 1, 4, 5, 6, 16] 26 []
def I_md (ex : Bool) (e1 e2 : Nat → Bool) (l : List Rw) (n : Nat) (f : Nat → Dk) (i : Nat) : St := { tm := [(0, rwsA ex e1 e2 l), (1, .i n), (4, .ptr 4 []), (5, .ptr 5 []), (6, .i i)], hp := [(4, .c (.st [nilS, nilS])), (5, .c (dkA false false (f i)))], seen := [4, 5] }
def S_rs8 (ex ey : Bool) (d : Dk) (ea eb : Bool) (x : Rw) : St := { tm := [(2, .ptr 2 []), (3, .ptr 3 []), (4, .ptr 4 []), (5, dbA false (x.b.take 20))], hp := [(2, .c (dkA ex ey d)), (3, .c (rwA ea eb x)), (4, .c (.st [nilS, nilS]))], seen := [2, 3, 4] }
theorem rstep_A (ex ey : Bool) (d : Dk) (ea eb : Bool) (x : Rw) {D : Dom} (K : Nat) (Φ : Ex → St → Prop) :
 (Holds C P 66 D K Φ (vc C w_rstep b_rstep [] (start [dkA ex ey d, rwA ea eb x] []) lf)) =
 ((((0 : Int) ≤ (0 : Int)) ∧ (((0 : Int) ≤ (Min.min (((List.length (Rw.b x)) : Nat) : Int) (20 : Int))) ∧ ((Min.min (((List.length (Rw.b x)) : Nat) : Int) (20 : Int)) ≤ (((List.length (Rw.b x)) : Nat) : Int)))) ∧
 (((10 : Int) ≠ (0 : Int)) ∧
 (((((((Rw.k x) % 10) : Nat) : Int) == (0 : Int)) = true →
 (∃ (S2 : St), Ent C 66 D K (St.mk [(0, (dkA ex ey d)), (1, (rwA ea eb x)), (2, (AV.ptr 2 [])), (3, (AV.ptr 3 [])), (4, (AV.ptr 4 [])), (5, (AV.dat (Int.toNat (Min.min (((List.length (Rw.b x)) : Nat) : Int) (20 : Int))) Bool.false 1 (fun (i : Nat) => (AV.v (Value.int IntKind.u8 (((List.getD (Rw.b x) (0 + i) 0) : Nat) : Int)))))), (15, (AV.v (Value.int IntKind.u8 ((((Rw.k x) % 10) : Nat) : Int)))), (16, (AV.v (Value.bool true)))] [(2, (Blk.c (dkA ex ey d))), (3, (Blk.c (rwA ea eb x))), (4, (Blk.c (AV.st [(AV.dat 0 true 0 (fun (x1 : Nat) => (AV.v (Value.tuple #[])))), (AV.dat 0 true 0 (fun (x1 : Nat) => (AV.v (Value.tuple #[]))))])))] [4, 3, 2]) S2 ∧ Holds C P 66 D K Φ (cutAt C w_rstep b_rstep [1, 1, 0, 1, 0, 1, 0, 0] S2 (after C w_rstep b_rstep [1, 1, 0, 1, 0, 1, 0, 0] [] lf)))) ∧
 ((((((Rw.k x) % 10) : Nat) : Int) == (0 : Int)) = false →
 (((((((Rw.k x) % 10) : Nat) : Int) == (1 : Int)) = true →
 (∃ (S2 : St), Ent C 66 D K (St.mk [(0, (dkA ex ey d)), (1, (rwA ea eb x)), (2, (AV.ptr 2 [])), (3, (AV.ptr 3 [])), (4, (AV.ptr 4 [])), (5, (AV.dat (Int.toNat (Min.min (((List.length (Rw.b x)) : Nat) : Int) (20 : Int))) Bool.false 1 (fun (i : Nat) => (AV.v (Value.int IntKind.u8 (((List.getD (Rw.b x) (0 + i) 0) : Nat) : Int)))))), (15, (AV.v (Value.int IntKind.u8 ((((Rw.k x) % 10) : Nat) : Int)))), (16, (AV.v (Value.bool true)))] [(2, (Blk.c (dkA ex ey d))), (3, (Blk.c (rwA ea eb x))), (4, (Blk.c (AV.st [(AV.dat 0 true 0 (fun (x1 : Nat) => (AV.v (Value.tuple #[])))), (AV.dat 0 true 0 (fun (x1 : Nat) => (AV.v (Value.tuple #[]))))])))] [4, 3, 2]) S2 ∧ Holds C P 66 D K Φ (cutAt C w_rstep b_rstep [1, 1, 0, 1, 0, 1, 0, 0] S2 (after C w_rstep b_rstep [1, 1, 0, 1, 0, 1, 0, 0] [] lf)))) ∧
 ((((((Rw.k x) % 10) : Nat) : Int) == (1 : Int)) = false →
 (((((((Rw.k x) % 10) : Nat) : Int) == (2 : Int)) = true →
 (∃ (S2 : St), Ent C 66 D K (St.mk [(0, (dkA ex ey d)), (1, (rwA ea eb x)), (2, (AV.ptr 2 [])), (3, (AV.ptr 3 [])), (4, (AV.ptr 4 [])), (5, (AV.dat (Int.toNat (Min.min (((List.length (Rw.b x)) : Nat) : Int) (20 : Int))) Bool.false 1 (fun (i : Nat) => (AV.v (Value.int IntKind.u8 (((List.getD (Rw.b x) (0 + i) 0) : Nat) : Int)))))), (15, (AV.v (Value.int IntKind.u8 ((((Rw.k x) % 10) : Nat) : Int)))), (16, (AV.v (Value.bool true)))] [(2, (Blk.c (dkA ex ey d))), (3, (Blk.c (rwA ea eb x))), (4, (Blk.c (AV.st [(AV.dat 0 true 0 (fun (x1 : Nat) => (AV.v (Value.tuple #[])))), (AV.dat 0 true 0 (fun (x1 : Nat) => (AV.v (Value.tuple #[]))))])))] [4, 3, 2]) S2 ∧ Holds C P 66 D K Φ (cutAt C w_rstep b_rstep [1, 1, 0, 1, 0, 1, 0, 0] S2 (after C w_rstep b_rstep [1, 1, 0, 1, 0, 1, 0, 0] [] lf)))) ∧
 ((((((Rw.k x) % 10) : Nat) : Int) == (2 : Int)) = false →
 (((((((Rw.k x) % 10) : Nat) : Int) == (3 : Int)) = true →
 (∃ (S2 : St), Ent C 66 D K (St.mk [(0, (dkA ex ey d)), (1, (rwA ea eb x)), (2, (AV.ptr 2 [])), (3, (AV.ptr 3 [])), (4, (AV.ptr 4 [])), (5, (AV.dat (Int.toNat (Min.min (((List.length (Rw.b x)) : Nat) : Int) (20 : Int))) Bool.false 1 (fun (i : Nat) => (AV.v (Value.int IntKind.u8 (((List.getD (Rw.b x) (0 + i) 0) : Nat) : Int)))))), (15, (AV.v (Value.int IntKind.u8 ((((Rw.k x) % 10) : Nat) : Int)))), (16, (AV.v (Value.bool true)))] [(2, (Blk.c (dkA ex ey d))), (3, (Blk.c (rwA ea eb x))), (4, (Blk.c (AV.st [(AV.dat 0 true 0 (fun (x1 : Nat) => (AV.v (Value.tuple #[])))), (AV.dat 0 true 0 (fun (x1 : Nat) => (AV.v (Value.tuple #[]))))])))] [4, 3, 2]) S2 ∧ Holds C P 66 D K Φ (cutAt C w_rstep b_rstep [1, 1, 0, 1, 0, 1, 0, 0] S2 (after C w_rstep b_rstep [1, 1, 0, 1, 0, 1, 0, 0] [] lf)))) ∧
 ((((((Rw.k x) % 10) : Nat) : Int) == (3 : Int)) = false →
 (((((((Rw.k x) % 10) : Nat) : Int) == (4 : Int)) = true →
 (∃ (S2 : St), Ent C 66 D K (St.mk [(0, (dkA ex ey d)), (1, (rwA ea eb x)), (2, (AV.ptr 2 [])), (3, (AV.ptr 3 [])), (4, (AV.ptr 4 [])), (5, (AV.dat (Int.toNat (Min.min (((List.length (Rw.b x)) : Nat) : Int) (20 : Int))) Bool.false 1 (fun (i : Nat) => (AV.v (Value.int IntKind.u8 (((List.getD (Rw.b x) (0 + i) 0) : Nat) : Int)))))), (15, (AV.v (Value.int IntKind.u8 ((((Rw.k x) % 10) : Nat) : Int)))), (16, (AV.v (Value.bool true)))] [(2, (Blk.c (dkA ex ey d))), (3, (Blk.c (rwA ea eb x))), (4, (Blk.c (AV.st [(AV.dat 0 true 0 (fun (x1 : Nat) => (AV.v (Value.tuple #[])))), (AV.dat 0 true 0 (fun (x1 : Nat) => (AV.v (Value.tuple #[]))))])))] [4, 3, 2]) S2 ∧ Holds C P 66 D K Φ (cutAt C w_rstep b_rstep [1, 1, 0, 1, 0, 1, 0, 0] S2 (after C w_rstep b_rstep [1, 1, 0, 1, 0, 1, 0, 0] [] lf)))) ∧
 ((((((Rw.k x) % 10) : Nat) : Int) == (4 : Int)) = false →
 (((((((Rw.k x) % 10) : Nat) : Int) == (5 : Int)) = true →
 (Fun C P 13 [(AV.v (Value.int IntKind.u8 (((Rw.i x) : Nat) : Int)))] [] (AV.i (idN (Rw.i x))) [] ∧
 (True ∧
 (Fun C P 33 [(dkA ex ey d), (AV.i (idN (Rw.i x)))] [] (dkA false false (dropD (toDk (dkA ex ey d)) (idN (Rw.i x)))) [] ∧
 ((((true = true) ∧ (true = true)) ∧ (((true = true) ∧ (true = true)) ∧ True)) ∧
 (Φ Ex.ret (St.mk [(0, (dkA ex ey d)), (1, (rwA ea eb x)), (2, (AV.ptr 2 [])), (3, (AV.ptr 3 [])), (4, (AV.ptr 4 [])), (5, (AV.dat (Int.toNat (Min.min (((List.length (Rw.b x)) : Nat) : Int) (20 : Int))) Bool.false 1 (fun (i : Nat) => (AV.v (Value.int IntKind.u8 (((List.getD (Rw.b x) (0 + i) 0) : Nat) : Int)))))), (15, (AV.v (Value.int IntKind.u8 ((((Rw.k x) % 10) : Nat) : Int)))), (16, (AV.v (Value.bool false))), (33, (AV.v (Value.bool true)))] [(2, (Blk.c (dkA ex ey d))), (3, (Blk.c (rwA ea eb x))), (4, (Blk.c (dkA false false (dropD (toDk (dkA ex ey d)) (idN (Rw.i x))))))] [4, 3, 2]))))))) ∧
 ((((((Rw.k x) % 10) : Nat) : Int) == (5 : Int)) = false →
 (((((((Rw.k x) % 10) : Nat) : Int) == (6 : Int)) = true →
 (Fun C P 28 [(dkA ex ey d)] [] (AV.st [(csA false (Dk.l (syncD (toDk (dkA ex ey d))))), (jsA false ([] : List Jb))]) [] ∧
 ((((true = true) ∧ (true = true)) ∧ (((true = true) ∧ (true = true)) ∧ True)) ∧
 (Φ Ex.ret (St.mk [(0, (dkA ex ey d)), (1, (rwA ea eb x)), (2, (AV.ptr 2 [])), (3, (AV.ptr 3 [])), (4, (AV.ptr 4 [])), (5, (AV.dat (Int.toNat (Min.min (((List.length (Rw.b x)) : Nat) : Int) (20 : Int))) Bool.false 1 (fun (i : Nat) => (AV.v (Value.int IntKind.u8 (((List.getD (Rw.b x) (0 + i) 0) : Nat) : Int)))))), (15, (AV.v (Value.int IntKind.u8 ((((Rw.k x) % 10) : Nat) : Int)))), (16, (AV.v (Value.bool false))), (33, (AV.v (Value.bool false))), (40, (AV.v (Value.bool true)))] [(2, (Blk.c (dkA ex ey d))), (3, (Blk.c (rwA ea eb x))), (4, (Blk.c (AV.st [(csA false (Dk.l (syncD (toDk (dkA ex ey d))))), (jsA false ([] : List Jb))])))] [4, 3, 2]))))) ∧
 ((((((Rw.k x) % 10) : Nat) : Int) == (6 : Int)) = false →
 (((((((Rw.k x) % 10) : Nat) : Int) == (7 : Int)) = true →
 (Fun C P 28 [(dkA ex ey d)] [] (AV.st [(csA false (Dk.l (syncD (toDk (dkA ex ey d))))), (jsA false ([] : List Jb))]) [] ∧
 ((((true = true) ∧ (true = true)) ∧ (((true = true) ∧ (true = true)) ∧ True)) ∧
 (Φ Ex.ret (St.mk [(0, (dkA ex ey d)), (1, (rwA ea eb x)), (2, (AV.ptr 2 [])), (3, (AV.ptr 3 [])), (4, (AV.ptr 4 [])), (5, (AV.dat (Int.toNat (Min.min (((List.length (Rw.b x)) : Nat) : Int) (20 : Int))) Bool.false 1 (fun (i : Nat) => (AV.v (Value.int IntKind.u8 (((List.getD (Rw.b x) (0 + i) 0) : Nat) : Int)))))), (15, (AV.v (Value.int IntKind.u8 ((((Rw.k x) % 10) : Nat) : Int)))), (16, (AV.v (Value.bool false))), (33, (AV.v (Value.bool false))), (40, (AV.v (Value.bool true)))] [(2, (Blk.c (dkA ex ey d))), (3, (Blk.c (rwA ea eb x))), (4, (Blk.c (AV.st [(csA false (Dk.l (syncD (toDk (dkA ex ey d))))), (jsA false ([] : List Jb))])))] [4, 3, 2]))))) ∧
 ((((((Rw.k x) % 10) : Nat) : Int) == (7 : Int)) = false →
 (((((((Rw.k x) % 10) : Nat) : Int) == (8 : Int)) = true →
 ((I64 (((Rw.i x) : Nat) : Int)) ∧
 (((4 : Int) ≠ (0 : Int)) ∧
 ((I64 (((Rw.s x) : Nat) : Int)) ∧
 (((4 : Int) ≠ (0 : Int)) ∧
 (((7 : Int) ≠ (0 : Int)) ∧
 (Fun C P 34 [(dkA ex ey d), (AV.i ((((Rw.i x) % 4) : Nat) : Int)), (AV.i ((((Rw.s x) % 4) : Nat) : Int)), (AV.v (Value.int IntKind.u8 (IntKind.wrap IntKind.u8 (((1 + ((Rw.s x) % 7)) : Nat) : Int))))] [] (AV.st [(dkA false false (rotD (toDk (dkA ex ey d)) ((((Rw.i x) % 4) : Nat) : Int) ((((Rw.s x) % 4) : Nat) : Int) (Int.toNat (IntKind.wrap IntKind.u8 (((1 + ((Rw.s x) % 7)) : Nat) : Int))))), (AV.i (rotE (toDk (dkA ex ey d)) ((((Rw.i x) % 4) : Nat) : Int) ((((Rw.s x) % 4) : Nat) : Int)))]) [] ∧
 ((((true = true) ∧ (true = true)) ∧ (((true = true) ∧ (true = true)) ∧ True)) ∧
 (Φ Ex.ret (St.mk [(0, (dkA ex ey d)), (1, (rwA ea eb x)), (2, (AV.ptr 2 [])), (3, (AV.ptr 3 [])), (4, (AV.ptr 4 [])), (5, (AV.dat (Int.toNat (Min.min (((List.length (Rw.b x)) : Nat) : Int) (20 : Int))) Bool.false 1 (fun (i : Nat) => (AV.v (Value.int IntKind.u8 (((List.getD (Rw.b x) (0 + i) 0) : Nat) : Int)))))), (15, (AV.v (Value.int IntKind.u8 ((((Rw.k x) % 10) : Nat) : Int)))), (16, (AV.v (Value.bool false))), (33, (AV.v (Value.bool false))), (40, (AV.v (Value.bool false))), (45, (AV.v (Value.bool true)))] [(2, (Blk.c (dkA ex ey d))), (3, (Blk.c (rwA ea eb x))), (4, (Blk.c (dkA false false (rotD (toDk (dkA ex ey d)) ((((Rw.i x) % 4) : Nat) : Int) ((((Rw.s x) % 4) : Nat) : Int) (Int.toNat (IntKind.wrap IntKind.u8 (((1 + ((Rw.s x) % 7)) : Nat) : Int)))))))] [4, 3, 2])))))))))) ∧
 ((((((Rw.k x) % 10) : Nat) : Int) == (8 : Int)) = false →
 (Fun C P 35 [(dkA ex ey d), (bA eb (Rw.dn x))] [] (AV.st [(csA false (Dk.l (crashD (toDk (dkA ex ey d)) (bLs (bA eb (Rw.dn x)))))), (jsA false ([] : List Jb))]) [] ∧
 ((((true = true) ∧ (true = true)) ∧ (((true = true) ∧ (true = true)) ∧ True)) ∧
 (Φ Ex.ret (St.mk [(0, (dkA ex ey d)), (1, (rwA ea eb x)), (2, (AV.ptr 2 [])), (3, (AV.ptr 3 [])), (4, (AV.ptr 4 [])), (5, (AV.dat (Int.toNat (Min.min (((List.length (Rw.b x)) : Nat) : Int) (20 : Int))) Bool.false 1 (fun (i : Nat) => (AV.v (Value.int IntKind.u8 (((List.getD (Rw.b x) (0 + i) 0) : Nat) : Int)))))), (15, (AV.v (Value.int IntKind.u8 ((((Rw.k x) % 10) : Nat) : Int)))), (16, (AV.v (Value.bool false))), (33, (AV.v (Value.bool false))), (40, (AV.v (Value.bool false))), (45, (AV.v (Value.bool false)))] [(2, (Blk.c (dkA ex ey d))), (3, (Blk.c (rwA ea eb x))), (4, (Blk.c (AV.st [(csA false (Dk.l (crashD (toDk (dkA ex ey d)) (bLs (bA eb (Rw.dn x)))))), (jsA false ([] : List Jb))])))] [4, 3, 2])))))))))))))))))))))))) := by kernel_rfl
theorem rstep_C8 (ex ey : Bool) (d : Dk) (ea eb : Bool) (x : Rw) {D : Dom} (K : Nat) (Φ : Ex → St → Prop) :
 (Holds C P 66 D K Φ (cutAt C w_rstep b_rstep [1, 1, 0, 1, 0, 1, 0, 0] (S_rs8 ex ey d ea eb x) (after C w_rstep b_rstep [1, 1, 0, 1, 0, 1, 0, 0] [] lf))) =
 (Fun C P 13 [(AV.v (Value.int IntKind.u8 (((Rw.i x) : Nat) : Int)))] [] (AV.i (idN (Rw.i x))) [] ∧
 (True ∧
 (((4 : Int) ≠ (0 : Int)) ∧
 ((I64 ((((Rw.s x) % 4) : Nat) : Int)) ∧
 (Fun C P 32 [(dkA ex ey d), (AV.i (idN (Rw.i x))), (AV.i ((((Rw.s x) % 4) : Nat) : Int)), (AV.dat (List.length (List.take 20 (Rw.b x))) false 1 (rowL (List.take 20 (Rw.b x))))] [] (AV.st [(dkA false false (putD (toDk (dkA ex ey d)) (idN (Rw.i x)) ((((Rw.s x) % 4) : Nat) : Int) (bytesL (List.length (List.take 20 (Rw.b x))) (rowL (List.take 20 (Rw.b x)))))), (AV.i (putE (idN (Rw.i x)) ((((Rw.s x) % 4) : Nat) : Int) (bytesL (List.length (List.take 20 (Rw.b x))) (rowL (List.take 20 (Rw.b x))))))]) [] ∧
 ((((true = true) ∧ (true = true)) ∧ (((true = true) ∧ (true = true)) ∧ True)) ∧
 (Φ Ex.ret (St.mk [(2, (AV.ptr 2 [])), (3, (AV.ptr 3 [])), (4, (AV.ptr 4 [])), (5, (AV.dat (List.length (List.take 20 (Rw.b x))) false 1 (rowL (List.take 20 (Rw.b x)))))] [(2, (Blk.c (dkA ex ey d))), (3, (Blk.c (rwA ea eb x))), (4, (Blk.c (dkA false false (putD (toDk (dkA ex ey d)) (idN (Rw.i x)) ((((Rw.s x) % 4) : Nat) : Int) (bytesL (List.length (List.take 20 (Rw.b x))) (rowL (List.take 20 (Rw.b x))))))))] [2, 3, 4])))))))) := by kernel_rfl
theorem made_A (ex : Bool) (e1 e2 : Nat → Bool) (l : List Rw) (n : Nat) {D : Dom} (K : Nat) (Φ : Ex → St → Prop) :
 (Holds C P 26 D K Φ (vc C w_made b_made [] (start [rwsA ex e1 e2 l, .i n] []) lf)) =
 ((((true = true) ∧ (true = true)) ∧ (((true = true) ∧ (true = true)) ∧ True)) ∧
 (LoopOK C P 26 D K (bodyAt b_made [1, 1, 0, 1, 0]) (St.mk [(0, (AV.dat (List.length l) ex 5 (fun (i : Nat) => (rwA (e1 i) (e2 i) (rwAt l i))))), (1, (AV.i ((n : Nat) : Int))), (4, (AV.ptr 4 [])), (5, (AV.ptr 5 [])), (6, (AV.i (0 : Int)))] [(4, (Blk.c (AV.st [(AV.dat 0 true 0 (fun (x : Nat) => (AV.v (Value.tuple #[])))), (AV.dat 0 true 0 (fun (x : Nat) => (AV.v (Value.tuple #[]))))]))), (5, (Blk.c (AV.st [(AV.dat 0 true 0 (fun (x : Nat) => (AV.v (Value.tuple #[])))), (AV.dat 0 true 0 (fun (x : Nat) => (AV.v (Value.tuple #[]))))])))] [5, 4]) (fun (e : Ex) (S' : St) => Holds C P 26 D K Φ (after C w_made b_made [1, 1, 0, 1, 0] [] lf e S')))) := by kernel_rfl
noncomputable abbrev bd_made_0 : Code := bodyAt (b_made) [1, 1, 0, 1, 0]
theorem ok_made_0 : codeOK bd_made_0 = true := by kernel_rfl
noncomputable abbrev rest_made_0 (D : Dom) (K : Nat) (Φ : Ex → St → Prop) : Ex → St → Prop := fun e S' => Holds C P 26 D K Φ (after C w_made (b_made) [1, 1, 0, 1, 0] [] lf e S')
theorem made_L0 (ex : Bool) (e1 e2 : Nat → Bool) (l : List Rw) (n : Nat) (f : Nat → Dk) (i : Nat) {D : Dom} (K : Nat) (Φ : Ex → St → Prop) :
 (Holds C P 26 D K (RoundQ C 26 D K (I_md ex e1 e2 l n f) (fun i => i ≤ n ∧ i ≤ l.length) (fun i => n - i) ((fun i => n - i) (i)) (rest_made_0 D K Φ)) (vc C w_made bd_made_0 [] ((I_md ex e1 e2 l n f) (i)) lf)) =
 (((decide (((i : Nat) : Int) < (((List.length l) : Nat) : Int))) = true →
 (((decide (((i : Nat) : Int) < ((n : Nat) : Int))) = true →
 ((((0 : Int) ≤ ((i : Nat) : Int)) ∧ (((i : Nat) : Int) < (((List.length l) : Nat) : Int))) ∧
 (Fun C P 27 [(dkA false false (f i)), (rwA (e1 i) (e2 i) (rwAt l i))] [] (dkA false false (stepD (toDk (dkA false false (f i))) (toRw (rwA (e1 i) (e2 i) (rwAt l i))))) [] ∧
 ((((true = true) ∧ (true = true)) ∧ (((true = true) ∧ (true = true)) ∧ True)) ∧
 ((I64 (((i + 1) : Nat) : Int)) ∧
 ((RoundQ C 26 D K (I_md ex e1 e2 l n f) (fun i => i ≤ n ∧ i ≤ l.length) (fun i => n - i) ((fun i => n - i) (i)) (rest_made_0 D K Φ)) Ex.normal (St.mk [(0, (AV.dat (List.length l) ex 5 (fun (i1 : Nat) => (rwA (e1 i1) (e2 i1) (rwAt l i1))))), (1, (AV.i ((n : Nat) : Int))), (4, (AV.ptr 4 [])), (5, (AV.ptr 5 [])), (6, (AV.i (((i + 1) : Nat) : Int))), (16, (AV.v (Value.bool true)))] [(4, (Blk.c (AV.st [(AV.dat 0 true 0 (fun (x : Nat) => (AV.v (Value.tuple #[])))), (AV.dat 0 true 0 (fun (x : Nat) => (AV.v (Value.tuple #[]))))]))), (5, (Blk.c (dkA false false (stepD (toDk (dkA false false (f i))) (toRw (rwA (e1 i) (e2 i) (rwAt l i)))))))] [4, 5]))))))) ∧
 ((decide (((i : Nat) : Int) < ((n : Nat) : Int))) = false →
 ((((true = true) ∧ (true = true)) ∧ (((true = true) ∧ (true = true)) ∧ True)) ∧
 (Φ Ex.ret (St.mk [(0, (AV.dat (List.length l) ex 5 (fun (i1 : Nat) => (rwA (e1 i1) (e2 i1) (rwAt l i1))))), (1, (AV.i ((n : Nat) : Int))), (4, (AV.ptr 4 [])), (5, (AV.ptr 5 [])), (6, (AV.i ((i : Nat) : Int))), (16, (AV.v (Value.bool false)))] [(4, (Blk.c (dkA false false (f i)))), (5, (Blk.c (dkA false false (f i))))] [4, 5])))))) ∧
 ((decide (((i : Nat) : Int) < (((List.length l) : Nat) : Int))) = false →
 ((((true = true) ∧ (true = true)) ∧ (((true = true) ∧ (true = true)) ∧ True)) ∧
 (Φ Ex.ret (St.mk [(0, (AV.dat (List.length l) ex 5 (fun (i1 : Nat) => (rwA (e1 i1) (e2 i1) (rwAt l i1))))), (1, (AV.i ((n : Nat) : Int))), (4, (AV.ptr 4 [])), (5, (AV.ptr 5 [])), (6, (AV.i ((i : Nat) : Int))), (16, (AV.v (Value.bool false)))] [(4, (Blk.c (dkA false false (f i)))), (5, (Blk.c (dkA false false (f i))))] [4, 5]))))) := by kernel_rfl
theorem toRw_A (ea eb : Bool) (x : Rw) : toRw (rwA ea eb x) = x := by
 have e2 : bLs (bA eb x.dn) = x.dn := by
  apply List.ext_getElem
  ·simp [bLs]
  ·intro i h1 h2
   simp [bLs, asB, List.getD_eq_getElem?_getD, List.getElem?_eq_getElem h2]
 show Rw.mk x.k x.i x.s (bytesL x.b.length (rowL x.b)) (bLs (bA eb x.dn)) = x
 rw [bytesL_row, e2]
theorem bLs_A (eb : Bool) (l : List Bool) : bLs (bA eb l) = l := congrArg Rw.dn (toRw_A false eb ⟨0, 0, 0, [], l⟩)
structure OkRw (x : Rw) : Prop where
  k : x.k < 256
  i : x.i < 256
  s : x.s < 256
  b : Small x.b
theorem sm_take {m : Nat → Option Nat} (b : List Nat) : simR m (AV.dat (Int.toNat (Min.min (((List.length b) : Nat) : Int) (20 : Int))) false 1 (fun (i : Nat) => (AV.v (Value.int IntKind.u8 (((List.getD b (0 + i) 0) : Nat) : Int))))) (dbA false (b.take 20)) := by
 refine sm_dat' (by rw [List.length_take]; omega) (by simp) fun i hi => ?_
 show u8 (b.getD (0 + i) 0) = u8 ((b.take 20).getD i 0)
 rw [Nat.zero_add, List.getD_eq_getElem?_getD, List.getD_eq_getElem?_getD, List.getElem?_take_of_lt (by omega)]
theorem rstep_fun (ex ey : Bool) (d : Dk) (ea eb : Bool) (x : Rw) (hv : VD d) (hx : OkRw x) (hl : d.l.length ≤ 12) (hn : d.l.length + d.q.length < 2 ^ 30) : Fun C P F_rstep [dkA ex ey d, rwA ea eb x] [] (dkA false false (stepD d x)) [] := by
 refine in_rstep (W := w_rstep) rfl 0 (by simp) rfl (fun id h => absurd rfl h) fun D => ?_
 rw [rstep_A ex ey d ea eb x 0 _]
 rw [toDk_A, bLs_A]
 have hp := rput_fun ex ey d (idN x.i) ((x.s % 4 : Nat) : Int) false (x.b.take 20) (take_small hx.b 20) (by rw [List.length_take]; omega) (by omega)
 have hi := rid_fun x.i hx.i
 have eP : x.k % 10 < 5 → stepD d x = putD d (idN x.i) ((x.s % 4 : Nat) : Int) (x.b.take 20) := fun h => by unfold stepD; rw [if_pos h]
 have eqn : ∀ {n : Nat} {m : Int}, (((n : Nat) : Int) == m) = true → ((n : Nat) : Int) = m := fun h => by simpa using h
 have neqn : ∀ {n : Nat} {m : Int}, (((n : Nat) : Int) == m) = false → ((n : Nat) : Int) ≠ m := fun h => by simpa using h
 have sx := hx.s
 have put8 : x.k % 10 < 5 → Holds C P 66 D 0 (FunPost C 66 0 [.cell 4 27] (dkA false false (stepD d x)) []) (cutAt C w_rstep b_rstep [1, 1, 0, 1, 0, 1, 0, 0] (S_rs8 ex ey d ea eb x) (after C w_rstep b_rstep [1, 1, 0, 1, 0, 1, 0, 0] [] lf)) := fun h => by
  rw [rstep_C8 ex ey d ea eb x 0 _, toDk_A, bytesL_row, eP h]
  exact ⟨hi, trivial, by decide, (by first | omega | decide | (unfold I64; omega)), hp, TD2, post_cell rfl rfl (sm_same rfl) rfl⟩
 have ix := hx.i
 refine ⟨⟨by decide, by omega, by omega⟩, by decide, fun h => ?_, fun h0 => ⟨fun h => ?_, fun h1 => ⟨fun h => ?_, fun h2 => ⟨fun h => ?_, fun h3 => ⟨fun h => ?_, fun h4 => ⟨fun h => ?_, fun h5 => ⟨fun h => ?_, fun h6 => ⟨fun h => ?_, fun h7 => ⟨fun h => ?_, fun h8 => ?_⟩⟩⟩⟩⟩⟩⟩⟩⟩
 iterate 5
  ·have h := eqn h
   exact cut_ok (S2 := S_rs8 ex ey d ea eb x) (ent_of [(2, 2), (3, 3), (4, 4)] rfl (tm_cons rfl (sm_ptr rfl) (tm_cons rfl (sm_ptr rfl) (tm_cons rfl (sm_ptr rfl) (tm_cons rfl (sm_take x.b) tm_nil)))) (hp_cons rfl rfl (sm_same rfl) (hp_cons rfl rfl (sm_same rfl) (hp_cons rfl rfl (sm_same rfl) hp_nil)))) (put8 (by omega))
 ·have h := eqn h
  have e : stepD d x = dropD d (idN x.i) := by unfold stepD; rw [if_neg (by omega), if_pos (by omega)]
  rw [e]
  exact ⟨hi, trivial, rdrop_fun ex ey d _ (by omega), TD2, post_cell rfl rfl (sm_same rfl) rfl⟩
 ·have h := eqn h
  have e : stepD d x = syncD d := by unfold stepD; rw [if_neg (by omega), if_neg (by omega), if_pos (by omega)]
  rw [e]
  exact ⟨rsync_fun ex ey d hv.so (by omega), TD2, post_cell rfl rfl (sm_same rfl) rfl⟩
 ·have h := eqn h
  have e : stepD d x = syncD d := by unfold stepD; rw [if_neg (by omega), if_neg (by omega), if_pos (by omega)]
  rw [e]
  exact ⟨rsync_fun ex ey d hv.so (by omega), TD2, post_cell rfl rfl (sm_same rfl) rfl⟩
 ·have h := eqn h
  have e : stepD d x = rotD d (x.i % 4 : Nat) (x.s % 4 : Nat) (1 + x.s % 7) := by unfold stepD; rw [if_neg (by omega), if_neg (by omega), if_neg (by omega), if_pos (by omega)]
  have hw : IntKind.wrap IntKind.u8 (((1 + (x.s % 7)) : Nat) : Int) = ((1 + x.s % 7 : Nat) : Int) := by rw [wrap_u8]; omega
  rw [e, hw, Int.toNat_natCast]
  refine ⟨(by first | omega | decide | (unfold I64; omega)), by decide, (by first | omega | decide | (unfold I64; omega)), by decide, by decide, rrot_fun ex ey d _ _ _ (by omega) (by omega) (fun c hc => ?_), TD2, post_cell rfl rfl (sm_same rfl) rfl⟩
  have := (hv.cs c hc).2.2.2.2.1
  omega
 ·have n0 := neqn h0; have n1 := neqn h1; have n2 := neqn h2; have n3 := neqn h3; have n4 := neqn h4; have n5 := neqn h5; have n6 := neqn h6; have n7 := neqn h7; have n8 := neqn h8
  have e : stepD d x = crashD d x.dn := by unfold stepD; rw [if_neg (by omega), if_neg (by omega), if_neg (by omega), if_neg (by omega)]
  rw [e]
  exact ⟨rcrash_fun ex ey d eb x.dn hv.so (by omega), TD2, post_cell rfl rfl (sm_same rfl) rfl⟩
theorem rwAt_lt {l : List Rw} {i : Nat} (h : i < l.length) : rwAt l i = l[i] := by
 unfold rwAt
 rw [List.getD_eq_getElem?_getD, List.getElem?_eq_getElem h]; rfl
theorem toRws_A (ex : Bool) (e1 e2 : Nat → Bool) (l : List Rw) : toRws (rwsA ex e1 e2 l) = l := by
 show (List.range l.length).map (fun i => toRw (rwA (e1 i) (e2 i) (rwAt l i))) = l
 apply List.ext_getElem
 ·simp
 ·intro i h1 h2
  simp only [List.getElem_map, List.getElem_range, toRw_A]
  exact rwAt_lt h2
theorem made_fun (ex : Bool) (e1 e2 : Nat → Bool) (l : List Rw) (n : Nat) (hx : ∀ x, x ∈ l → OkRw x) (hn : n ≤ 12) : Fun C P F_made [rwsA ex e1 e2 l, .i n] [] (dkA false false (madeN l (min n l.length))) [] := by
 refine in_made (W := w_made) rfl 0 (by simp) rfl (fun id h => absurd rfl h) fun D => ?_
 refine of_eq (made_A ex e1 e2 l n 0 _) ?_
 have hsm : ∀ x, x ∈ l → Small x.b := fun x h => (hx x h).b
 refine ⟨TD2, loop_inv (W := w_made) ctx mixed ok_made_0 (I_md ex e1 e2 l n (madeN l)) (fun i => i ≤ n ∧ i ≤ l.length) (fun i => n - i) 0 ⟨Nat.zero_le _, Nat.zero_le _⟩ ?_ fun i hi => ?_⟩
 ·exact ent_of [(4, 4), (5, 5)] rfl (tm_cons rfl (sm_same rfl) (tm_cons rfl (sm_same rfl) (tm_cons rfl (sm_ptr rfl) (tm_cons rfl (sm_ptr rfl) (tm_cons rfl (sm_same rfl) tm_nil))))) (hp_cons rfl rfl (sm_same rfl) (hp_cons rfl rfl (sm_st (sms_cons (.inr ⟨rfl, by simp, .inl rfl, fun i hi => absurd hi (Nat.not_lt_zero i)⟩) (sms_cons sm_nilJ sms_nil))) hp_nil))
 obtain ⟨h1, h2⟩ := hi
 refine of_eq (made_L0 ex e1 e2 l n (madeN l) i 0 _) ⟨fun h => ⟨fun h3 => ?_, fun h3 => ?_⟩, fun h => ?_⟩
 ·simp only [decide_eq_true_eq] at h h3
  have hlt : i < l.length := by omega
  rw [toRw_A, toDk_A]
  have e : madeN l (i + 1) = stepD (madeN l i) (rwAt l i) := rfl
  have hfew := (Few.made hsm i).len
  refine ⟨(by first | omega | decide | (unfold I64; omega)), rstep_fun false false _ _ _ _ (VD.made hsm i) (hx _ (by rw [rwAt_lt hlt]; exact List.getElem_mem hlt)) (by omega) (by omega), TD2, (by first | omega | decide | (unfold I64; omega)), round_end (i + 1) ⟨by omega, by omega⟩ ?_ (by dsimp only; omega)⟩
  unfold I_md
  rw [e]
  exact ent_of [(4, 4), (5, 5)] rfl (tm_cons rfl (sm_same rfl) (tm_cons rfl (sm_same rfl) (tm_cons rfl (sm_ptr rfl) (tm_cons rfl (sm_ptr rfl) (tm_cons rfl (sm_same rfl) tm_nil))))) (hp_cons rfl rfl (sm_same rfl) (hp_cons rfl rfl (sm_same rfl) hp_nil))
 ·simp only [decide_eq_true_eq, decide_eq_false_iff_not] at h h3
  have e : min n l.length = i := by omega
  rw [e]
  exact ⟨TD2, post_cell rfl rfl (sm_same rfl) rfl⟩
 ·simp only [decide_eq_false_iff_not] at h
  have e : min n l.length = i := by omega
  rw [e]
  exact ⟨TD2, post_cell rfl rfl (sm_same rfl) rfl⟩
end Go.Bu.W

