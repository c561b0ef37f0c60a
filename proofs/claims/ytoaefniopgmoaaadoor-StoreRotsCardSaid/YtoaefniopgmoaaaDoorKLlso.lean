/- A cell in which a byte changed is not read, unless its hash is right by chance; all others are read as before; when it is put again, it is read. -/
import Derived.Test.YtoaefniopgmoaaaDoorK25
namespace Go.Bu.W
open Sp
def w_lso : Way := wayN2 [0, 1, 3, 4, 5, 6, 7, 8, 9, 10, 11, 12, 13, 14, 22, 39, 118, 150, 155, 193] 242 [3,6,7,9,10,11,13,14,16,21,22,23]
abbrev by3 (g : Nat → Nat) : AV := .arr 3 1 (fun i => u8 (g i))
def T_lso (c i : Nat) : List (Nat × AV) := [(3, .ptr 3 []), (5, .sb true), (6, .ptr 6 []), (7, .i c), (8, .ptr 8 []), (9, .i i), (10, .ptr 10 [])]
def H_lso (g : Nat → Nat) (d r : Dk) (x : Cl) : List (Nat × Blk) := [(3, .c (by3 g)), (6, .c (dkA false false d)), (8, .c (clA x)), (10, .c (woA r 0))]
def S_lso3 (g : Nat → Nat) (d : Dk) : St := { tm := [(3, .ptr 3 []), (5, .sb true), (6, .ptr 6 [])], hp := [(3, .c (by3 g)), (6, .c (dkA false false d))], seen := [3, 6] }
def S_lso6 (g : Nat → Nat) (d : Dk) (c : Nat) : St := { tm := [(3, .ptr 3 []), (5, .sb true), (6, .ptr 6 []), (7, .i c)], hp := [(3, .c (by3 g)), (6, .c (dkA false false d))], seen := [3, 6] }
def S_lso7 (g : Nat → Nat) (d : Dk) (c : Nat) (x : Cl) : St := { tm := [(3, .ptr 3 []), (5, .sb true), (6, .ptr 6 []), (7, .i c), (8, .ptr 8 [])], hp := [(3, .c (by3 g)), (6, .c (dkA false false d)), (8, .c (clA x))], seen := [3, 6, 8] }
def S_lso10 (g : Nat → Nat) (d : Dk) (c i : Nat) (x : Cl) : St := { tm := [(3, .ptr 3 []), (5, .sb true), (6, .ptr 6 []), (7, .i c), (8, .ptr 8 []), (9, .i i)], hp := [(3, .c (by3 g)), (6, .c (dkA false false d)), (8, .c (clA x))], seen := [3, 6, 8] }
def S_lso11 (g : Nat → Nat) (d r : Dk) (c i : Nat) (x : Cl) : St := { tm := T_lso c i, hp := H_lso g d r x, seen := [3, 6, 8, 10] }
def S_lso14 (g : Nat → Nat) (d r : Dk) (c i : Nat) (x : Cl) (gb : List Nat) (ge : Int) : St := { tm := T_lso c i ++ [(11, .ptr 11 [])], hp := H_lso g d r x ++ [(11, .c (gA gb ge))], seen := [3, 6, 8, 10, 11] }
def I_lso (g : Nat → Nat) (d r : Dk) (c i : Nat) (x : Cl) (k : Nat) : St := { tm := T_lso c i ++ [(12, .i k)], hp := H_lso g d r x, seen := [3, 6, 8, 10] }
def S_lso22 (g : Nat → Nat) (d r a : Dk) (c i : Nat) (x : Cl) : St := { tm := T_lso c i ++ [(13, .ptr 13 [])], hp := H_lso g d r x ++ [(13, .c (woA a 0))], seen := [3, 6, 8, 10, 13] }
def S_lso23 (d a b : Dk) (x : Cl) : St := { tm := [(5, .sb true), (6, .ptr 6 []), (8, .ptr 8 []), (13, .ptr 13 []), (14, .ptr 14 [])], hp := [(6, .c (dkA false false d)), (8, .c (clA x)), (13, .c (woA a 0)), (14, .c (woA b 0))], seen := [6, 8, 13, 14] }
theorem lso_A (ea : Bool) (e3 e4 : Nat → Bool) (l : List Rw) (g : Nat → Nat) {D : Dom} (K : Nat) (Φ : Ex → St → Prop) :
 (Holds C P 242 D K Φ (vc C w_lso b_lso [] (start [rwsA ea e3 e4 l, by3 g] []) lf)) =
 (Fun C P 11 [] [] (AV.sb true) [] ∧
 (True ∧
 (Fun C P 20 [(rwsA ea e3 e4 l), (AV.i (10 : Int))] [] (dkA false false (madeN (toRws (rwsA ea e3 e4 l)) (Min.min 10 (List.length (toRws (rwsA ea e3 e4 l)))))) [] ∧
 (Fun C P 28 [(dkA false false (madeN (toRws (rwsA ea e3 e4 l)) (Min.min 10 (List.length (toRws (rwsA ea e3 e4 l))))))] [] (AV.st [(csA false (Dk.l (syncD (toDk (dkA false false (madeN (toRws (rwsA ea e3 e4 l)) (Min.min 10 (List.length (toRws (rwsA ea e3 e4 l)))))))))), (jsA false ([] : List Jb))]) [] ∧
 ((((true = true) ∧ (true = true)) ∧ (((true = true) ∧ (true = true)) ∧ True)) ∧
 (∃ (S2 : St), Ent C 242 D K (St.mk [(0, (rwsA ea e3 e4 l)), (1, (AV.arr 3 1 (fun (i : Nat) => (AV.v (Value.int IntKind.u8 (((g i) : Nat) : Int)))))), (3, (AV.ptr 3 [])), (4, (AV.v (Value.bool false))), (5, (AV.sb true)), (6, (AV.ptr 6 []))] [(3, (Blk.c (AV.arr 3 1 (fun (i : Nat) => (AV.v (Value.int IntKind.u8 (((g i) : Nat) : Int))))))), (6, (Blk.c (AV.st [(csA false (Dk.l (syncD (toDk (dkA false false (madeN (toRws (rwsA ea e3 e4 l)) (Min.min 10 (List.length (toRws (rwsA ea e3 e4 l)))))))))), (jsA false ([] : List Jb))])))] [6, 3]) S2 ∧ Holds C P 242 D K Φ (cutAt C w_lso b_lso [1, 1, 1, 0, 0] S2 (after C w_lso b_lso [1, 1, 1, 0, 0] [] lf)))))))) := by kernel_rfl
theorem lso_C3 (g : Nat → Nat) (d : Dk) {D : Dom} (K : Nat) (Φ : Ex → St → Prop) :
 (Holds C P 242 D K Φ (cutAt C w_lso b_lso [1, 1, 1, 0, 0] (S_lso3 g d) (after C w_lso b_lso [1, 1, 1, 0, 0] [] lf))) =
 ((((((List.length (Dk.l d)) : Nat) : Int) == (0 : Int)) = true →
 (Φ Ex.ret (St.mk [(3, (AV.ptr 3 [])), (4, (AV.sb true)), (5, (AV.sb true)), (6, (AV.ptr 6 [])), (22, (AV.v (Value.bool true)))] [(3, (Blk.c (AV.arr 3 1 (fun (i : Nat) => (AV.v (Value.int IntKind.u8 (((g i) : Nat) : Int))))))), (6, (Blk.c (dkA false false d)))] [3, 6]))) ∧
 (((((List.length (Dk.l d)) : Nat) : Int) == (0 : Int)) = false →
 ((((0 : Int) ≤ (0 : Int)) ∧ ((0 : Int) < (3 : Int))) ∧
 ((I64 (((g 0) : Nat) : Int)) ∧
 (((((List.length (Dk.l d)) : Nat) : Int) ≠ (0 : Int)) ∧
 (∃ (S2 : St), Ent C 242 D K (St.mk [(3, (AV.ptr 3 [])), (5, (AV.sb true)), (6, (AV.ptr 6 [])), (7, (AV.i ((((g 0) % (List.length (Dk.l d))) : Nat) : Int))), (22, (AV.v (Value.bool false)))] [(3, (Blk.c (AV.arr 3 1 (fun (i : Nat) => (AV.v (Value.int IntKind.u8 (((g i) : Nat) : Int))))))), (6, (Blk.c (dkA false false d)))] [3, 6]) S2 ∧ Holds C P 242 D K Φ (cutAt C w_lso b_lso [1, 1, 1, 1, 1, 0] S2 (after C w_lso b_lso [1, 1, 1, 1, 1, 0] [] lf)))))))) := by kernel_rfl
theorem lso_C6 (g : Nat → Nat) (d : Dk) (c : Nat) {D : Dom} (K : Nat) (Φ : Ex → St → Prop) :
 (Holds C P 242 D K Φ (cutAt C w_lso b_lso [1, 1, 1, 1, 1, 0] (S_lso6 g d c) (after C w_lso b_lso [1, 1, 1, 1, 1, 0] [] lf))) =
 ((((0 : Int) ≤ ((c : Nat) : Int)) ∧ (((c : Nat) : Int) < (((List.length (Dk.l d)) : Nat) : Int))) ∧
 ((((true = true) ∧ (true = true)) ∧ (((true = true) ∧ (true = true)) ∧ (((true = true) ∧ (true = true)) ∧ (((32 = 32) ∧ ((1 = 1) ∧ (∀ (i : Nat), ((i < 32) → ((true = true) ∧ (true = true)))))) ∧ True)))) ∧
 (∃ (S2 : St), Ent C 242 D K (St.mk [(3, (AV.ptr 3 [])), (5, (AV.sb true)), (6, (AV.ptr 6 [])), (7, (AV.i ((c : Nat) : Int))), (8, (AV.ptr 8 []))] [(3, (Blk.c (AV.arr 3 1 (fun (i : Nat) => (AV.v (Value.int IntKind.u8 (((g i) : Nat) : Int))))))), (6, (Blk.c (dkA false false d))), (8, (Blk.c (clA (clAt (Dk.l d) c))))] [8, 3, 6]) S2 ∧ Holds C P 242 D K Φ (cutAt C w_lso b_lso [1, 1, 1, 1, 1, 1, 0, 0] S2 (after C w_lso b_lso [1, 1, 1, 1, 1, 1, 0, 0] [] lf))))) := by kernel_rfl
theorem lso_C7 (g : Nat → Nat) (d : Dk) (c : Nat) (x : Cl) {D : Dom} (K : Nat) (Φ : Ex → St → Prop) :
 (Holds C P 242 D K Φ (cutAt C w_lso b_lso [1, 1, 1, 1, 1, 1, 0, 0] (S_lso7 g d c x) (after C w_lso b_lso [1, 1, 1, 1, 1, 1, 0, 0] [] lf))) =
 ((((((List.length (Cl.b x)) : Nat) : Int) == (0 : Int)) = true →
 (Fun C P 16 [(dkA false false d), (AV.arr 2 1 (layParts (fun (x1 : Nat) => (AV.i (0 : Int))) [(0, (AV.i ((c : Nat) : Int))), (1, (AV.i (0 : Int)))])), (AV.v (Value.int IntKind.u8 (1 : Int)))] [] (AV.st [(dkA false false (rotD (toDk (dkA false false d)) ((c : Nat) : Int) (0 : Int) 1)), (AV.i (rotE (toDk (dkA false false d)) ((c : Nat) : Int) (0 : Int)))]) [] ∧
 ((((rotE (toDk (dkA false false d)) ((c : Nat) : Int) (0 : Int)) == (220 : Int)) = true →
 (Φ Ex.ret (St.mk [(3, (AV.ptr 3 [])), (4, (AV.sb true)), (5, (AV.sb true)), (6, (AV.ptr 6 [])), (7, (AV.i ((c : Nat) : Int))), (8, (AV.ptr 8 [])), (39, (AV.v (Value.bool true)))] [(3, (Blk.c (AV.arr 3 1 (fun (i : Nat) => (AV.v (Value.int IntKind.u8 (((g i) : Nat) : Int))))))), (6, (Blk.c (dkA false false d))), (8, (Blk.c (clA x)))] [3, 6, 8]))) ∧
 (((rotE (toDk (dkA false false d)) ((c : Nat) : Int) (0 : Int)) == (220 : Int)) = false →
 (Φ Ex.ret (St.mk [(3, (AV.ptr 3 [])), (4, (AV.v (Value.bool false))), (5, (AV.sb true)), (6, (AV.ptr 6 [])), (7, (AV.i ((c : Nat) : Int))), (8, (AV.ptr 8 [])), (39, (AV.v (Value.bool true)))] [(3, (Blk.c (AV.arr 3 1 (fun (i : Nat) => (AV.v (Value.int IntKind.u8 (((g i) : Nat) : Int))))))), (6, (Blk.c (dkA false false d))), (8, (Blk.c (clA x)))] [3, 6, 8])))))) ∧
 (((((List.length (Cl.b x)) : Nat) : Int) == (0 : Int)) = false →
 (∃ (S2 : St), Ent C 242 D K (St.mk [(3, (AV.ptr 3 [])), (5, (AV.sb true)), (6, (AV.ptr 6 [])), (7, (AV.i ((c : Nat) : Int))), (8, (AV.ptr 8 [])), (39, (AV.v (Value.bool false)))] [(3, (Blk.c (AV.arr 3 1 (fun (i : Nat) => (AV.v (Value.int IntKind.u8 (((g i) : Nat) : Int))))))), (6, (Blk.c (dkA false false d))), (8, (Blk.c (clA x)))] [3, 6, 8]) S2 ∧ Holds C P 242 D K Φ (cutAt C w_lso b_lso [1, 1, 1, 1, 1, 1, 1, 0] S2 (after C w_lso b_lso [1, 1, 1, 1, 1, 1, 1, 0] [] lf))))) := by kernel_rfl
theorem lso_C9 (g : Nat → Nat) (d : Dk) (c : Nat) (x : Cl) {D : Dom} (K : Nat) (Φ : Ex → St → Prop) :
 (Holds C P 242 D K Φ (cutAt C w_lso b_lso [1, 1, 1, 1, 1, 1, 1, 0] (S_lso7 g d c x) (after C w_lso b_lso [1, 1, 1, 1, 1, 1, 1, 0] [] lf))) =
 ((((0 : Int) ≤ (1 : Int)) ∧ ((1 : Int) < (3 : Int))) ∧
 ((I64 (((g 1) : Nat) : Int)) ∧
 (((((List.length (Cl.b x)) : Nat) : Int) ≠ (0 : Int)) ∧
 (∃ (S2 : St), Ent C 242 D K (St.mk [(3, (AV.ptr 3 [])), (5, (AV.sb true)), (6, (AV.ptr 6 [])), (7, (AV.i ((c : Nat) : Int))), (8, (AV.ptr 8 [])), (9, (AV.i ((((g 1) % (List.length (Cl.b x))) : Nat) : Int)))] [(3, (Blk.c (AV.arr 3 1 (fun (i : Nat) => (AV.v (Value.int IntKind.u8 (((g i) : Nat) : Int))))))), (6, (Blk.c (dkA false false d))), (8, (Blk.c (clA x)))] [3, 6, 8]) S2 ∧ Holds C P 242 D K Φ (cutAt C w_lso b_lso [1, 1, 1, 1, 1, 1, 1, 1, 0] S2 (after C w_lso b_lso [1, 1, 1, 1, 1, 1, 1, 1, 0] [] lf)))))) := by kernel_rfl
theorem lso_C10 (g : Nat → Nat) (d : Dk) (c i : Nat) (x : Cl) {D : Dom} (K : Nat) (Φ : Ex → St → Prop) :
 (Holds C P 242 D K Φ (cutAt C w_lso b_lso [1, 1, 1, 1, 1, 1, 1, 1, 0] (S_lso10 g d c i x) (after C w_lso b_lso [1, 1, 1, 1, 1, 1, 1, 1, 0] [] lf))) =
 ((((0 : Int) ≤ (2 : Int)) ∧ ((2 : Int) < (3 : Int))) ∧
 (Fun C P 16 [(dkA false false d), (AV.arr 2 1 (layParts (fun (x1 : Nat) => (AV.i (0 : Int))) [(0, (AV.i ((c : Nat) : Int))), (1, (AV.i ((i : Nat) : Int)))])), (AV.v (Value.int IntKind.u8 (Max.max (((g 2) : Nat) : Int) (1 : Int))))] [] (AV.st [(dkA false false (rotD (toDk (dkA false false d)) ((c : Nat) : Int) ((i : Nat) : Int) (Int.toNat (Max.max (((g 2) : Nat) : Int) (1 : Int))))), (AV.i (rotE (toDk (dkA false false d)) ((c : Nat) : Int) ((i : Nat) : Int)))]) [] ∧
 (((((true = true) ∧ (true = true)) ∧ (((true = true) ∧ (true = true)) ∧ True)) ∧ (((true = true) ∧ (true = true)) ∧ True)) ∧
 (∃ (S2 : St), Ent C 242 D K (St.mk [(3, (AV.ptr 3 [])), (5, (AV.sb true)), (6, (AV.ptr 6 [])), (7, (AV.i ((c : Nat) : Int))), (8, (AV.ptr 8 [])), (9, (AV.i ((i : Nat) : Int))), (10, (AV.ptr 10 []))] [(3, (Blk.c (AV.arr 3 1 (fun (i1 : Nat) => (AV.v (Value.int IntKind.u8 (((g i1) : Nat) : Int))))))), (6, (Blk.c (dkA false false d))), (8, (Blk.c (clA x))), (10, (Blk.c (AV.st [(dkA false false (rotD (toDk (dkA false false d)) ((c : Nat) : Int) ((i : Nat) : Int) (Int.toNat (Max.max (((g 2) : Nat) : Int) (1 : Int))))), (AV.i (rotE (toDk (dkA false false d)) ((c : Nat) : Int) ((i : Nat) : Int)))])))] [10, 3, 6, 8]) S2 ∧ Holds C P 242 D K Φ (cutAt C w_lso b_lso [1, 1, 1, 1, 1, 1, 1, 1, 1, 0, 0] S2 (after C w_lso b_lso [1, 1, 1, 1, 1, 1, 1, 1, 1, 0, 0] [] lf)))))) := by kernel_rfl
theorem lso_C11 (g : Nat → Nat) (d r : Dk) (c i : Nat) (x : Cl) {D : Dom} (K : Nat) (Φ : Ex → St → Prop) :
 (Holds C P 242 D K Φ (cutAt C w_lso b_lso [1, 1, 1, 1, 1, 1, 1, 1, 1, 0, 0] (S_lso11 g d r c i x) (after C w_lso b_lso [1, 1, 1, 1, 1, 1, 1, 1, 1, 0, 0] [] lf))) =
 ((false = true →
 (Φ Ex.ret (St.mk [(3, (AV.ptr 3 [])), (4, (AV.v (Value.bool false))), (5, (AV.sb true)), (6, (AV.ptr 6 [])), (7, (AV.i ((c : Nat) : Int))), (8, (AV.ptr 8 [])), (9, (AV.i ((i : Nat) : Int))), (10, (AV.ptr 10 [])), (118, (AV.v (Value.bool true)))] [(3, (Blk.c (AV.arr 3 1 (fun (i1 : Nat) => (AV.v (Value.int IntKind.u8 (((g i1) : Nat) : Int))))))), (6, (Blk.c (dkA false false d))), (8, (Blk.c (clA x))), (10, (Blk.c (AV.st [(dkA false false r), (AV.i (0 : Int))])))] [3, 6, 8, 10]))) ∧
 (false = false →
 (Fun C P 18 [(dkA false false r)] [] (AV.sb (vldB (toDk (dkA false false r)))) [] ∧
 (True ∧
 (((! (vldB (toDk (dkA false false r)))) = true →
 (Φ Ex.ret (St.mk [(3, (AV.ptr 3 [])), (4, (AV.v (Value.bool false))), (5, (AV.sb true)), (6, (AV.ptr 6 [])), (7, (AV.i ((c : Nat) : Int))), (8, (AV.ptr 8 [])), (9, (AV.i ((i : Nat) : Int))), (10, (AV.ptr 10 [])), (118, (AV.v (Value.bool true)))] [(3, (Blk.c (AV.arr 3 1 (fun (i1 : Nat) => (AV.v (Value.int IntKind.u8 (((g i1) : Nat) : Int))))))), (6, (Blk.c (dkA false false d))), (8, (Blk.c (clA x))), (10, (Blk.c (AV.st [(dkA false false r), (AV.i (0 : Int))])))] [3, 6, 8, 10]))) ∧
 ((! (vldB (toDk (dkA false false r)))) = false →
 ((((((List.length (Dk.l r)) : Nat) : Int) != (((List.length (Dk.l d)) : Nat) : Int)) = true →
 (Φ Ex.ret (St.mk [(3, (AV.ptr 3 [])), (4, (AV.v (Value.bool false))), (5, (AV.sb true)), (6, (AV.ptr 6 [])), (7, (AV.i ((c : Nat) : Int))), (8, (AV.ptr 8 [])), (9, (AV.i ((i : Nat) : Int))), (10, (AV.ptr 10 [])), (118, (AV.v (Value.bool true)))] [(3, (Blk.c (AV.arr 3 1 (fun (i1 : Nat) => (AV.v (Value.int IntKind.u8 (((g i1) : Nat) : Int))))))), (6, (Blk.c (dkA false false d))), (8, (Blk.c (clA x))), (10, (Blk.c (AV.st [(dkA false false r), (AV.i (0 : Int))])))] [3, 6, 8, 10]))) ∧
 (((((List.length (Dk.l r)) : Nat) : Int) != (((List.length (Dk.l d)) : Nat) : Int)) = false →
 ((((0 : Int) ≤ ((c : Nat) : Int)) ∧ (((c : Nat) : Int) < (((List.length (Dk.l r)) : Nat) : Int))) ∧
 ((((((List.length (Cl.b (clAt (Dk.l r) c))) : Nat) : Int) != (((List.length (Cl.b x)) : Nat) : Int)) = true →
 (Φ Ex.ret (St.mk [(3, (AV.ptr 3 [])), (4, (AV.v (Value.bool false))), (5, (AV.sb true)), (6, (AV.ptr 6 [])), (7, (AV.i ((c : Nat) : Int))), (8, (AV.ptr 8 [])), (9, (AV.i ((i : Nat) : Int))), (10, (AV.ptr 10 [])), (118, (AV.v (Value.bool true)))] [(3, (Blk.c (AV.arr 3 1 (fun (i1 : Nat) => (AV.v (Value.int IntKind.u8 (((g i1) : Nat) : Int))))))), (6, (Blk.c (dkA false false d))), (8, (Blk.c (clA x))), (10, (Blk.c (AV.st [(dkA false false r), (AV.i (0 : Int))])))] [3, 6, 8, 10]))) ∧
 (((((List.length (Cl.b (clAt (Dk.l r) c))) : Nat) : Int) != (((List.length (Cl.b x)) : Nat) : Int)) = false →
 ((((0 : Int) ≤ ((c : Nat) : Int)) ∧ (((c : Nat) : Int) < (((List.length (Dk.l r)) : Nat) : Int))) ∧
 ((((0 : Int) ≤ ((i : Nat) : Int)) ∧ (((i : Nat) : Int) < (((List.length (Cl.b (clAt (Dk.l r) c))) : Nat) : Int))) ∧
 ((((0 : Int) ≤ ((i : Nat) : Int)) ∧ (((i : Nat) : Int) < (((List.length (Cl.b x)) : Nat) : Int))) ∧
 ((((0 : Int) ≤ (2 : Int)) ∧ ((2 : Int) < (3 : Int))) ∧
 ((((((List.getD (Cl.b (clAt (Dk.l r) c)) i 0) : Nat) : Int) != (bXor IntKind.u8 (((List.getD (Cl.b x) i 0) : Nat) : Int) (Max.max (((g 2) : Nat) : Int) (1 : Int)))) = true →
 (Φ Ex.ret (St.mk [(3, (AV.ptr 3 [])), (4, (AV.v (Value.bool false))), (5, (AV.sb true)), (6, (AV.ptr 6 [])), (7, (AV.i ((c : Nat) : Int))), (8, (AV.ptr 8 [])), (9, (AV.i ((i : Nat) : Int))), (10, (AV.ptr 10 [])), (118, (AV.v (Value.bool true)))] [(3, (Blk.c (AV.arr 3 1 (fun (i1 : Nat) => (AV.v (Value.int IntKind.u8 (((g i1) : Nat) : Int))))))), (6, (Blk.c (dkA false false d))), (8, (Blk.c (clA x))), (10, (Blk.c (AV.st [(dkA false false r), (AV.i (0 : Int))])))] [3, 6, 8, 10]))) ∧
 (((((List.getD (Cl.b (clAt (Dk.l r) c)) i 0) : Nat) : Int) != (bXor IntKind.u8 (((List.getD (Cl.b x) i 0) : Nat) : Int) (Max.max (((g 2) : Nat) : Int) (1 : Int)))) = false →
 (∃ (S2 : St), Ent C 242 D K (St.mk [(3, (AV.ptr 3 [])), (5, (AV.sb true)), (6, (AV.ptr 6 [])), (7, (AV.i ((c : Nat) : Int))), (8, (AV.ptr 8 [])), (9, (AV.i ((i : Nat) : Int))), (10, (AV.ptr 10 [])), (118, (AV.v (Value.bool false)))] [(3, (Blk.c (AV.arr 3 1 (fun (i1 : Nat) => (AV.v (Value.int IntKind.u8 (((g i1) : Nat) : Int))))))), (6, (Blk.c (dkA false false d))), (8, (Blk.c (clA x))), (10, (Blk.c (AV.st [(dkA false false r), (AV.i (0 : Int))])))] [3, 6, 8, 10]) S2 ∧ Holds C P 242 D K Φ (cutAt C w_lso b_lso [1, 1, 1, 1, 1, 1, 1, 1, 1, 1, 0] S2 (after C w_lso b_lso [1, 1, 1, 1, 1, 1, 1, 1, 1, 1, 0] [] lf)))))))))))))))))))) := by kernel_rfl
theorem lso_C13 (g : Nat → Nat) (d r : Dk) (c i : Nat) (x : Cl) {D : Dom} (K : Nat) (Φ : Ex → St → Prop) :
 (Holds C P 242 D K Φ (cutAt C w_lso b_lso [1, 1, 1, 1, 1, 1, 1, 1, 1, 1, 0] (S_lso11 g d r c i x) (after C w_lso b_lso [1, 1, 1, 1, 1, 1, 1, 1, 1, 1, 0] [] lf))) =
 (Fun C P 23 [(dkA false false r), (AV.i (Cl.i x)), (AV.i (Cl.s x))] [] (AV.st [(AV.dat (List.length (gotB (cont (toDk (dkA false false r))) (Cl.i x) (Cl.s x))) false 1 (rowL (gotB (cont (toDk (dkA false false r))) (Cl.i x) (Cl.s x)))), (AV.i (gotE (cont (toDk (dkA false false r))) (Cl.i x) (Cl.s x)))]) [] ∧
 ((((true = true) ∧ (true = true)) ∧ (((true = true) ∧ (true = true)) ∧ True)) ∧
 (∃ (S2 : St), Ent C 242 D K (St.mk [(3, (AV.ptr 3 [])), (5, (AV.sb true)), (6, (AV.ptr 6 [])), (7, (AV.i ((c : Nat) : Int))), (8, (AV.ptr 8 [])), (9, (AV.i ((i : Nat) : Int))), (10, (AV.ptr 10 [])), (11, (AV.ptr 11 []))] [(3, (Blk.c (AV.arr 3 1 (fun (i1 : Nat) => (AV.v (Value.int IntKind.u8 (((g i1) : Nat) : Int))))))), (6, (Blk.c (dkA false false d))), (8, (Blk.c (clA x))), (10, (Blk.c (AV.st [(dkA false false r), (AV.i (0 : Int))]))), (11, (Blk.c (AV.st [(AV.dat (List.length (gotB (cont (toDk (dkA false false r))) (Cl.i x) (Cl.s x))) false 1 (rowL (gotB (cont (toDk (dkA false false r))) (Cl.i x) (Cl.s x)))), (AV.i (gotE (cont (toDk (dkA false false r))) (Cl.i x) (Cl.s x)))])))] [11, 3, 6, 8, 10]) S2 ∧ Holds C P 242 D K Φ (cutAt C w_lso b_lso [1, 1, 1, 1, 1, 1, 1, 1, 1, 1, 1, 0, 0] S2 (after C w_lso b_lso [1, 1, 1, 1, 1, 1, 1, 1, 1, 1, 1, 0, 0] [] lf))))) := by kernel_rfl
theorem lso_C14 (g : Nat → Nat) (d r : Dk) (c i : Nat) (x : Cl) (gb : List Nat) (ge : Int) {D : Dom} (K : Nat) (Φ : Ex → St → Prop) :
 (Holds C P 242 D K Φ (cutAt C w_lso b_lso [1, 1, 1, 1, 1, 1, 1, 1, 1, 1, 1, 0, 0] (S_lso14 g d r c i x gb ge) (after C w_lso b_lso [1, 1, 1, 1, 1, 1, 1, 1, 1, 1, 1, 0, 0] [] lf))) =
 ((((0 : Int) ≤ ((c : Nat) : Int)) ∧ (((c : Nat) : Int) < (((List.length (Dk.l r)) : Nat) : Int))) ∧
 (Fun C P 29 [(AV.dat (List.length (Cl.b (clAt (Dk.l r) c))) false 1 (rowL (Cl.b (clAt (Dk.l r) c))))] [] (hA (Sp.sumN (bytesL (List.length (Cl.b (clAt (Dk.l r) c))) (rowL (Cl.b (clAt (Dk.l r) c)))))) [] ∧
 ((∀ (i1 : Nat), ((i1 < 32) → True)) ∧
 ((∀ (i1 : Nat), ((i1 < 32) → ((IntKind.u8 = IntKind.u8) ∧ (IntKind.u8 = IntKind.u8)))) ∧
 (((! ((ge == (0 : Int)) == (List.all (List.range 32) (fun (i1 : Nat) => ((((Sp.sumN (bytesL (List.length (Cl.b (clAt (Dk.l r) c))) (rowL (Cl.b (clAt (Dk.l r) c)))) i1) : Nat) : Int) == (((Cl.h x i1) : Nat) : Int)))))) = true →
 (Φ Ex.ret (St.mk [(3, (AV.ptr 3 [])), (4, (AV.v (Value.bool false))), (5, (AV.sb true)), (6, (AV.ptr 6 [])), (7, (AV.i ((c : Nat) : Int))), (8, (AV.ptr 8 [])), (9, (AV.i ((i : Nat) : Int))), (10, (AV.ptr 10 [])), (11, (AV.ptr 11 [])), (150, (AV.v (Value.bool true)))] [(3, (Blk.c (AV.arr 3 1 (fun (i1 : Nat) => (AV.v (Value.int IntKind.u8 (((g i1) : Nat) : Int))))))), (6, (Blk.c (dkA false false d))), (8, (Blk.c (clA x))), (10, (Blk.c (AV.st [(dkA false false r), (AV.i (0 : Int))]))), (11, (Blk.c (AV.st [(AV.dat (List.length gb) false 1 (rowL gb)), (AV.i ge)])))] [3, 6, 8, 10, 11]))) ∧
 ((! ((ge == (0 : Int)) == (List.all (List.range 32) (fun (i1 : Nat) => ((((Sp.sumN (bytesL (List.length (Cl.b (clAt (Dk.l r) c))) (rowL (Cl.b (clAt (Dk.l r) c)))) i1) : Nat) : Int) == (((Cl.h x i1) : Nat) : Int)))))) = false →
 (((ge != (0 : Int)) = true →
 (((ge != (221 : Int)) = true →
 (Φ Ex.ret (St.mk [(3, (AV.ptr 3 [])), (4, (AV.v (Value.bool false))), (5, (AV.sb true)), (6, (AV.ptr 6 [])), (7, (AV.i ((c : Nat) : Int))), (8, (AV.ptr 8 [])), (9, (AV.i ((i : Nat) : Int))), (10, (AV.ptr 10 [])), (11, (AV.ptr 11 [])), (150, (AV.v (Value.bool true)))] [(3, (Blk.c (AV.arr 3 1 (fun (i1 : Nat) => (AV.v (Value.int IntKind.u8 (((g i1) : Nat) : Int))))))), (6, (Blk.c (dkA false false d))), (8, (Blk.c (clA x))), (10, (Blk.c (AV.st [(dkA false false r), (AV.i (0 : Int))]))), (11, (Blk.c (AV.st [(AV.dat (List.length gb) false 1 (rowL gb)), (AV.i ge)])))] [3, 6, 8, 10, 11]))) ∧
 ((ge != (221 : Int)) = false →
 (∃ (S2 : St), Ent C 242 D K (St.mk [(3, (AV.ptr 3 [])), (5, (AV.sb true)), (6, (AV.ptr 6 [])), (7, (AV.i ((c : Nat) : Int))), (8, (AV.ptr 8 [])), (9, (AV.i ((i : Nat) : Int))), (10, (AV.ptr 10 [])), (11, (AV.ptr 11 [])), (150, (AV.v (Value.bool false)))] [(3, (Blk.c (AV.arr 3 1 (fun (i1 : Nat) => (AV.v (Value.int IntKind.u8 (((g i1) : Nat) : Int))))))), (6, (Blk.c (dkA false false d))), (8, (Blk.c (clA x))), (10, (Blk.c (AV.st [(dkA false false r), (AV.i (0 : Int))]))), (11, (Blk.c (AV.st [(AV.dat (List.length gb) false 1 (rowL gb)), (AV.i ge)])))] [3, 6, 8, 10, 11]) S2 ∧ Holds C P 242 D K Φ (cutAt C w_lso b_lso [1, 1, 1, 1, 1, 1, 1, 1, 1, 1, 1, 1, 0, 0] S2 (after C w_lso b_lso [1, 1, 1, 1, 1, 1, 1, 1, 1, 1, 1, 1, 0, 0] [] lf)))))) ∧
 ((ge != (0 : Int)) = false →
 (∃ (S2 : St), Ent C 242 D K (St.mk [(3, (AV.ptr 3 [])), (5, (AV.sb true)), (6, (AV.ptr 6 [])), (7, (AV.i ((c : Nat) : Int))), (8, (AV.ptr 8 [])), (9, (AV.i ((i : Nat) : Int))), (10, (AV.ptr 10 [])), (11, (AV.ptr 11 [])), (150, (AV.v (Value.bool false)))] [(3, (Blk.c (AV.arr 3 1 (fun (i1 : Nat) => (AV.v (Value.int IntKind.u8 (((g i1) : Nat) : Int))))))), (6, (Blk.c (dkA false false d))), (8, (Blk.c (clA x))), (10, (Blk.c (AV.st [(dkA false false r), (AV.i (0 : Int))]))), (11, (Blk.c (AV.st [(AV.dat (List.length gb) false 1 (rowL gb)), (AV.i ge)])))] [3, 6, 8, 10, 11]) S2 ∧ Holds C P 242 D K Φ (cutAt C w_lso b_lso [1, 1, 1, 1, 1, 1, 1, 1, 1, 1, 1, 1, 0, 0] S2 (after C w_lso b_lso [1, 1, 1, 1, 1, 1, 1, 1, 1, 1, 1, 1, 0, 0] [] lf))))))))))) := by kernel_rfl
theorem lso_C16 (g : Nat → Nat) (d r : Dk) (c i : Nat) (x : Cl) {D : Dom} (K : Nat) (Φ : Ex → St → Prop) :
 (Holds C P 242 D K Φ (cutAt C w_lso b_lso [1, 1, 1, 1, 1, 1, 1, 1, 1, 1, 1, 1, 0, 0] (S_lso11 g d r c i x) (after C w_lso b_lso [1, 1, 1, 1, 1, 1, 1, 1, 1, 1, 1, 1, 0, 0] [] lf))) =
 (LoopOK C P 242 D K (bodyAt b_lso [1, 1, 1, 1, 1, 1, 1, 1, 1, 1, 1, 1, 0, 1, 0]) (St.mk [(3, (AV.ptr 3 [])), (5, (AV.sb true)), (6, (AV.ptr 6 [])), (7, (AV.i ((c : Nat) : Int))), (8, (AV.ptr 8 [])), (9, (AV.i ((i : Nat) : Int))), (10, (AV.ptr 10 [])), (12, (AV.i (0 : Int)))] [(3, (Blk.c (AV.arr 3 1 (fun (i1 : Nat) => (AV.v (Value.int IntKind.u8 (((g i1) : Nat) : Int))))))), (6, (Blk.c (dkA false false d))), (8, (Blk.c (clA x))), (10, (Blk.c (AV.st [(dkA false false r), (AV.i (0 : Int))])))] [3, 6, 8, 10]) (fun (e : Ex) (S' : St) => Holds C P 242 D K Φ (after C w_lso b_lso [1, 1, 1, 1, 1, 1, 1, 1, 1, 1, 1, 1, 0, 1, 0] [] lf e S'))) := by kernel_rfl
noncomputable abbrev bd_lso_0 : Code := bodyAt (b_lso) [1, 1, 1, 1, 1, 1, 1, 1, 1, 1, 1, 1, 0, 1, 0]
theorem ok_lso_0 : codeOK bd_lso_0 = true := by kernel_rfl
noncomputable abbrev rest_lso_0 (D : Dom) (K : Nat) (Φ : Ex → St → Prop) : Ex → St → Prop := fun e S' => Holds C P 242 D K Φ (after C w_lso (b_lso) [1, 1, 1, 1, 1, 1, 1, 1, 1, 1, 1, 1, 0, 1, 0] [] lf e S')
theorem lso_L0 (g : Nat → Nat) (d r : Dk) (c i : Nat) (x : Cl) (k : Nat) {D : Dom} (K : Nat) (Φ : Ex → St → Prop) :
 (Holds C P 242 D K (RoundQ C 242 D K (I_lso g d r c i x) (fun k => k ≤ d.l.length) (fun k => d.l.length - k) ((fun k => d.l.length - k) (k)) (rest_lso_0 D K Φ)) (vc C w_lso bd_lso_0 [] ((I_lso g d r c i x) (k)) lf)) =
 (((decide (((k : Nat) : Int) < (((List.length (Dk.l d)) : Nat) : Int))) = true →
 (((((k : Nat) : Int) != ((c : Nat) : Int)) = true →
 ((((0 : Int) ≤ ((k : Nat) : Int)) ∧ (((k : Nat) : Int) < (((List.length (Dk.l d)) : Nat) : Int))) ∧
 ((((0 : Int) ≤ ((k : Nat) : Int)) ∧ (((k : Nat) : Int) < (((List.length (Dk.l d)) : Nat) : Int))) ∧
 (Fun C P 23 [(dkA false false r), (AV.i (Cl.i (clAt (Dk.l d) k))), (AV.i (Cl.s (clAt (Dk.l d) k)))] [] (AV.st [(AV.dat (List.length (gotB (cont (toDk (dkA false false r))) (Cl.i (clAt (Dk.l d) k)) (Cl.s (clAt (Dk.l d) k)))) false 1 (rowL (gotB (cont (toDk (dkA false false r))) (Cl.i (clAt (Dk.l d) k)) (Cl.s (clAt (Dk.l d) k))))), (AV.i (gotE (cont (toDk (dkA false false r))) (Cl.i (clAt (Dk.l d) k)) (Cl.s (clAt (Dk.l d) k))))]) [] ∧
 ((((0 : Int) ≤ ((k : Nat) : Int)) ∧ (((k : Nat) : Int) < (((List.length (Dk.l d)) : Nat) : Int))) ∧
 ((((0 : Int) ≤ ((k : Nat) : Int)) ∧ (((k : Nat) : Int) < (((List.length (Dk.l d)) : Nat) : Int))) ∧
 (Fun C P 23 [(dkA false false d), (AV.i (Cl.i (clAt (Dk.l d) k))), (AV.i (Cl.s (clAt (Dk.l d) k)))] [] (AV.st [(AV.dat (List.length (gotB (cont (toDk (dkA false false d))) (Cl.i (clAt (Dk.l d) k)) (Cl.s (clAt (Dk.l d) k)))) false 1 (rowL (gotB (cont (toDk (dkA false false d))) (Cl.i (clAt (Dk.l d) k)) (Cl.s (clAt (Dk.l d) k))))), (AV.i (gotE (cont (toDk (dkA false false d))) (Cl.i (clAt (Dk.l d) k)) (Cl.s (clAt (Dk.l d) k))))]) [] ∧
 (Fun C P 26 [(AV.st [(AV.dat (List.length (gotB (cont (toDk (dkA false false r))) (Cl.i (clAt (Dk.l d) k)) (Cl.s (clAt (Dk.l d) k)))) false 1 (rowL (gotB (cont (toDk (dkA false false r))) (Cl.i (clAt (Dk.l d) k)) (Cl.s (clAt (Dk.l d) k))))), (AV.i (gotE (cont (toDk (dkA false false r))) (Cl.i (clAt (Dk.l d) k)) (Cl.s (clAt (Dk.l d) k))))]), (AV.st [(AV.dat (List.length (gotB (cont (toDk (dkA false false d))) (Cl.i (clAt (Dk.l d) k)) (Cl.s (clAt (Dk.l d) k)))) false 1 (rowL (gotB (cont (toDk (dkA false false d))) (Cl.i (clAt (Dk.l d) k)) (Cl.s (clAt (Dk.l d) k))))), (AV.i (gotE (cont (toDk (dkA false false d))) (Cl.i (clAt (Dk.l d) k)) (Cl.s (clAt (Dk.l d) k))))])] [] (AV.sb ((strB (bytesL (List.length (gotB (cont (toDk (dkA false false r))) (Cl.i (clAt (Dk.l d) k)) (Cl.s (clAt (Dk.l d) k)))) (rowL (gotB (cont (toDk (dkA false false r))) (Cl.i (clAt (Dk.l d) k)) (Cl.s (clAt (Dk.l d) k))))) (bytesL (List.length (gotB (cont (toDk (dkA false false d))) (Cl.i (clAt (Dk.l d) k)) (Cl.s (clAt (Dk.l d) k)))) (rowL (gotB (cont (toDk (dkA false false d))) (Cl.i (clAt (Dk.l d) k)) (Cl.s (clAt (Dk.l d) k)))))) && ((gotE (cont (toDk (dkA false false r))) (Cl.i (clAt (Dk.l d) k)) (Cl.s (clAt (Dk.l d) k))) == (gotE (cont (toDk (dkA false false d))) (Cl.i (clAt (Dk.l d) k)) (Cl.s (clAt (Dk.l d) k)))))) [] ∧
 (True ∧
 (((! ((strB (bytesL (List.length (gotB (cont (toDk (dkA false false r))) (Cl.i (clAt (Dk.l d) k)) (Cl.s (clAt (Dk.l d) k)))) (rowL (gotB (cont (toDk (dkA false false r))) (Cl.i (clAt (Dk.l d) k)) (Cl.s (clAt (Dk.l d) k))))) (bytesL (List.length (gotB (cont (toDk (dkA false false d))) (Cl.i (clAt (Dk.l d) k)) (Cl.s (clAt (Dk.l d) k)))) (rowL (gotB (cont (toDk (dkA false false d))) (Cl.i (clAt (Dk.l d) k)) (Cl.s (clAt (Dk.l d) k)))))) && ((gotE (cont (toDk (dkA false false r))) (Cl.i (clAt (Dk.l d) k)) (Cl.s (clAt (Dk.l d) k))) == (gotE (cont (toDk (dkA false false d))) (Cl.i (clAt (Dk.l d) k)) (Cl.s (clAt (Dk.l d) k)))))) = true →
 (Φ Ex.ret (St.mk [(3, (AV.ptr 3 [])), (4, (AV.v (Value.bool false))), (5, (AV.sb true)), (6, (AV.ptr 6 [])), (7, (AV.i ((c : Nat) : Int))), (8, (AV.ptr 8 [])), (9, (AV.i ((i : Nat) : Int))), (10, (AV.ptr 10 [])), (12, (AV.i ((k : Nat) : Int))), (155, (AV.v (Value.bool true))), (193, (AV.v (Value.bool true)))] [(3, (Blk.c (AV.arr 3 1 (fun (i1 : Nat) => (AV.v (Value.int IntKind.u8 (((g i1) : Nat) : Int))))))), (6, (Blk.c (dkA false false d))), (8, (Blk.c (clA x))), (10, (Blk.c (AV.st [(dkA false false r), (AV.i (0 : Int))])))] [3, 6, 8, 10]))) ∧
 ((! ((strB (bytesL (List.length (gotB (cont (toDk (dkA false false r))) (Cl.i (clAt (Dk.l d) k)) (Cl.s (clAt (Dk.l d) k)))) (rowL (gotB (cont (toDk (dkA false false r))) (Cl.i (clAt (Dk.l d) k)) (Cl.s (clAt (Dk.l d) k))))) (bytesL (List.length (gotB (cont (toDk (dkA false false d))) (Cl.i (clAt (Dk.l d) k)) (Cl.s (clAt (Dk.l d) k)))) (rowL (gotB (cont (toDk (dkA false false d))) (Cl.i (clAt (Dk.l d) k)) (Cl.s (clAt (Dk.l d) k)))))) && ((gotE (cont (toDk (dkA false false r))) (Cl.i (clAt (Dk.l d) k)) (Cl.s (clAt (Dk.l d) k))) == (gotE (cont (toDk (dkA false false d))) (Cl.i (clAt (Dk.l d) k)) (Cl.s (clAt (Dk.l d) k)))))) = false →
 ((I64 (((k + 1) : Nat) : Int)) ∧
 ((RoundQ C 242 D K (I_lso g d r c i x) (fun k => k ≤ d.l.length) (fun k => d.l.length - k) ((fun k => d.l.length - k) (k)) (rest_lso_0 D K Φ)) Ex.normal (St.mk [(3, (AV.ptr 3 [])), (5, (AV.sb true)), (6, (AV.ptr 6 [])), (7, (AV.i ((c : Nat) : Int))), (8, (AV.ptr 8 [])), (9, (AV.i ((i : Nat) : Int))), (10, (AV.ptr 10 [])), (12, (AV.i (((k + 1) : Nat) : Int))), (155, (AV.v (Value.bool true))), (193, (AV.v (Value.bool false)))] [(3, (Blk.c (AV.arr 3 1 (fun (i1 : Nat) => (AV.v (Value.int IntKind.u8 (((g i1) : Nat) : Int))))))), (6, (Blk.c (dkA false false d))), (8, (Blk.c (clA x))), (10, (Blk.c (AV.st [(dkA false false r), (AV.i (0 : Int))])))] [3, 6, 8, 10])))))))))))))) ∧
 ((((k : Nat) : Int) != ((c : Nat) : Int)) = false →
 ((I64 (((k + 1) : Nat) : Int)) ∧
 ((RoundQ C 242 D K (I_lso g d r c i x) (fun k => k ≤ d.l.length) (fun k => d.l.length - k) ((fun k => d.l.length - k) (k)) (rest_lso_0 D K Φ)) Ex.normal (St.mk [(3, (AV.ptr 3 [])), (5, (AV.sb true)), (6, (AV.ptr 6 [])), (7, (AV.i ((c : Nat) : Int))), (8, (AV.ptr 8 [])), (9, (AV.i ((i : Nat) : Int))), (10, (AV.ptr 10 [])), (12, (AV.i (((k + 1) : Nat) : Int))), (155, (AV.v (Value.bool true))), (193, (AV.v (Value.bool false)))] [(3, (Blk.c (AV.arr 3 1 (fun (i1 : Nat) => (AV.v (Value.int IntKind.u8 (((g i1) : Nat) : Int))))))), (6, (Blk.c (dkA false false d))), (8, (Blk.c (clA x))), (10, (Blk.c (AV.st [(dkA false false r), (AV.i (0 : Int))])))] [3, 6, 8, 10])))))) ∧
 ((decide (((k : Nat) : Int) < (((List.length (Dk.l d)) : Nat) : Int))) = false →
 (∃ (S2 : St), Ent C 242 D K (St.mk [(3, (AV.ptr 3 [])), (5, (AV.sb true)), (6, (AV.ptr 6 [])), (7, (AV.i ((c : Nat) : Int))), (8, (AV.ptr 8 [])), (9, (AV.i ((i : Nat) : Int))), (10, (AV.ptr 10 [])), (12, (AV.i ((k : Nat) : Int))), (155, (AV.v (Value.bool false)))] [(3, (Blk.c (AV.arr 3 1 (fun (i1 : Nat) => (AV.v (Value.int IntKind.u8 (((g i1) : Nat) : Int))))))), (6, (Blk.c (dkA false false d))), (8, (Blk.c (clA x))), (10, (Blk.c (AV.st [(dkA false false r), (AV.i (0 : Int))])))] [3, 6, 8, 10]) S2 ∧ Holds C P 242 D K Φ (cutAt C w_lso b_lso [1, 1, 1, 1, 1, 1, 1, 1, 1, 1, 1, 1, 1, 0] S2 (after C w_lso b_lso [1, 1, 1, 1, 1, 1, 1, 1, 1, 1, 1, 1, 1, 0] [] lf))))) := by kernel_rfl
theorem lso_C21 (g : Nat → Nat) (d r : Dk) (c i : Nat) (x : Cl) {D : Dom} (K : Nat) (Φ : Ex → St → Prop) :
 (Holds C P 242 D K Φ (cutAt C w_lso b_lso [1, 1, 1, 1, 1, 1, 1, 1, 1, 1, 1, 1, 1, 0] (S_lso11 g d r c i x) (after C w_lso b_lso [1, 1, 1, 1, 1, 1, 1, 1, 1, 1, 1, 1, 1, 0] [] lf))) =
 (Fun C P 12 [(dkA false false r), (AV.i (Cl.i x)), (AV.i (Cl.s x)), (AV.dat (List.length (Cl.b x)) false 1 (rowL (Cl.b x)))] [] (AV.st [(dkA false false (putD (toDk (dkA false false r)) (Cl.i x) (Cl.s x) (bytesL (List.length (Cl.b x)) (rowL (Cl.b x))))), (AV.i (putE (Cl.i x) (Cl.s x) (bytesL (List.length (Cl.b x)) (rowL (Cl.b x)))))]) [] ∧
 (((((true = true) ∧ (true = true)) ∧ (((true = true) ∧ (true = true)) ∧ True)) ∧ (((true = true) ∧ (true = true)) ∧ True)) ∧
 (∃ (S2 : St), Ent C 242 D K (St.mk [(3, (AV.ptr 3 [])), (5, (AV.sb true)), (6, (AV.ptr 6 [])), (7, (AV.i ((c : Nat) : Int))), (8, (AV.ptr 8 [])), (9, (AV.i ((i : Nat) : Int))), (10, (AV.ptr 10 [])), (13, (AV.ptr 13 []))] [(3, (Blk.c (AV.arr 3 1 (fun (i1 : Nat) => (AV.v (Value.int IntKind.u8 (((g i1) : Nat) : Int))))))), (6, (Blk.c (dkA false false d))), (8, (Blk.c (clA x))), (10, (Blk.c (AV.st [(dkA false false r), (AV.i (0 : Int))]))), (13, (Blk.c (AV.st [(dkA false false (putD (toDk (dkA false false r)) (Cl.i x) (Cl.s x) (bytesL (List.length (Cl.b x)) (rowL (Cl.b x))))), (AV.i (putE (Cl.i x) (Cl.s x) (bytesL (List.length (Cl.b x)) (rowL (Cl.b x)))))])))] [13, 3, 6, 8, 10]) S2 ∧ Holds C P 242 D K Φ (cutAt C w_lso b_lso [1, 1, 1, 1, 1, 1, 1, 1, 1, 1, 1, 1, 1, 1, 0] S2 (after C w_lso b_lso [1, 1, 1, 1, 1, 1, 1, 1, 1, 1, 1, 1, 1, 1, 0] [] lf))))) := by kernel_rfl
theorem lso_C22 (g : Nat → Nat) (d r a : Dk) (c i : Nat) (x : Cl) {D : Dom} (K : Nat) (Φ : Ex → St → Prop) :
 (Holds C P 242 D K Φ (cutAt C w_lso b_lso [1, 1, 1, 1, 1, 1, 1, 1, 1, 1, 1, 1, 1, 1, 0] (S_lso22 g d r a c i x) (after C w_lso b_lso [1, 1, 1, 1, 1, 1, 1, 1, 1, 1, 1, 1, 1, 1, 0] [] lf))) =
 ((((0 : Int) ≤ (2 : Int)) ∧ ((2 : Int) < (3 : Int))) ∧
 (Fun C P 16 [(dkA false false r), (AV.arr 2 1 (layParts (fun (x1 : Nat) => (AV.i (0 : Int))) [(0, (AV.i ((c : Nat) : Int))), (1, (AV.i ((i : Nat) : Int)))])), (AV.v (Value.int IntKind.u8 (Max.max (((g 2) : Nat) : Int) (1 : Int))))] [] (AV.st [(dkA false false (rotD (toDk (dkA false false r)) ((c : Nat) : Int) ((i : Nat) : Int) (Int.toNat (Max.max (((g 2) : Nat) : Int) (1 : Int))))), (AV.i (rotE (toDk (dkA false false r)) ((c : Nat) : Int) ((i : Nat) : Int)))]) [] ∧
 (((((true = true) ∧ (true = true)) ∧ (((true = true) ∧ (true = true)) ∧ True)) ∧ (((true = true) ∧ (true = true)) ∧ True)) ∧
 (∃ (S2 : St), Ent C 242 D K (St.mk [(3, (AV.ptr 3 [])), (5, (AV.sb true)), (6, (AV.ptr 6 [])), (7, (AV.i ((c : Nat) : Int))), (8, (AV.ptr 8 [])), (9, (AV.i ((i : Nat) : Int))), (10, (AV.ptr 10 [])), (13, (AV.ptr 13 [])), (14, (AV.ptr 14 []))] [(3, (Blk.c (AV.arr 3 1 (fun (i1 : Nat) => (AV.v (Value.int IntKind.u8 (((g i1) : Nat) : Int))))))), (6, (Blk.c (dkA false false d))), (8, (Blk.c (clA x))), (10, (Blk.c (AV.st [(dkA false false r), (AV.i (0 : Int))]))), (13, (Blk.c (AV.st [(dkA false false a), (AV.i (0 : Int))]))), (14, (Blk.c (AV.st [(dkA false false (rotD (toDk (dkA false false r)) ((c : Nat) : Int) ((i : Nat) : Int) (Int.toNat (Max.max (((g 2) : Nat) : Int) (1 : Int))))), (AV.i (rotE (toDk (dkA false false r)) ((c : Nat) : Int) ((i : Nat) : Int)))])))] [14, 3, 6, 8, 10, 13]) S2 ∧ Holds C P 242 D K Φ (cutAt C w_lso b_lso [1, 1, 1, 1, 1, 1, 1, 1, 1, 1, 1, 1, 1, 1, 1, 0] S2 (after C w_lso b_lso [1, 1, 1, 1, 1, 1, 1, 1, 1, 1, 1, 1, 1, 1, 1, 0] [] lf)))))) := by kernel_rfl
theorem lso_C23 (d a b : Dk) (x : Cl) {D : Dom} (K : Nat) (Φ : Ex → St → Prop) :
 (Holds C P 242 D K Φ (cutAt C w_lso b_lso [1, 1, 1, 1, 1, 1, 1, 1, 1, 1, 1, 1, 1, 1, 1, 0] (S_lso23 d a b x) (after C w_lso b_lso [1, 1, 1, 1, 1, 1, 1, 1, 1, 1, 1, 1, 1, 1, 1, 0] [] lf))) =
 ((true = true →
 (Fun C P 18 [(dkA false false a)] [] (AV.sb (vldB (toDk (dkA false false a)))) [] ∧
 (True ∧
 (((vldB (toDk (dkA false false a))) = true →
 (Fun C P 23 [(dkA false false a), (AV.i (Cl.i x)), (AV.i (Cl.s x))] [] (AV.st [(AV.dat (List.length (gotB (cont (toDk (dkA false false a))) (Cl.i x) (Cl.s x))) false 1 (rowL (gotB (cont (toDk (dkA false false a))) (Cl.i x) (Cl.s x)))), (AV.i (gotE (cont (toDk (dkA false false a))) (Cl.i x) (Cl.s x)))]) [] ∧
 (Fun C P 26 [(AV.st [(AV.dat (List.length (gotB (cont (toDk (dkA false false a))) (Cl.i x) (Cl.s x))) false 1 (rowL (gotB (cont (toDk (dkA false false a))) (Cl.i x) (Cl.s x)))), (AV.i (gotE (cont (toDk (dkA false false a))) (Cl.i x) (Cl.s x)))]), (AV.st [(AV.dat (List.length (Cl.b x)) false 1 (rowL (Cl.b x))), (AV.i (0 : Int))])] [] (AV.sb ((strB (bytesL (List.length (gotB (cont (toDk (dkA false false a))) (Cl.i x) (Cl.s x))) (rowL (gotB (cont (toDk (dkA false false a))) (Cl.i x) (Cl.s x)))) (bytesL (List.length (Cl.b x)) (rowL (Cl.b x)))) && ((gotE (cont (toDk (dkA false false a))) (Cl.i x) (Cl.s x)) == (0 : Int)))) [] ∧
 (True ∧
 ((((strB (bytesL (List.length (gotB (cont (toDk (dkA false false a))) (Cl.i x) (Cl.s x))) (rowL (gotB (cont (toDk (dkA false false a))) (Cl.i x) (Cl.s x)))) (bytesL (List.length (Cl.b x)) (rowL (Cl.b x)))) && ((gotE (cont (toDk (dkA false false a))) (Cl.i x) (Cl.s x)) == (0 : Int))) = true →
 (Fun C P 21 [(AV.st [(dkA false false b), (AV.i (0 : Int))]), (AV.st [(dkA false false d), (AV.i (0 : Int))])] [] (AV.sb ((sameD (toDk (dkA false false b)) (toDk (dkA false false d))) && true)) [] ∧
 (True ∧
 ((((sameD (toDk (dkA false false b)) (toDk (dkA false false d))) && true) = true →
 (Φ Ex.ret (St.mk [(4, (AV.sb true)), (5, (AV.sb true)), (6, (AV.ptr 6 [])), (8, (AV.ptr 8 [])), (13, (AV.ptr 13 [])), (14, (AV.ptr 14 []))] [(6, (Blk.c (dkA false false d))), (8, (Blk.c (clA x))), (13, (Blk.c (AV.st [(dkA false false a), (AV.i (0 : Int))]))), (14, (Blk.c (AV.st [(dkA false false b), (AV.i (0 : Int))])))] [6, 8, 13, 14]))) ∧
 (((sameD (toDk (dkA false false b)) (toDk (dkA false false d))) && true) = false →
 (Φ Ex.ret (St.mk [(4, (AV.v (Value.bool false))), (5, (AV.sb true)), (6, (AV.ptr 6 [])), (8, (AV.ptr 8 [])), (13, (AV.ptr 13 [])), (14, (AV.ptr 14 []))] [(6, (Blk.c (dkA false false d))), (8, (Blk.c (clA x))), (13, (Blk.c (AV.st [(dkA false false a), (AV.i (0 : Int))]))), (14, (Blk.c (AV.st [(dkA false false b), (AV.i (0 : Int))])))] [6, 8, 13, 14]))))))) ∧
 (((strB (bytesL (List.length (gotB (cont (toDk (dkA false false a))) (Cl.i x) (Cl.s x))) (rowL (gotB (cont (toDk (dkA false false a))) (Cl.i x) (Cl.s x)))) (bytesL (List.length (Cl.b x)) (rowL (Cl.b x)))) && ((gotE (cont (toDk (dkA false false a))) (Cl.i x) (Cl.s x)) == (0 : Int))) = false →
 (Φ Ex.ret (St.mk [(4, (AV.v (Value.bool false))), (5, (AV.sb true)), (6, (AV.ptr 6 [])), (8, (AV.ptr 8 [])), (13, (AV.ptr 13 [])), (14, (AV.ptr 14 []))] [(6, (Blk.c (dkA false false d))), (8, (Blk.c (clA x))), (13, (Blk.c (AV.st [(dkA false false a), (AV.i (0 : Int))]))), (14, (Blk.c (AV.st [(dkA false false b), (AV.i (0 : Int))])))] [6, 8, 13, 14])))))))) ∧
 ((vldB (toDk (dkA false false a))) = false →
 (Φ Ex.ret (St.mk [(4, (AV.v (Value.bool false))), (5, (AV.sb true)), (6, (AV.ptr 6 [])), (8, (AV.ptr 8 [])), (13, (AV.ptr 13 [])), (14, (AV.ptr 14 []))] [(6, (Blk.c (dkA false false d))), (8, (Blk.c (clA x))), (13, (Blk.c (AV.st [(dkA false false a), (AV.i (0 : Int))]))), (14, (Blk.c (AV.st [(dkA false false b), (AV.i (0 : Int))])))] [6, 8, 13, 14]))))))) ∧
 (true = false →
 (Φ Ex.ret (St.mk [(4, (AV.v (Value.bool false))), (5, (AV.sb true)), (6, (AV.ptr 6 [])), (8, (AV.ptr 8 [])), (13, (AV.ptr 13 [])), (14, (AV.ptr 14 []))] [(6, (Blk.c (dkA false false d))), (8, (Blk.c (clA x))), (13, (Blk.c (AV.st [(dkA false false a), (AV.i (0 : Int))]))), (14, (Blk.c (AV.st [(dkA false false b), (AV.i (0 : Int))])))] [6, 8, 13, 14])))) := by kernel_rfl
theorem put_yes {d : Dk} {i s : Int} (h : inRng i s = true) {b : List Nat} (hb : b.length ≤ 1048576) : putD d i s b = pushD d (putJ i s b) ∧ putE i s b = 0 := by
  unfold putD putE
  rw [if_pos h, if_pos h, if_neg (by omega), if_neg (by omega)]
  exact ⟨rfl, rfl⟩
theorem cont_push (d : Dk) (j : Jb) : cont (pushD d j) = perf (cont d) j := cont_app d.l d.q j
theorem get_push {d : Dk} {i s : Int} {b : List Nat} (a k : Int) : getC (cont (pushD d (putJ i s b))) a k = if a = i ∧ k = s then some ⟨i, s, b, sumN b⟩ else getC (cont d) a k := by
  rw [cont_push]
  exact get_put (cont d) (j := putJ i s b) rfl a k
theorem got_at {L : List Cl} {i s : Int} {b : List Nat} (h : getC L i s = some ⟨i, s, b, sumN b⟩) : gotB L i s = b ∧ gotE L i s = 0 := by
  unfold gotB gotE
  rw [h]
  have hw : whC ⟨i, s, b, sumN b⟩ = true := whC_sum i s b
  show (if whC ⟨i, s, b, sumN b⟩ = true then b else []) = b ∧ (if whC ⟨i, s, b, sumN b⟩ = true then (0 : Int) else 221) = 0
  rw [if_pos hw, if_pos hw]
  exact ⟨rfl, rfl⟩
theorem xorB_nat {x y : Nat} (hx : x < 256) (hy : y < 256) : xorB x y = x ^^^ y := by
  have e : ∀ n : Nat, n < 256 → (BitVec.ofInt (IntKind.bits .u8) (n : Int)).toNat = n := fun n hn => by simp [IntKind.bits]; omega
  have h : x ^^^ y < 2 ^ 8 := Nat.xor_lt_two_pow (n := 8) hx hy
  unfold xorB bXor
  rw [BitVec.toNat_xor, e x hx, e y hy, wrap_u8]
  omega
theorem xor_back {x y : Nat} (hx : x < 256) (hy : y < 256) : xorB (xorB x y) y = x := by
  rw [xorB_nat (xorB_lt x y) hy, xorB_nat hx hy, Nat.xor_assoc, Nat.xor_self, Nat.xor_zero]
theorem setB_back {x : Cl} {i y : Nat} (hi : i < x.b.length) (hs : Small x.b) (hy : y < 256) : setB (setB x i y) i y = x := by
  obtain ⟨a, b, l, h⟩ := x
  show Cl.mk a b ((l.set i (xorB (l.getD i 0) y)).set i (xorB ((l.set i (xorB (l.getD i 0) y)).getD i 0) y)) h = ⟨a, b, l, h⟩
  have hi : i < l.length := hi
  rw [getD_set _ _ _ _ hi, if_pos rfl, List.set_set, xor_back (getD_small hs i) hy]
  congr 1
  rw [List.getD_eq_getElem?_getD, List.getElem?_eq_getElem hi]
  exact List.set_getElem_self hi
theorem rot_yes {d : Dk} {c k : Nat} (hc : c < d.l.length) (hk : k < (clAt d.l c).b.length) (y : Nat) : rotD d (c : Int) (k : Int) y = ⟨d.l.set c (setB (clAt d.l c) k y), d.q⟩ ∧ rotE d (c : Int) (k : Int) = 0 := by
  have hok : rotOK d (c : Int) (k : Int) = true := by
    unfold rotOK; simp
    exact ⟨hc, hk⟩
  unfold rotD rotE
  rw [if_pos hok, if_pos hok]
  exact ⟨rfl, rfl⟩
theorem maxN (n : Nat) : (Max.max ((n : Nat) : Int) (1 : Int)) = ((max n 1 : Nat) : Int) := by omega
theorem bne_yes {a b : Int} (h : (a != b) = true) : a ≠ b := by simpa using h
theorem lso_fun (ea : Bool) (e3 e4 : Nat → Bool) (l : List Rw) (hx : ∀ x, x ∈ l → OkRw x) (g : Nat → Nat) (hg : ∀ i, i < 3 → g i < 256) : Fun C P F_lso [rwsA ea e3 e4 l, by3 g] [] (.sb true) [] := by
  refine in_lso (W := w_lso) rfl 0 (by simp) rfl (fun id h => absurd rfl h) fun D => ?_
  rw [lso_A ea e3 e4 l g 0 _, toRws_A]
  have hm := made_fun ea e3 e4 l 10 hx (by decide)
  obtain ⟨hv0, few⟩ := made_ok hx 10
  have hlen := few.len
  obtain ⟨d0, ed⟩ : ∃ d, d = madeN l (min 10 l.length) := ⟨_, rfl⟩
  rw [← ed] at hm hv0 hlen ⊢
  rw [toDk_A]
  have hsy := rsync_fun false false d0 hv0.so (by omega)
  have hv := hv0.sync
  have ln := cont_len hv0.so
  have hdv : syncD d0 = ⟨(syncD d0).l, []⟩ := rfl
  have ln : (syncD d0).l.length ≤ 10 := by show (cont d0).length ≤ 10; omega
  refine ⟨sanity_fun, trivial, hm, hsy, TD2, ?_⟩
  obtain ⟨d, edd⟩ : ∃ d, d = syncD d0 := ⟨_, rfl⟩
  rw [← edd] at hv ln hdv
  refine cut_ok (S2 := S_lso3 g d) (ent_of [(3, 3), (6, 6)] rfl (tm_cons rfl (sm_ptr rfl) (tm_cons rfl (sm_same rfl) (tm_cons rfl (sm_ptr rfl) tm_nil))) (hp_cons rfl rfl (sm_same rfl) (hp_cons rfl rfl (by rw [edd]; exact sm_same rfl) hp_nil))) ?_
  clear hsy hm edd hlen few ed hv0
  have dq : d.q = [] := by rw [hdv]
  have lq : d.q.length = 0 := by rw [dq]; rfl
  have hcd : cont d = d.l := by rw [hdv]; rfl
  have g0 := hg 0 (by decide); have g1 := hg 1 (by decide); have g2 := hg 2 (by decide)
  rw [lso_C3 g d 0 _]
  refine ⟨fun _ => post_tmp rfl (sm_same rfl), fun h0 => ⟨by decide, ⟨by omega, by omega⟩, bne_yes (by rw [bne, h0]; rfl), ?_⟩⟩
  have hpos : 0 < d.l.length := by
    rcases Nat.eq_zero_or_pos d.l.length with h | h
    · rw [h] at h0; cases h0
    · exact h
  have hc : g 0 % d.l.length < d.l.length := Nat.mod_lt _ hpos
  obtain ⟨c, ec⟩ : ∃ c, c = g 0 % d.l.length := ⟨_, rfl⟩
  rw [← ec] at hc ⊢
  refine cut_ok (S2 := S_lso6 g d c) (ent_of [(3, 3), (6, 6)] rfl (tm_cons rfl (sm_ptr rfl) (tm_cons rfl (sm_same rfl) (tm_cons rfl (sm_ptr rfl) (tm_cons rfl (sm_same rfl) tm_nil)))) (hp_cons rfl rfl (sm_same rfl) (hp_cons rfl rfl (sm_same rfl) hp_nil))) ?_
  rw [lso_C6 g d c 0 _]
  have hmem : clAt d.l c ∈ d.l := by rw [clAt_lt hc]; exact List.getElem_mem hc
  obtain ⟨x, ex⟩ : ∃ x, x = clAt d.l c := ⟨_, rfl⟩
  rw [← ex] at hmem ⊢
  have okx := hv.cs x hmem
  have sx : Small x.b := okx.2.2.2.2.2.1
  have lx : x.b.length ≤ 1048576 := okx.2.2.2.2.1
  refine ⟨⟨by omega, by omega⟩, TC4, cut_ok (S2 := S_lso7 g d c x) (ent_of [(3, 3), (6, 6), (8, 8)] rfl (tm_cons rfl (sm_ptr rfl) (tm_cons rfl (sm_same rfl) (tm_cons rfl (sm_ptr rfl) (tm_cons rfl (sm_same rfl) (tm_cons rfl (sm_ptr rfl) tm_nil))))) (hp_cons rfl rfl (sm_same rfl) (hp_cons rfl rfl (sm_same rfl) (hp_cons rfl rfl (sm_same rfl) hp_nil)))) ?_⟩
  rw [lso_C7 g d c x 0 _, toDk_A]
  have hbl : ∀ e, e ∈ d.l → e.b.length < 2 ^ 40 := fun e he => by have := (hv.cs e he).2.2.2.2.1; omega
  have lro : ∀ (w : Dk) (k y : Nat), w.l.length < 2 ^ 36 → (∀ e, e ∈ w.l → e.b.length < 2 ^ 40) → Fun C P F_lrot [dkA false false w, (AV.arr 2 1 (layParts (fun (_ : Nat) => (AV.i (0 : Int))) [(0, (AV.i ((c : Nat) : Int))), (1, (AV.i ((k : Nat) : Int)))])), u8 y] [] (.st [dkA false false (rotD w (c : Int) (k : Int) y), .i (rotE w (c : Int) (k : Int))]) [] := fun w k y h1 h2 =>
    (lrot_fun false false w (fun j => if j = 0 then ((c : Nat) : Int) else ((k : Nat) : Int)) y h1 h2).sim ⟨sm_same rfl, sm_arr fun j hj => (match j, hj with | 0, _ => rfl | 1, _ => rfl), sm_same rfl, trivial⟩ trivial
  refine ⟨fun h1 => ⟨lro d 0 1 (by omega) hbl, beq_then ?_ (post_tmp rfl (sm_same rfl))⟩, fun h1 => ?_⟩
  · have : x.b.length = 0 := by
      have : ((x.b.length : Nat) : Int) = 0 := by simpa using h1
      omega
    have no : rotOK d (c : Int) 0 = false := by
      unfold rotOK
      have e : (d.l.getD ((c : Nat) : Int).toNat cl0).b.length = 0 := by rw [Int.toNat_natCast]; show (clAt d.l c).b.length = 0; rw [← ex]; exact this
      rw [e]; simp
    exact (rot_no no 1).2
  have hxp : 0 < x.b.length := by
    rcases Nat.eq_zero_or_pos x.b.length with h | h
    · rw [h] at h1; cases h1
    · exact h
  refine cut_ok (S2 := S_lso7 g d c x) (ent_of [(3, 3), (6, 6), (8, 8)] rfl (tm_cons rfl (sm_ptr rfl) (tm_cons rfl (sm_same rfl) (tm_cons rfl (sm_ptr rfl) (tm_cons rfl (sm_same rfl) (tm_cons rfl (sm_ptr rfl) tm_nil))))) (hp_cons rfl rfl (sm_same rfl) (hp_cons rfl rfl (sm_same rfl) (hp_cons rfl rfl (sm_same rfl) hp_nil)))) ?_
  rw [lso_C9 g d c x 0 _]
  have hi : g 1 % x.b.length < x.b.length := Nat.mod_lt _ hxp
  obtain ⟨i, ei⟩ : ∃ i, i = g 1 % x.b.length := ⟨_, rfl⟩
  rw [← ei] at hi ⊢
  refine ⟨by decide, ⟨by omega, by omega⟩, by omega, cut_ok (S2 := S_lso10 g d c i x) (ent_of [(3, 3), (6, 6), (8, 8)] rfl (tm_cons rfl (sm_ptr rfl) (tm_cons rfl (sm_same rfl) (tm_cons rfl (sm_ptr rfl) (tm_cons rfl (sm_same rfl) (tm_cons rfl (sm_ptr rfl) (tm_cons rfl (sm_same rfl) tm_nil)))))) (hp_cons rfl rfl (sm_same rfl) (hp_cons rfl rfl (sm_same rfl) (hp_cons rfl rfl (sm_same rfl) hp_nil)))) ?_⟩
  rw [lso_C10 g d c i x 0 _, maxN, toDk_A, Int.toNat_natCast]
  have hy : max (g 2) 1 < 256 := by omega
  obtain ⟨y, ey⟩ : ∃ y, y = max (g 2) 1 := ⟨_, rfl⟩
  rw [← ey] at hy ⊢
  obtain ⟨r1, r2⟩ := rot_yes hc (show i < (clAt d.l c).b.length by rw [← ex]; exact hi) y
  have vr : VD (rotD d (c : Int) (i : Int) y) := hv.rot _ _ _
  have hro := lro d i y (by omega) hbl
  rw [r1, r2, dq, ← ex] at hro
  rw [r1, dq, ← ex] at vr
  rw [r1, r2, dq, ← ex]
  have lr : (d.l.set c (setB x i y)).length = d.l.length := List.length_set
  have rc : ∀ k, k < d.l.length → clAt (d.l.set c (setB x i y)) k = if k = c then setB x i y else clAt d.l k := fun k hk => clAt_set d.l c _ k hk
  have rset : (d.l.set c (setB x i y)).set c (setB (setB x i y) i y) = d.l := by
    rw [List.set_set, setB_back hi sx hy, ex, clAt_lt hc]
    exact List.set_getElem_self hc
  obtain ⟨r, er⟩ : ∃ r : Dk, r = ⟨d.l.set c (setB x i y), []⟩ := ⟨_, rfl⟩
  have rl : r.l = d.l.set c (setB x i y) := by rw [er]
  have rq : r.q = [] := by rw [er]
  rw [← er] at hro vr ⊢
  rw [← rl] at lr rc rset
  have hcr : cont r = r.l := by rw [er]; rfl
  have lr2 : r.l.length + r.q.length ≤ 10 := by rw [rq]; show r.l.length + 0 ≤ 10; omega
  refine ⟨by decide, hro, TW, cut_ok (S2 := S_lso11 g d r c i x) (ent_of [(3, 3), (6, 6), (8, 8), (10, 10)] rfl (tm_cons rfl (sm_ptr rfl) (tm_cons rfl (sm_same rfl) (tm_cons rfl (sm_ptr rfl) (tm_cons rfl (sm_same rfl) (tm_cons rfl (sm_ptr rfl) (tm_cons rfl (sm_same rfl) (tm_cons rfl (sm_ptr rfl) tm_nil))))))) (hp_cons rfl rfl (sm_same rfl) (hp_cons rfl rfl (sm_same rfl) (hp_cons rfl rfl (sm_same rfl) (hp_cons rfl rfl (sm_same rfl) hp_nil))))) ?_⟩
  have rcc : clAt r.l c = setB x i y := by rw [rc c hc, if_pos rfl]
  have xb : (setB x i y).b.length = x.b.length := List.length_set
  have xg : ((setB x i y).b.getD i 0 : Nat) = xorB (x.b.getD i 0) y := by
    show (x.b.set i (xorB (x.b.getD i 0) y)).getD i 0 = _
    rw [getD_set _ _ _ _ hi, if_pos rfl]
  rw [lso_C11 g d r c i x 0 _, toDk_A, rcc, maxN, ← ey]
  refine ⟨fun h => (by cases h), fun _ => ⟨rvalid_fun false false r (vr.smV (by omega)), trivial, nf_then vr.vld (bne_then (by rw [lr]) ⟨⟨by omega, by omega⟩, bne_then (by rw [xb]) ⟨⟨by omega, by omega⟩, ⟨by omega, by rw [xb]; omega⟩, ⟨by omega, by omega⟩, by decide, bne_then (by rw [xg, xorB_int]) (cut_ok (S2 := S_lso11 g d r c i x) (ent_of [(3, 3), (6, 6), (8, 8), (10, 10)] rfl (tm_cons rfl (sm_ptr rfl) (tm_cons rfl (sm_same rfl) (tm_cons rfl (sm_ptr rfl) (tm_cons rfl (sm_same rfl) (tm_cons rfl (sm_ptr rfl) (tm_cons rfl (sm_same rfl) (tm_cons rfl (sm_ptr rfl) tm_nil))))))) (hp_cons rfl rfl (sm_same rfl) (hp_cons rfl rfl (sm_same rfl) (hp_cons rfl rfl (sm_same rfl) (hp_cons rfl rfl (sm_same rfl) hp_nil))))) ?_)⟩⟩)⟩⟩
  rw [lso_C13 g d r c i x 0 _, toDk_A]
  have hgr := lget_fun false false r vr x.i x.s (by omega)
  refine ⟨hgr, TD2, cut_ok (S2 := S_lso14 g d r c i x (gotB (cont r) x.i x.s) (gotE (cont r) x.i x.s)) (ent_of [(3, 3), (6, 6), (8, 8), (10, 10), (11, 11)] rfl (tm_cons rfl (sm_ptr rfl) (tm_cons rfl (sm_same rfl) (tm_cons rfl (sm_ptr rfl) (tm_cons rfl (sm_same rfl) (tm_cons rfl (sm_ptr rfl) (tm_cons rfl (sm_same rfl) (tm_cons rfl (sm_ptr rfl) (tm_cons rfl (sm_ptr rfl) tm_nil)))))))) (hp_cons rfl rfl (sm_same rfl) (hp_cons rfl rfl (sm_same rfl) (hp_cons rfl rfl (sm_same rfl) (hp_cons rfl rfl (sm_same rfl) (hp_cons rfl rfl (sm_same rfl) hp_nil)))))) ?_⟩
  rw [lso_C14 g d r c i x _ _ 0 _, rcc, bytesL_row]
  have gx : getC (cont r) x.i x.s = some (setB x i y) := by
    have hmr : setB x i y ∈ r.l := by rw [← rcc, clAt_lt (show c < r.l.length by omega)]; exact List.getElem_mem _
    rw [hcr]
    exact getC_mem vr.so hmr
  have ge : gotE (cont r) x.i x.s = if whC (setB x i y) = true then 0 else 221 := by unfold gotE; rw [gx]
  have hw : (List.all (List.range 32) (fun (i1 : Nat) => ((((sumN (setB x i y).b i1) : Nat) : Int) == (((x.h i1) : Nat) : Int)))) = whC (setB x i y) := rfl
  have sr : Small (setB x i y).b := set_small sx i (xorB_lt _ _)
  have hrs := rsum_call (n := (setB x i y).b.length) (e := 1) (ex := false) (f := rowL (setB x i y).b) (fun i _ => ⟨rfl, getD_small sr i⟩) (.inr rfl) (by rw [xb]; omega)
  rw [bytesL_row] at hrs
  have tail : ∀ {S : St}, (∀ {D : Dom}, Ent C 242 D 0 S (S_lso11 g d r c i x)) → ∃ S2, Ent C 242 D 0 S S2 ∧ Holds C P 242 D 0 (FunPost C 242 0 [.tmp 4] (.sb true) []) (cutAt C w_lso b_lso [1, 1, 1, 1, 1, 1, 1, 1, 1, 1, 1, 1, 0, 0] S2 (after C w_lso b_lso [1, 1, 1, 1, 1, 1, 1, 1, 1, 1, 1, 1, 0, 0] [] lf)) := fun he => ⟨_, he, by
    rw [lso_C16 g d r c i x 0 _]
    refine loop_inv (W := w_lso) ctx mixed ok_lso_0 (I_lso g d r c i x) (fun k => k ≤ d.l.length) (fun k => d.l.length - k) 0 (Nat.zero_le _) ?_ fun k hk => ?_
    · exact ent_of [(3, 3), (6, 6), (8, 8), (10, 10)] rfl (tm_cons rfl (sm_ptr rfl) (tm_cons rfl (sm_same rfl) (tm_cons rfl (sm_ptr rfl) (tm_cons rfl (sm_same rfl) (tm_cons rfl (sm_ptr rfl) (tm_cons rfl (sm_same rfl) (tm_cons rfl (sm_ptr rfl) (tm_cons rfl (sm_same rfl) tm_nil)))))))) (hp_cons rfl rfl (sm_same rfl) (hp_cons rfl rfl (sm_same rfl) (hp_cons rfl rfl (sm_same rfl) (hp_cons rfl rfl (sm_same rfl) hp_nil))))
    refine of_eq (lso_L0 g d r c i x k 0 _) ⟨fun h => ?_, fun h => ?_⟩
    · simp only [decide_eq_true_eq] at h
      have hkl : k < d.l.length := by omega
      have B : ((0 : Int) ≤ (k : Int)) ∧ ((k : Int) < (d.l.length : Int)) := ⟨by omega, h⟩
      refine ⟨fun hkc => ?_, fun _ => ⟨⟨by omega, by omega⟩, round_end (k + 1) (by omega) (ent_of [(3, 3), (6, 6), (8, 8), (10, 10)] rfl (tm_cons rfl (sm_ptr rfl) (tm_cons rfl (sm_same rfl) (tm_cons rfl (sm_ptr rfl) (tm_cons rfl (sm_same rfl) (tm_cons rfl (sm_ptr rfl) (tm_cons rfl (sm_same rfl) (tm_cons rfl (sm_ptr rfl) (tm_cons rfl (sm_same rfl) tm_nil)))))))) (hp_cons rfl rfl (sm_same rfl) (hp_cons rfl rfl (sm_same rfl) (hp_cons rfl rfl (sm_same rfl) (hp_cons rfl rfl (sm_same rfl) hp_nil))))) (by dsimp only; omega)⟩⟩
      have hkc : k ≠ c := fun e => bne_yes hkc (by rw [e])
      rw [toDk_A, toDk_A, bytesL_row, bytesL_row]
      have m1 : clAt d.l k ∈ d.l := by rw [clAt_lt hkl]; exact List.getElem_mem _
      have m2 : clAt d.l k ∈ r.l := by
        have : clAt r.l k = clAt d.l k := by rw [rc k hkl, if_neg hkc]
        rw [← this, clAt_lt (show k < r.l.length by omega)]; exact List.getElem_mem _
      have e : getC (cont r) (clAt d.l k).i (clAt d.l k).s = getC (cont d) (clAt d.l k).i (clAt d.l k).s := by
        rw [hcr, hcd, getC_mem vr.so m2, getC_mem hv.so m1]
      exact ⟨B, B, lget_fun false false r vr _ _ (by omega), B, B, lget_fun false false d hv _ _ (by omega), sgot_fun _ _ _ _ (vr.gotB _ _) (hv.gotB _ _), trivial, nf_then (sgB_of e) ⟨⟨by omega, by omega⟩, round_end (k + 1) (by omega) (ent_of [(3, 3), (6, 6), (8, 8), (10, 10)] rfl (tm_cons rfl (sm_ptr rfl) (tm_cons rfl (sm_same rfl) (tm_cons rfl (sm_ptr rfl) (tm_cons rfl (sm_same rfl) (tm_cons rfl (sm_ptr rfl) (tm_cons rfl (sm_same rfl) (tm_cons rfl (sm_ptr rfl) (tm_cons rfl (sm_same rfl) tm_nil)))))))) (hp_cons rfl rfl (sm_same rfl) (hp_cons rfl rfl (sm_same rfl) (hp_cons rfl rfl (sm_same rfl) (hp_cons rfl rfl (sm_same rfl) hp_nil))))) (by dsimp only; omega)⟩⟩
    · refine cut_ok (S2 := S_lso11 g d r c i x) (ent_of [(3, 3), (6, 6), (8, 8), (10, 10)] rfl (tm_cons rfl (sm_ptr rfl) (tm_cons rfl (sm_same rfl) (tm_cons rfl (sm_ptr rfl) (tm_cons rfl (sm_same rfl) (tm_cons rfl (sm_ptr rfl) (tm_cons rfl (sm_same rfl) (tm_cons rfl (sm_ptr rfl) tm_nil))))))) (hp_cons rfl rfl (sm_same rfl) (hp_cons rfl rfl (sm_same rfl) (hp_cons rfl rfl (sm_same rfl) (hp_cons rfl rfl (sm_same rfl) hp_nil))))) ?_
      have hin : inRng x.i x.s = true := inRng_iff.2 ⟨okx.1, okx.2.1, okx.2.2.1, okx.2.2.2.1⟩
      rw [lso_C21 g d r c i x 0 _, toDk_A, bytesL_row]
      have p0 := lput_fun false false r x.i x.s false x.b sx (by omega) (by omega)
      have va : VD (pushD r (putJ x.i x.s x.b)) := by have := vr.put x.i x.s sx; rwa [(put_yes hin lx).1] at this
      rw [(put_yes hin lx).1, (put_yes (d := r) hin lx).2] at p0 ⊢
      obtain ⟨a1, a2⟩ := got_at (L := cont (pushD r (putJ x.i x.s x.b))) (i := x.i) (s := x.s) (b := x.b) (by rw [get_push, if_pos ⟨rfl, rfl⟩])
      have la : (pushD r (putJ x.i x.s x.b)).l.length + (pushD r (putJ x.i x.s x.b)).q.length = r.l.length + r.q.length + 1 := by
        show r.l.length + (r.q ++ [_]).length = _
        rw [List.length_append]; rfl
      obtain ⟨a, eaa⟩ : ∃ a, a = pushD r (putJ x.i x.s x.b) := ⟨_, rfl⟩
      rw [← eaa] at p0 va a1 a2 la ⊢
      refine ⟨p0, TW, cut_ok (S2 := S_lso22 g d r a c i x) (ent_of [(3, 3), (6, 6), (8, 8), (10, 10), (13, 13)] rfl (tm_cons rfl (sm_ptr rfl) (tm_cons rfl (sm_same rfl) (tm_cons rfl (sm_ptr rfl) (tm_cons rfl (sm_same rfl) (tm_cons rfl (sm_ptr rfl) (tm_cons rfl (sm_same rfl) (tm_cons rfl (sm_ptr rfl) (tm_cons rfl (sm_ptr rfl) tm_nil)))))))) (hp_cons rfl rfl (sm_same rfl) (hp_cons rfl rfl (sm_same rfl) (hp_cons rfl rfl (sm_same rfl) (hp_cons rfl rfl (sm_same rfl) (hp_cons rfl rfl (sm_same rfl) hp_nil)))))) ?_⟩
      rw [lso_C22 g d r a c i x 0 _, maxN, toDk_A, Int.toNat_natCast, ← ey]
      have hbr : ∀ e, e ∈ r.l → e.b.length < 2 ^ 40 := fun e he => by have := (vr.cs e he).2.2.2.2.1; omega
      obtain ⟨q1, q2⟩ := rot_yes (d := r) (c := c) (k := i) (by omega) (by rw [rcc, xb]; exact hi) y
      have hro2 := lro r i y (by omega) hbr
      have eb : rotD r (c : Int) (i : Int) y = d := by rw [q1, rcc, rset, rq]; exact hdv.symm
      rw [eb, q2] at hro2 ⊢
      refine ⟨by decide, hro2, TW, cut_ok (S2 := S_lso23 d a d x) (ent_of [(6, 6), (8, 8), (13, 13), (14, 14)] rfl (tm_cons rfl (sm_same rfl) (tm_cons rfl (sm_ptr rfl) (tm_cons rfl (sm_ptr rfl) (tm_cons rfl (sm_ptr rfl) (tm_cons rfl (sm_ptr rfl) tm_nil))))) (hp_cons rfl rfl (sm_same rfl) (hp_cons rfl rfl (sm_same rfl) (hp_cons rfl rfl (sm_same rfl) (hp_cons rfl rfl (sm_same rfl) hp_nil))))) ?_⟩
      rw [lso_C23 d a d x 0 _, toDk_A, toDk_A, bytesL_row, bytesL_row]
      have sw := swrote_fun false false false false d d 0 0 hv.smD hv.smD (by omega)
      refine tt_then rfl ⟨rvalid_fun false false a (va.smV (by omega)), trivial, tt_then va.vld ⟨lget_fun false false a va x.i x.s (by omega), sgot_fun _ _ _ _ (va.gotB x.i x.s) sx, trivial, tt_then (by rw [a1, a2, strB_refl]; rfl) ⟨fun_cast sw (by rfl), trivial, tt_then (by rw [sameD_refl]; rfl) (post_tmp rfl (sm_same rfl))⟩⟩⟩⟩
  refine ⟨⟨by omega, by omega⟩, hrs, fun _ _ => trivial, fun _ _ => ⟨rfl, rfl⟩, ?_⟩
  rw [hw, ge]
  by_cases hww : whC (setB x i y) = true
  · rw [if_pos hww, hww]
    exact ff_then rfl (ff_then rfl (tail (ent_of [(3, 3), (6, 6), (8, 8), (10, 10)] rfl (tm_cons rfl (sm_ptr rfl) (tm_cons rfl (sm_same rfl) (tm_cons rfl (sm_ptr rfl) (tm_cons rfl (sm_same rfl) (tm_cons rfl (sm_ptr rfl) (tm_cons rfl (sm_same rfl) (tm_cons rfl (sm_ptr rfl) tm_nil))))))) (hp_cons rfl rfl (sm_same rfl) (hp_cons rfl rfl (sm_same rfl) (hp_cons rfl rfl (sm_same rfl) (hp_cons rfl rfl (sm_same rfl) hp_nil)))))))
  · rw [if_neg hww, show whC (setB x i y) = false by simpa using hww]
    exact ff_then rfl (tt_then rfl (ff_then rfl (tail (ent_of [(3, 3), (6, 6), (8, 8), (10, 10)] rfl (tm_cons rfl (sm_ptr rfl) (tm_cons rfl (sm_same rfl) (tm_cons rfl (sm_ptr rfl) (tm_cons rfl (sm_same rfl) (tm_cons rfl (sm_ptr rfl) (tm_cons rfl (sm_same rfl) (tm_cons rfl (sm_ptr rfl) tm_nil))))))) (hp_cons rfl rfl (sm_same rfl) (hp_cons rfl rfl (sm_same rfl) (hp_cons rfl rfl (sm_same rfl) (hp_cons rfl rfl (sm_same rfl) hp_nil))))))))
theorem ty_by3 {x : AV} (h : Typed C.tt 6 64 x) : ∃ g : Nat → Nat, (∀ i, i < 3 → g i < 256) ∧ simR some x (by3 g) := by
  obtain ⟨z, hz, f, rfl, hf⟩ := typed_u8s (n := 4) (t := 64) (e := 5) (m := 3) (by kernel_rfl) (by kernel_rfl) (by kernel_rfl) h
  exact ⟨z, hz, sm_arr hf⟩
theorem lso_law {x0 x1 : AV} (h0 : Typed C.tt 6 22 x0) (h1 : Typed C.tt 6 64 x1) : Fun C P F_lso [x0, x1] [] (.sb true) [] := by
  obtain ⟨l, ea, e3, e4, _, hx, s0⟩ := ty_raws h0
  obtain ⟨g, hg, s1⟩ := ty_by3 h1
  exact (lso_fun ea e3 e4 l hx g hg).sim ⟨s0, s1, trivial⟩ trivial
end Go.Bu.W

