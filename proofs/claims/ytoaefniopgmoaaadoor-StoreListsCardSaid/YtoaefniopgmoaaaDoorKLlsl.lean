/- The list of cells has exactly those that can be read or are rotten, in order; the bad cells are those that are rotten. -/
import Derived.Test.YtoaefniopgmoaaaDoorK25
namespace Go.Bu.W
open Sp
def w_lsl : Way := wayN2 [0, 2, 3, 4, 5, 6, 7, 8, 9, 10, 11, 20, 24, 35, 51, 55, 79] 95 [3,4,12,20]
def S_lsl3 (d : Dk) : St := { tm := [(3, .sb true), (4, .ptr 4 [])], hp := [(4, .c (dkA false false d))], seen := [4] }
def S_lsl4 (d : Dk) (L B : List Cl) : St := { tm := [(3, .sb true), (4, .ptr 4 []), (5, nlA false L), (6, csA false B)], hp := [(4, .c (dkA false false d))], seen := [4] }
def I_lsl0 (d : Dk) (L B : List Cl) (F G : Nat → Nat → Nat) (i : Nat) : St := { tm := [(3, .sb true), (4, .ptr 4 []), (5, nlA false L), (6, csA false B), (7, .i (F i 0)), (8, .i (G i 0)), (9, .i i)], hp := [(4, .c (dkA false false d))], seen := [4] }
def I_lsl1 (d : Dk) (L B : List Cl) (F G : Nat → Nat → Nat) (i k : Nat) : St := { tm := [(3, .sb true), (4, .ptr 4 []), (5, nlA false L), (6, csA false B), (7, .i (F i k)), (8, .i (G i k)), (9, .i i), (10, .i k)], hp := [(4, .c (dkA false false d))], seen := [4] }
def S_lsl12 (d : Dk) (L B : List Cl) (a n : Nat) (i k : Nat) (e : Int) : St := { tm := [(3, .sb true), (4, .ptr 4 []), (5, nlA false L), (6, csA false B), (7, .i a), (8, .i n), (9, .i i), (10, .i k), (11, .i e)], hp := [(4, .c (dkA false false d))], seen := [4] }
def S_lsl20 (L B : List Cl) (a n : Nat) : St := { tm := [(3, .sb true), (5, nlA false L), (6, csA false B), (7, .i a), (8, .i n)], hp := [], seen := [] }
theorem lsl_A (ea : Bool) (e3 e4 : Nat → Bool) (l : List Rw) {D : Dom} (K : Nat) (Φ : Ex → St → Prop) :
 (Holds C P 95 D K Φ (vc C w_lsl b_lsl [] (start [rwsA ea e3 e4 l] []) lf)) =
 (Fun C P 11 [] [] (AV.sb true) [] ∧
 (True ∧
 (Fun C P 20 [(AV.dat (List.length l) ea 5 (fun (i : Nat) => (rwA (e3 i) (e4 i) (rwAt l i)))), (AV.i (12 : Int))] [] (AV.st [(AV.dat (List.length (Dk.l (madeN (toRws (AV.dat (List.length l) ea 5 (fun (i : Nat) => (rwA (e3 i) (e4 i) (rwAt l i))))) (Min.min 12 (List.length (toRws (AV.dat (List.length l) ea 5 (fun (i : Nat) => (rwA (e3 i) (e4 i) (rwAt l i)))))))))) false 35 (fun (i : Nat) => (AV.st [(AV.i (Cl.i (clAt (Dk.l (madeN (toRws (AV.dat (List.length l) ea 5 (fun (i1 : Nat) => (rwA (e3 i1) (e4 i1) (rwAt l i1))))) (Min.min 12 (List.length (toRws (AV.dat (List.length l) ea 5 (fun (i1 : Nat) => (rwA (e3 i1) (e4 i1) (rwAt l i1))))))))) i))), (AV.i (Cl.s (clAt (Dk.l (madeN (toRws (AV.dat (List.length l) ea 5 (fun (i1 : Nat) => (rwA (e3 i1) (e4 i1) (rwAt l i1))))) (Min.min 12 (List.length (toRws (AV.dat (List.length l) ea 5 (fun (i1 : Nat) => (rwA (e3 i1) (e4 i1) (rwAt l i1))))))))) i))), (AV.dat (List.length (Cl.b (clAt (Dk.l (madeN (toRws (AV.dat (List.length l) ea 5 (fun (i1 : Nat) => (rwA (e3 i1) (e4 i1) (rwAt l i1))))) (Min.min 12 (List.length (toRws (AV.dat (List.length l) ea 5 (fun (i1 : Nat) => (rwA (e3 i1) (e4 i1) (rwAt l i1))))))))) i))) false 1 (rowL (Cl.b (clAt (Dk.l (madeN (toRws (AV.dat (List.length l) ea 5 (fun (i1 : Nat) => (rwA (e3 i1) (e4 i1) (rwAt l i1))))) (Min.min 12 (List.length (toRws (AV.dat (List.length l) ea 5 (fun (i1 : Nat) => (rwA (e3 i1) (e4 i1) (rwAt l i1))))))))) i)))), (hA (Cl.h (clAt (Dk.l (madeN (toRws (AV.dat (List.length l) ea 5 (fun (i2 : Nat) => (rwA (e3 i2) (e4 i2) (rwAt l i2))))) (Min.min 12 (List.length (toRws (AV.dat (List.length l) ea 5 (fun (i2 : Nat) => (rwA (e3 i2) (e4 i2) (rwAt l i2))))))))) i)))]))), (AV.dat (List.length (Dk.q (madeN (toRws (AV.dat (List.length l) ea 5 (fun (i : Nat) => (rwA (e3 i) (e4 i) (rwAt l i))))) (Min.min 12 (List.length (toRws (AV.dat (List.length l) ea 5 (fun (i : Nat) => (rwA (e3 i) (e4 i) (rwAt l i)))))))))) false 36 (fun (i : Nat) => (AV.st [(AV.sb (Jb.dr (jbAt (Dk.q (madeN (toRws (AV.dat (List.length l) ea 5 (fun (i1 : Nat) => (rwA (e3 i1) (e4 i1) (rwAt l i1))))) (Min.min 12 (List.length (toRws (AV.dat (List.length l) ea 5 (fun (i1 : Nat) => (rwA (e3 i1) (e4 i1) (rwAt l i1))))))))) i))), (AV.st [(AV.i (Cl.i (Jb.c (jbAt (Dk.q (madeN (toRws (AV.dat (List.length l) ea 5 (fun (i1 : Nat) => (rwA (e3 i1) (e4 i1) (rwAt l i1))))) (Min.min 12 (List.length (toRws (AV.dat (List.length l) ea 5 (fun (i1 : Nat) => (rwA (e3 i1) (e4 i1) (rwAt l i1))))))))) i)))), (AV.i (Cl.s (Jb.c (jbAt (Dk.q (madeN (toRws (AV.dat (List.length l) ea 5 (fun (i1 : Nat) => (rwA (e3 i1) (e4 i1) (rwAt l i1))))) (Min.min 12 (List.length (toRws (AV.dat (List.length l) ea 5 (fun (i1 : Nat) => (rwA (e3 i1) (e4 i1) (rwAt l i1))))))))) i)))), (AV.dat (List.length (Cl.b (Jb.c (jbAt (Dk.q (madeN (toRws (AV.dat (List.length l) ea 5 (fun (i1 : Nat) => (rwA (e3 i1) (e4 i1) (rwAt l i1))))) (Min.min 12 (List.length (toRws (AV.dat (List.length l) ea 5 (fun (i1 : Nat) => (rwA (e3 i1) (e4 i1) (rwAt l i1))))))))) i)))) false 1 (rowL (Cl.b (Jb.c (jbAt (Dk.q (madeN (toRws (AV.dat (List.length l) ea 5 (fun (i1 : Nat) => (rwA (e3 i1) (e4 i1) (rwAt l i1))))) (Min.min 12 (List.length (toRws (AV.dat (List.length l) ea 5 (fun (i1 : Nat) => (rwA (e3 i1) (e4 i1) (rwAt l i1))))))))) i))))), (hA (Cl.h (Jb.c (jbAt (Dk.q (madeN (toRws (AV.dat (List.length l) ea 5 (fun (i2 : Nat) => (rwA (e3 i2) (e4 i2) (rwAt l i2))))) (Min.min 12 (List.length (toRws (AV.dat (List.length l) ea 5 (fun (i2 : Nat) => (rwA (e3 i2) (e4 i2) (rwAt l i2))))))))) i))))])])))]) [] ∧
 ((((true = true) ∧ (true = true)) ∧ (((true = true) ∧ (true = true)) ∧ True)) ∧
 (∃ (S2 : St), Ent C 95 D K (St.mk [(0, (AV.dat (List.length l) ea 5 (fun (i : Nat) => (rwA (e3 i) (e4 i) (rwAt l i))))), (2, (AV.v (Value.bool false))), (3, (AV.sb true)), (4, (AV.ptr 4 []))] [(4, (Blk.c (AV.st [(AV.dat (List.length (Dk.l (madeN (toRws (AV.dat (List.length l) ea 5 (fun (i : Nat) => (rwA (e3 i) (e4 i) (rwAt l i))))) (Min.min 12 (List.length (toRws (AV.dat (List.length l) ea 5 (fun (i : Nat) => (rwA (e3 i) (e4 i) (rwAt l i)))))))))) false 35 (fun (i : Nat) => (AV.st [(AV.i (Cl.i (clAt (Dk.l (madeN (toRws (AV.dat (List.length l) ea 5 (fun (i1 : Nat) => (rwA (e3 i1) (e4 i1) (rwAt l i1))))) (Min.min 12 (List.length (toRws (AV.dat (List.length l) ea 5 (fun (i1 : Nat) => (rwA (e3 i1) (e4 i1) (rwAt l i1))))))))) i))), (AV.i (Cl.s (clAt (Dk.l (madeN (toRws (AV.dat (List.length l) ea 5 (fun (i1 : Nat) => (rwA (e3 i1) (e4 i1) (rwAt l i1))))) (Min.min 12 (List.length (toRws (AV.dat (List.length l) ea 5 (fun (i1 : Nat) => (rwA (e3 i1) (e4 i1) (rwAt l i1))))))))) i))), (AV.dat (List.length (Cl.b (clAt (Dk.l (madeN (toRws (AV.dat (List.length l) ea 5 (fun (i1 : Nat) => (rwA (e3 i1) (e4 i1) (rwAt l i1))))) (Min.min 12 (List.length (toRws (AV.dat (List.length l) ea 5 (fun (i1 : Nat) => (rwA (e3 i1) (e4 i1) (rwAt l i1))))))))) i))) false 1 (rowL (Cl.b (clAt (Dk.l (madeN (toRws (AV.dat (List.length l) ea 5 (fun (i1 : Nat) => (rwA (e3 i1) (e4 i1) (rwAt l i1))))) (Min.min 12 (List.length (toRws (AV.dat (List.length l) ea 5 (fun (i1 : Nat) => (rwA (e3 i1) (e4 i1) (rwAt l i1))))))))) i)))), (hA (Cl.h (clAt (Dk.l (madeN (toRws (AV.dat (List.length l) ea 5 (fun (i2 : Nat) => (rwA (e3 i2) (e4 i2) (rwAt l i2))))) (Min.min 12 (List.length (toRws (AV.dat (List.length l) ea 5 (fun (i2 : Nat) => (rwA (e3 i2) (e4 i2) (rwAt l i2))))))))) i)))]))), (AV.dat (List.length (Dk.q (madeN (toRws (AV.dat (List.length l) ea 5 (fun (i : Nat) => (rwA (e3 i) (e4 i) (rwAt l i))))) (Min.min 12 (List.length (toRws (AV.dat (List.length l) ea 5 (fun (i : Nat) => (rwA (e3 i) (e4 i) (rwAt l i)))))))))) false 36 (fun (i : Nat) => (AV.st [(AV.sb (Jb.dr (jbAt (Dk.q (madeN (toRws (AV.dat (List.length l) ea 5 (fun (i1 : Nat) => (rwA (e3 i1) (e4 i1) (rwAt l i1))))) (Min.min 12 (List.length (toRws (AV.dat (List.length l) ea 5 (fun (i1 : Nat) => (rwA (e3 i1) (e4 i1) (rwAt l i1))))))))) i))), (AV.st [(AV.i (Cl.i (Jb.c (jbAt (Dk.q (madeN (toRws (AV.dat (List.length l) ea 5 (fun (i1 : Nat) => (rwA (e3 i1) (e4 i1) (rwAt l i1))))) (Min.min 12 (List.length (toRws (AV.dat (List.length l) ea 5 (fun (i1 : Nat) => (rwA (e3 i1) (e4 i1) (rwAt l i1))))))))) i)))), (AV.i (Cl.s (Jb.c (jbAt (Dk.q (madeN (toRws (AV.dat (List.length l) ea 5 (fun (i1 : Nat) => (rwA (e3 i1) (e4 i1) (rwAt l i1))))) (Min.min 12 (List.length (toRws (AV.dat (List.length l) ea 5 (fun (i1 : Nat) => (rwA (e3 i1) (e4 i1) (rwAt l i1))))))))) i)))), (AV.dat (List.length (Cl.b (Jb.c (jbAt (Dk.q (madeN (toRws (AV.dat (List.length l) ea 5 (fun (i1 : Nat) => (rwA (e3 i1) (e4 i1) (rwAt l i1))))) (Min.min 12 (List.length (toRws (AV.dat (List.length l) ea 5 (fun (i1 : Nat) => (rwA (e3 i1) (e4 i1) (rwAt l i1))))))))) i)))) false 1 (rowL (Cl.b (Jb.c (jbAt (Dk.q (madeN (toRws (AV.dat (List.length l) ea 5 (fun (i1 : Nat) => (rwA (e3 i1) (e4 i1) (rwAt l i1))))) (Min.min 12 (List.length (toRws (AV.dat (List.length l) ea 5 (fun (i1 : Nat) => (rwA (e3 i1) (e4 i1) (rwAt l i1))))))))) i))))), (hA (Cl.h (Jb.c (jbAt (Dk.q (madeN (toRws (AV.dat (List.length l) ea 5 (fun (i2 : Nat) => (rwA (e3 i2) (e4 i2) (rwAt l i2))))) (Min.min 12 (List.length (toRws (AV.dat (List.length l) ea 5 (fun (i2 : Nat) => (rwA (e3 i2) (e4 i2) (rwAt l i2))))))))) i))))])])))])))] [4]) S2 ∧ Holds C P 95 D K Φ (cutAt C w_lsl b_lsl [1, 1, 1, 0] S2 (after C w_lsl b_lsl [1, 1, 1, 0] [] lf))))))) := by kernel_rfl
theorem lsl_C3 (d : Dk) {D : Dom} (K : Nat) (Φ : Ex → St → Prop) :
 (Holds C P 95 D K Φ (cutAt C w_lsl b_lsl [1, 1, 1, 0] (S_lsl3 d) (after C w_lsl b_lsl [1, 1, 1, 0] [] lf))) =
 (Fun C P 25 [(dkA false false d)] [] (AV.dat (List.length (cont (toDk (dkA false false d)))) false 2 (fun (i : Nat) => (AV.arr 2 1 (fun (k : Nat) => (AV.i (num2 (clAt (cont (toDk (dkA false false d))) i) k)))))) [] ∧
 (Fun C P 30 [(dkA false false d)] [] (csA false (badL (cont (toDk (dkA false false d))))) [] ∧
 (∃ (S2 : St), Ent C 95 D K (St.mk [(3, (AV.sb true)), (4, (AV.ptr 4 [])), (5, (AV.dat (List.length (cont (toDk (dkA false false d)))) false 2 (fun (i : Nat) => (AV.arr 2 1 (fun (k : Nat) => (AV.i (num2 (clAt (cont (toDk (dkA false false d))) i) k))))))), (6, (csA false (badL (cont (toDk (dkA false false d))))))] [(4, (Blk.c (dkA false false d)))] [4]) S2 ∧ Holds C P 95 D K Φ (cutAt C w_lsl b_lsl [1, 1, 1, 1, 0] S2 (after C w_lsl b_lsl [1, 1, 1, 1, 0] [] lf))))) := by kernel_rfl
theorem lsl_C4 (d : Dk) (L B : List Cl) {D : Dom} (K : Nat) (Φ : Ex → St → Prop) :
 (Holds C P 95 D K Φ (cutAt C w_lsl b_lsl [1, 1, 1, 1, 0] (S_lsl4 d L B) (after C w_lsl b_lsl [1, 1, 1, 1, 0] [] lf))) =
 (LoopOK C P 95 D K (bodyAt b_lsl [1, 1, 1, 1, 1, 0, 1, 0]) (St.mk [(3, (AV.sb true)), (4, (AV.ptr 4 [])), (5, (AV.dat (List.length L) false 2 (fun (i : Nat) => (AV.arr 2 1 (fun (k : Nat) => (AV.i (num2 (clAt L i) k))))))), (6, (csA false B)), (7, (AV.i (0 : Int))), (8, (AV.i (0 : Int))), (9, (AV.i (0 : Int)))] [(4, (Blk.c (dkA false false d)))] [4]) (fun (e : Ex) (S' : St) => Holds C P 95 D K Φ (after C w_lsl b_lsl [1, 1, 1, 1, 1, 0, 1, 0] [] lf e S'))) := by kernel_rfl
noncomputable abbrev bd_lsl_0 : Code := bodyAt (b_lsl) [1, 1, 1, 1, 1, 0, 1, 0]
theorem ok_lsl_0 : codeOK bd_lsl_0 = true := by kernel_rfl
noncomputable abbrev rest_lsl_0 (D : Dom) (K : Nat) (Φ : Ex → St → Prop) : Ex → St → Prop := fun e S' => Holds C P 95 D K Φ (after C w_lsl (b_lsl) [1, 1, 1, 1, 1, 0, 1, 0] [] lf e S')
theorem lsl_L0 (d : Dk) (L B : List Cl) (F G : Nat → Nat → Nat) (i : Nat) {D : Dom} (K : Nat) (Φ : Ex → St → Prop) :
 (Holds C P 95 D K (RoundQ C 95 D K (I_lsl0 d L B F G) (fun i => i ≤ 5) (fun i => 5 - i) ((fun i => 5 - i) (i)) (rest_lsl_0 D K Φ)) (vc C w_lsl bd_lsl_0 [] ((I_lsl0 d L B F G) (i)) lf)) =
 (((decide (((i : Nat) : Int) < (5 : Int))) = true →
 (LoopOK C P 95 D K (bodyAt bd_lsl_0 [1, 0, 0, 1, 0]) (St.mk [(3, (AV.sb true)), (4, (AV.ptr 4 [])), (5, (AV.dat (List.length L) false 2 (fun (i1 : Nat) => (AV.arr 2 1 (fun (k : Nat) => (AV.i (num2 (clAt L i1) k))))))), (6, (csA false B)), (7, (AV.i (((F i 0) : Nat) : Int))), (8, (AV.i (((G i 0) : Nat) : Int))), (9, (AV.i ((i : Nat) : Int))), (10, (AV.i (0 : Int))), (20, (AV.v (Value.bool true)))] [(4, (Blk.c (dkA false false d)))] [4]) (fun (e : Ex) (S' : St) => Holds C P 95 D K (RoundQ C 95 D K (I_lsl0 d L B F G) (fun i => i ≤ 5) (fun i => 5 - i) ((fun i => 5 - i) (i)) (rest_lsl_0 D K Φ)) (after C w_lsl bd_lsl_0 [1, 0, 0, 1, 0] [] lf e S')))) ∧
 ((decide (((i : Nat) : Int) < (5 : Int))) = false →
 (∃ (S2 : St), Ent C 95 D K (St.mk [(3, (AV.sb true)), (4, (AV.ptr 4 [])), (5, (AV.dat (List.length L) false 2 (fun (i1 : Nat) => (AV.arr 2 1 (fun (k : Nat) => (AV.i (num2 (clAt L i1) k))))))), (6, (csA false B)), (7, (AV.i (((F i 0) : Nat) : Int))), (8, (AV.i (((G i 0) : Nat) : Int))), (9, (AV.i ((i : Nat) : Int))), (20, (AV.v (Value.bool false)))] [(4, (Blk.c (dkA false false d)))] [4]) S2 ∧ Holds C P 95 D K Φ (cutAt C w_lsl b_lsl [1, 1, 1, 1, 1, 1, 0] S2 (after C w_lsl b_lsl [1, 1, 1, 1, 1, 1, 0] [] lf))))) := by kernel_rfl
noncomputable abbrev bd_lsl_1 : Code := bodyAt (bd_lsl_0) [1, 0, 0, 1, 0]
theorem ok_lsl_1 : codeOK bd_lsl_1 = true := by kernel_rfl
noncomputable abbrev rest_lsl_1 (D : Dom) (K : Nat) (Φ : Ex → St → Prop) : Ex → St → Prop := fun e S' => Holds C P 95 D K Φ (after C w_lsl (bd_lsl_0) [1, 0, 0, 1, 0] [] lf e S')
theorem lsl_L1 (d : Dk) (L B : List Cl) (F G : Nat → Nat → Nat) (i k : Nat) {D : Dom} (K : Nat) (Φ : Ex → St → Prop) :
 (Holds C P 95 D K (RoundQ C 95 D K (I_lsl1 d L B F G i) (fun k => k ≤ 4) (fun k => 4 - k) ((fun k => 4 - k) (k)) (rest_lsl_1 D K Φ)) (vc C w_lsl bd_lsl_1 [] ((I_lsl1 d L B F G i) (k)) lf)) =
 (((decide (((k : Nat) : Int) < (4 : Int))) = true →
 (Fun C P 13 [(AV.v (Value.int IntKind.u8 (IntKind.wrap IntKind.u8 ((i : Nat) : Int))))] [] (AV.i (idN (Int.toNat (IntKind.wrap IntKind.u8 ((i : Nat) : Int))))) [] ∧
 (True ∧
 (Fun C P 23 [(dkA false false d), (AV.i (idN (Int.toNat (IntKind.wrap IntKind.u8 ((i : Nat) : Int))))), (AV.i ((k : Nat) : Int))] [] (AV.st [(AV.dat (List.length (gotB (cont (toDk (dkA false false d))) (idN (Int.toNat (IntKind.wrap IntKind.u8 ((i : Nat) : Int)))) ((k : Nat) : Int))) false 1 (rowL (gotB (cont (toDk (dkA false false d))) (idN (Int.toNat (IntKind.wrap IntKind.u8 ((i : Nat) : Int)))) ((k : Nat) : Int)))), (AV.i (gotE (cont (toDk (dkA false false d))) (idN (Int.toNat (IntKind.wrap IntKind.u8 ((i : Nat) : Int)))) ((k : Nat) : Int)))]) [] ∧
 (∃ (S2 : St), Ent C 95 D K (St.mk [(3, (AV.sb true)), (4, (AV.ptr 4 [])), (5, (AV.dat (List.length L) false 2 (fun (i1 : Nat) => (AV.arr 2 1 (fun (k1 : Nat) => (AV.i (num2 (clAt L i1) k1))))))), (6, (csA false B)), (7, (AV.i (((F i k) : Nat) : Int))), (8, (AV.i (((G i k) : Nat) : Int))), (9, (AV.i ((i : Nat) : Int))), (10, (AV.i ((k : Nat) : Int))), (11, (AV.i (gotE (cont (toDk (dkA false false d))) (idN (Int.toNat (IntKind.wrap IntKind.u8 ((i : Nat) : Int)))) ((k : Nat) : Int)))), (24, (AV.v (Value.bool true)))] [(4, (Blk.c (dkA false false d)))] [4]) S2 ∧ Holds C P 95 D K (RoundQ C 95 D K (I_lsl1 d L B F G i) (fun k => k ≤ 4) (fun k => 4 - k) ((fun k => 4 - k) (k)) (rest_lsl_1 D K Φ)) (cutAt C w_lsl bd_lsl_1 [1, 0, 0, 1, 0, 0] S2 (after C w_lsl bd_lsl_1 [1, 0, 0, 1, 0, 0] [] lf))))))) ∧
 ((decide (((k : Nat) : Int) < (4 : Int))) = false →
 ((I64 (((i + 1) : Nat) : Int)) ∧
 (Φ Ex.normal (St.mk [(3, (AV.sb true)), (4, (AV.ptr 4 [])), (5, (AV.dat (List.length L) false 2 (fun (i1 : Nat) => (AV.arr 2 1 (fun (k1 : Nat) => (AV.i (num2 (clAt L i1) k1))))))), (6, (csA false B)), (7, (AV.i (((F i k) : Nat) : Int))), (8, (AV.i (((G i k) : Nat) : Int))), (9, (AV.i (((i + 1) : Nat) : Int))), (10, (AV.i ((k : Nat) : Int))), (24, (AV.v (Value.bool false)))] [(4, (Blk.c (dkA false false d)))] [4]))))) := by kernel_rfl
theorem lsl_C12 (d : Dk) (L B : List Cl) (a n i k : Nat) (e : Int) {D : Dom} (K : Nat) (Φ : Ex → St → Prop) :
 (Holds C P 95 D K Φ (cutAt C w_lsl bd_lsl_1 [1, 0, 0, 1, 0, 0] (S_lsl12 d L B a n i k e) (after C w_lsl bd_lsl_1 [1, 0, 0, 1, 0, 0] [] lf))) =
 (((e == (220 : Int)) = true →
 ((I64 (((k + 1) : Nat) : Int)) ∧
 (Φ Ex.normal (St.mk [(3, (AV.sb true)), (4, (AV.ptr 4 [])), (5, (AV.dat (List.length L) false 2 (fun (i1 : Nat) => (AV.arr 2 1 (fun (k1 : Nat) => (AV.i (num2 (clAt L i1) k1))))))), (6, (csA false B)), (7, (AV.i ((a : Nat) : Int))), (8, (AV.i ((n : Nat) : Int))), (9, (AV.i ((i : Nat) : Int))), (10, (AV.i (((k + 1) : Nat) : Int))), (11, (AV.i e)), (35, (AV.v (Value.bool true)))] [(4, (Blk.c (dkA false false d)))] [4])))) ∧
 ((e == (220 : Int)) = false →
 (((decide (((a : Nat) : Int) ≥ (((List.length L) : Nat) : Int))) = true →
 (Φ Ex.ret (St.mk [(2, (AV.v (Value.bool false))), (3, (AV.sb true)), (4, (AV.ptr 4 [])), (5, (AV.dat (List.length L) false 2 (fun (i1 : Nat) => (AV.arr 2 1 (fun (k1 : Nat) => (AV.i (num2 (clAt L i1) k1))))))), (6, (csA false B)), (7, (AV.i ((a : Nat) : Int))), (8, (AV.i ((n : Nat) : Int))), (9, (AV.i ((i : Nat) : Int))), (10, (AV.i ((k : Nat) : Int))), (11, (AV.i e)), (35, (AV.v (Value.bool false))), (51, (AV.v (Value.bool true)))] [(4, (Blk.c (dkA false false d)))] [4]))) ∧
 ((decide (((a : Nat) : Int) ≥ (((List.length L) : Nat) : Int))) = false →
 ((((0 : Int) ≤ ((a : Nat) : Int)) ∧ (((a : Nat) : Int) < (((List.length L) : Nat) : Int))) ∧
 (Fun C P 13 [(AV.v (Value.int IntKind.u8 (IntKind.wrap IntKind.u8 ((i : Nat) : Int))))] [] (AV.i (idN (Int.toNat (IntKind.wrap IntKind.u8 ((i : Nat) : Int))))) [] ∧
 (True ∧
 ((∀ (i1 : Nat), ((i1 < 2) → ((IntKind.i64 = IntKind.i64) ∧ (isInt IntKind.i64 (layParts (fun (x : Nat) => (AV.i (0 : Int))) [(0, (AV.i (idN (Int.toNat (IntKind.wrap IntKind.u8 ((i : Nat) : Int)))))), (1, (AV.i ((k : Nat) : Int)))] i1))))) ∧
 (((! (List.all (List.range 2) (fun (i1 : Nat) => ((num2 (clAt L a) i1) == (asI (layParts (fun (x : Nat) => (AV.i (0 : Int))) [(0, (AV.i (idN (Int.toNat (IntKind.wrap IntKind.u8 ((i : Nat) : Int)))))), (1, (AV.i ((k : Nat) : Int)))] i1)))))) = true →
 (Φ Ex.ret (St.mk [(2, (AV.v (Value.bool false))), (3, (AV.sb true)), (4, (AV.ptr 4 [])), (5, (AV.dat (List.length L) false 2 (fun (i1 : Nat) => (AV.arr 2 1 (fun (k1 : Nat) => (AV.i (num2 (clAt L i1) k1))))))), (6, (csA false B)), (7, (AV.i ((a : Nat) : Int))), (8, (AV.i ((n : Nat) : Int))), (9, (AV.i ((i : Nat) : Int))), (10, (AV.i ((k : Nat) : Int))), (11, (AV.i e)), (35, (AV.v (Value.bool false))), (51, (AV.v (Value.bool true)))] [(4, (Blk.c (dkA false false d)))] [4]))) ∧
 ((! (List.all (List.range 2) (fun (i1 : Nat) => ((num2 (clAt L a) i1) == (asI (layParts (fun (x : Nat) => (AV.i (0 : Int))) [(0, (AV.i (idN (Int.toNat (IntKind.wrap IntKind.u8 ((i : Nat) : Int)))))), (1, (AV.i ((k : Nat) : Int)))] i1)))))) = false →
 ((I64 (((a + 1) : Nat) : Int)) ∧
 (((e != (221 : Int)) = true →
 ((I64 (((k + 1) : Nat) : Int)) ∧
 (Φ Ex.normal (St.mk [(3, (AV.sb true)), (4, (AV.ptr 4 [])), (5, (AV.dat (List.length L) false 2 (fun (i1 : Nat) => (AV.arr 2 1 (fun (k1 : Nat) => (AV.i (num2 (clAt L i1) k1))))))), (6, (csA false B)), (7, (AV.i (((a + 1) : Nat) : Int))), (8, (AV.i ((n : Nat) : Int))), (9, (AV.i ((i : Nat) : Int))), (10, (AV.i (((k + 1) : Nat) : Int))), (11, (AV.i e)), (35, (AV.v (Value.bool false))), (51, (AV.v (Value.bool false))), (55, (AV.v (Value.bool true)))] [(4, (Blk.c (dkA false false d)))] [4])))) ∧
 ((e != (221 : Int)) = false →
 (((decide (((n : Nat) : Int) ≥ (((List.length B) : Nat) : Int))) = true →
 (Φ Ex.ret (St.mk [(2, (AV.v (Value.bool false))), (3, (AV.sb true)), (4, (AV.ptr 4 [])), (5, (AV.dat (List.length L) false 2 (fun (i1 : Nat) => (AV.arr 2 1 (fun (k1 : Nat) => (AV.i (num2 (clAt L i1) k1))))))), (6, (csA false B)), (7, (AV.i (((a + 1) : Nat) : Int))), (8, (AV.i ((n : Nat) : Int))), (9, (AV.i ((i : Nat) : Int))), (10, (AV.i ((k : Nat) : Int))), (11, (AV.i e)), (35, (AV.v (Value.bool false))), (51, (AV.v (Value.bool false))), (55, (AV.v (Value.bool false))), (79, (AV.v (Value.bool true)))] [(4, (Blk.c (dkA false false d)))] [4]))) ∧
 ((decide (((n : Nat) : Int) ≥ (((List.length B) : Nat) : Int))) = false →
 ((((0 : Int) ≤ ((n : Nat) : Int)) ∧ (((n : Nat) : Int) < (((List.length B) : Nat) : Int))) ∧
 (Fun C P 13 [(AV.v (Value.int IntKind.u8 (IntKind.wrap IntKind.u8 ((i : Nat) : Int))))] [] (AV.i (idN (Int.toNat (IntKind.wrap IntKind.u8 ((i : Nat) : Int))))) [] ∧
 (True ∧
 ((((Cl.i (clAt B n)) != (idN (Int.toNat (IntKind.wrap IntKind.u8 ((i : Nat) : Int))))) = true →
 (Φ Ex.ret (St.mk [(2, (AV.v (Value.bool false))), (3, (AV.sb true)), (4, (AV.ptr 4 [])), (5, (AV.dat (List.length L) false 2 (fun (i1 : Nat) => (AV.arr 2 1 (fun (k1 : Nat) => (AV.i (num2 (clAt L i1) k1))))))), (6, (csA false B)), (7, (AV.i (((a + 1) : Nat) : Int))), (8, (AV.i ((n : Nat) : Int))), (9, (AV.i ((i : Nat) : Int))), (10, (AV.i ((k : Nat) : Int))), (11, (AV.i e)), (35, (AV.v (Value.bool false))), (51, (AV.v (Value.bool false))), (55, (AV.v (Value.bool false))), (79, (AV.v (Value.bool true)))] [(4, (Blk.c (dkA false false d)))] [4]))) ∧
 (((Cl.i (clAt B n)) != (idN (Int.toNat (IntKind.wrap IntKind.u8 ((i : Nat) : Int))))) = false →
 ((((0 : Int) ≤ ((n : Nat) : Int)) ∧ (((n : Nat) : Int) < (((List.length B) : Nat) : Int))) ∧
 ((((Cl.s (clAt B n)) != ((k : Nat) : Int)) = true →
 (Φ Ex.ret (St.mk [(2, (AV.v (Value.bool false))), (3, (AV.sb true)), (4, (AV.ptr 4 [])), (5, (AV.dat (List.length L) false 2 (fun (i1 : Nat) => (AV.arr 2 1 (fun (k1 : Nat) => (AV.i (num2 (clAt L i1) k1))))))), (6, (csA false B)), (7, (AV.i (((a + 1) : Nat) : Int))), (8, (AV.i ((n : Nat) : Int))), (9, (AV.i ((i : Nat) : Int))), (10, (AV.i ((k : Nat) : Int))), (11, (AV.i e)), (35, (AV.v (Value.bool false))), (51, (AV.v (Value.bool false))), (55, (AV.v (Value.bool false))), (79, (AV.v (Value.bool true)))] [(4, (Blk.c (dkA false false d)))] [4]))) ∧
 (((Cl.s (clAt B n)) != ((k : Nat) : Int)) = false →
 ((I64 (((n + 1) : Nat) : Int)) ∧
 ((I64 (((k + 1) : Nat) : Int)) ∧
 (Φ Ex.normal (St.mk [(3, (AV.sb true)), (4, (AV.ptr 4 [])), (5, (AV.dat (List.length L) false 2 (fun (i1 : Nat) => (AV.arr 2 1 (fun (k1 : Nat) => (AV.i (num2 (clAt L i1) k1))))))), (6, (csA false B)), (7, (AV.i (((a + 1) : Nat) : Int))), (8, (AV.i (((n + 1) : Nat) : Int))), (9, (AV.i ((i : Nat) : Int))), (10, (AV.i (((k + 1) : Nat) : Int))), (11, (AV.i e)), (35, (AV.v (Value.bool false))), (51, (AV.v (Value.bool false))), (55, (AV.v (Value.bool false))), (79, (AV.v (Value.bool false)))] [(4, (Blk.c (dkA false false d)))] [4]))))))))))))))))))))))))))) := by kernel_rfl
theorem lsl_C20 (L B : List Cl) (a n : Nat) {D : Dom} (K : Nat) (Φ : Ex → St → Prop) :
 (Holds C P 95 D K Φ (cutAt C w_lsl b_lsl [1, 1, 1, 1, 1, 1, 0] (S_lsl20 L B a n) (after C w_lsl b_lsl [1, 1, 1, 1, 1, 1, 0] [] lf))) =
 (((((a : Nat) : Int) == (((List.length L) : Nat) : Int)) = true →
 (((((n : Nat) : Int) == (((List.length B) : Nat) : Int)) = true →
 (Φ Ex.ret (St.mk [(2, (AV.sb true)), (3, (AV.sb true)), (5, (AV.dat (List.length L) false 2 (fun (i : Nat) => (AV.arr 2 1 (fun (k : Nat) => (AV.i (num2 (clAt L i) k))))))), (6, (csA false B)), (7, (AV.i ((a : Nat) : Int))), (8, (AV.i ((n : Nat) : Int)))] [] []))) ∧
 ((((n : Nat) : Int) == (((List.length B) : Nat) : Int)) = false →
 (Φ Ex.ret (St.mk [(2, (AV.v (Value.bool false))), (3, (AV.sb true)), (5, (AV.dat (List.length L) false 2 (fun (i : Nat) => (AV.arr 2 1 (fun (k : Nat) => (AV.i (num2 (clAt L i) k))))))), (6, (csA false B)), (7, (AV.i ((a : Nat) : Int))), (8, (AV.i ((n : Nat) : Int)))] [] []))))) ∧
 ((((a : Nat) : Int) == (((List.length L) : Nat) : Int)) = false →
 (Φ Ex.ret (St.mk [(2, (AV.v (Value.bool false))), (3, (AV.sb true)), (5, (AV.dat (List.length L) false 2 (fun (i : Nat) => (AV.arr 2 1 (fun (k : Nat) => (AV.i (num2 (clAt L i) k))))))), (6, (csA false B)), (7, (AV.i ((a : Nat) : Int))), (8, (AV.i ((n : Nat) : Int)))] [] [])))) := by kernel_rfl
def kI (i : Nat) : Int := if i < 5 then idN i else 4096
theorem kI_val : kI 0 = 0 ∧ kI 1 = 1 ∧ kI 2 = 2 ∧ kI 3 = 3 ∧ kI 4 = 4095 ∧ kI 5 = 4096 := ⟨rfl, rfl, rfl, rfl, rfl, rfl⟩
theorem cnt_in {L : List Cl} (so : SoC L) (i : Int) (k : Nat) : cntK L i ((k + 1 : Nat) : Int) = cntK L i (k : Int) + if (getC L i (k : Int)).isSome = true then 1 else 0 :=
  cntK_next so (.inr ⟨rfl, by omega⟩) fun c _ h1 h2 => by omega
theorem cnt_wrap {L : List Cl} (hf : ∀ c, c ∈ L → fewC c) {i : Nat} (hi : i < 5) : cntK L (kI i) 4 = cntK L (kI (i + 1)) 0 := by
  unfold cntK plC
  congr 1
  refine List.filter_congr fun c hc => ?_
  obtain ⟨h1, h2, h3, _⟩ := hf c hc
  rw [Bool.eq_iff_iff, lt_iff, lt_iff]
  show (c.i < kI i ∨ (c.i = kI i ∧ c.s < 4)) ↔ (c.i < kI (i + 1) ∨ (c.i = kI (i + 1) ∧ c.s < 0))
  obtain ⟨k0, k1, k2, k3, k4, k5⟩ := kI_val
  match i, hi with
  | 0, _ => rw [k0, k1]; omega
  | 1, _ => rw [k1, k2]; omega
  | 2, _ => rw [k2, k3]; omega
  | 3, _ => rw [k3, k4]; omega
  | 4, _ => rw [k4, k5]; omega
theorem cnt_zero {L : List Cl} (hf : ∀ c, c ∈ L → fewC c) : cntK L (kI 0) 0 = 0 := cntK_zero fun c hc => by
  obtain ⟨h1, h2, _⟩ := hf c hc
  rw [kI_val.1]; omega
theorem cnt_end {L : List Cl} (hf : ∀ c, c ∈ L → fewC c) : cntK L (kI 5) 0 = L.length := cntK_all fun c hc => by
  obtain ⟨h1, _⟩ := hf c hc
  rw [kI_val.2.2.2.2.2]; omega
theorem kI_id {i : Nat} (h : i < 5) : kI i = idN i := if_pos h
theorem few_cont {d : Dk} {n : Nat} (so : SoC d.l) (h : Few d n) : ∀ c, c ∈ cont d → fewC c := (h.prN so (fun _ => true)).cs
set_option maxRecDepth 1000000 in
theorem lsl_fun (ea : Bool) (e3 e4 : Nat → Bool) (l : List Rw) (hx : ∀ x, x ∈ l → OkRw x) : Fun C P F_lsl [rwsA ea e3 e4 l] [] (.sb true) [] := by
  refine in_lsl (W := w_lsl) rfl 0 (by simp) rfl (fun id h => absurd rfl h) fun D => ?_
  rw [lsl_A ea e3 e4 l 0 _, toRws_A]
  have hm := made_fun ea e3 e4 l 12 hx (by decide)
  obtain ⟨hv, few⟩ := made_ok hx 12
  have hlen := few.len
  obtain ⟨d, ed⟩ : ∃ d, d = madeN l (min 12 l.length) := ⟨_, rfl⟩
  rw [← ed] at hm hv hlen few ⊢
  refine ⟨sanity_fun, trivial, hm, TD2, cut_ok (S2 := S_lsl3 d) (ent_of [(4, 4)] rfl (tm_cons rfl (sm_same rfl) (tm_cons rfl (sm_ptr rfl) tm_nil)) (hp_cons rfl rfl (sm_same rfl) hp_nil)) ?_⟩
  rw [lsl_C3 d 0 _, toDk_A]
  have h1 := list_fun false false d hv (by omega)
  have h2 := bad_fun false false d hv (by omega)
  have hg := fun i s => lget_fun false false d hv i s (by omega)
  have fl := few_cont hv.so few
  have so : SoC (cont d) := hv.sync.so
  have hln := cont_len hv.so
  refine ⟨h1, h2, ?_⟩
  obtain ⟨L, eL⟩ : ∃ L, L = cont d := ⟨_, rfl⟩
  rw [← eL] at fl so hln hg ⊢
  have fb : ∀ c, c ∈ badL L → fewC c := fun c hc => fl c (List.mem_filter.1 hc).1
  have sb := bad_so so
  have bg := bad_get so
  have hlb : (badL L).length ≤ L.length := List.length_filter_le _ _
  obtain ⟨B, eB⟩ : ∃ B, B = badL L := ⟨_, rfl⟩
  rw [← eB] at fb sb bg hlb ⊢
  refine cut_ok (S2 := S_lsl4 d L B) (ent_of [(4, 4)] rfl (tm_cons rfl (sm_same rfl) (tm_cons rfl (sm_ptr rfl) (tm_cons rfl (sm_same rfl) (tm_cons rfl (sm_same rfl) tm_nil)))) (hp_cons rfl rfl (sm_same rfl) hp_nil)) ?_
  rw [lsl_C4 d L B 0 _]
  obtain ⟨F, eF⟩ : ∃ F : Nat → Nat → Nat, F = fun i (k : Nat) => cntK L (kI i) (k : Int) := ⟨_, rfl⟩
  obtain ⟨G, eG⟩ : ∃ G : Nat → Nat → Nat, G = fun i (k : Nat) => cntK B (kI i) (k : Int) := ⟨_, rfl⟩
  have F0 : F 0 0 = 0 := by rw [eF]; exact cnt_zero fl
  have G0 : G 0 0 = 0 := by rw [eG]; exact cnt_zero fb
  have F4 : ∀ i, i < 5 → F (i + 1) 0 = F i 4 := fun i hi => by rw [eF]; exact (cnt_wrap fl hi).symm
  have G4 : ∀ i, i < 5 → G (i + 1) 0 = G i 4 := fun i hi => by rw [eG]; exact (cnt_wrap fb hi).symm
  have F5 : F 5 0 = L.length := by rw [eF]; exact cnt_end fl
  have G5 : G 5 0 = B.length := by rw [eG]; exact cnt_end fb
  refine loop_inv (W := w_lsl) ctx mixed ok_lsl_0 (I_lsl0 d L B F G) (fun i => i ≤ 5) (fun i => 5 - i) 0 (Nat.zero_le _) ?_ fun i hi => ?_
  · exact ent_of [(4, 4)] rfl (tm_cons rfl (sm_same rfl) (tm_cons rfl (sm_ptr rfl) (tm_cons rfl (sm_same rfl) (tm_cons rfl (sm_same rfl) (tm_cons rfl (sm_int (by rw [F0]; rfl)) (tm_cons rfl (sm_int (by rw [G0]; rfl)) (tm_cons rfl (sm_same rfl) tm_nil))))))) (hp_cons rfl rfl (sm_same rfl) hp_nil)
  refine of_eq (lsl_L0 d L B F G i 0 _) ⟨fun h => ?_, fun h => ?_⟩
  · simp only [decide_eq_true_eq] at h
    refine loop_inv (W := w_lsl) ctx mixed ok_lsl_1 (I_lsl1 d L B F G i) (fun k => k ≤ 4) (fun k => 4 - k) 0 (Nat.zero_le _) ?_ fun k hk => ?_
    · exact ent_of [(4, 4)] rfl (tm_cons rfl (sm_same rfl) (tm_cons rfl (sm_ptr rfl) (tm_cons rfl (sm_same rfl) (tm_cons rfl (sm_same rfl) (tm_cons rfl (sm_same rfl) (tm_cons rfl (sm_same rfl) (tm_cons rfl (sm_same rfl) (tm_cons rfl (sm_same rfl) tm_nil)))))))) (hp_cons rfl rfl (sm_same rfl) hp_nil)
    refine of_eq (lsl_L1 d L B F G i k 0 _) ⟨fun h2 => ?_, fun h2 => ?_⟩
    · simp only [decide_eq_true_eq] at h2
      have hri := rid_fun i (by omega)
      rw [wr_u8 (show i < 256 by omega), Int.toNat_natCast, toDk_A, ← eL]
      refine ⟨hri, trivial, hg _ _, cut_ok (S2 := S_lsl12 d L B (F i k) (G i k) i k (gotE L (idN i) k)) (ent_of [(4, 4)] rfl (tm_cons rfl (sm_same rfl) (tm_cons rfl (sm_ptr rfl) (tm_cons rfl (sm_same rfl) (tm_cons rfl (sm_same rfl) (tm_cons rfl (sm_same rfl) (tm_cons rfl (sm_same rfl) (tm_cons rfl (sm_same rfl) (tm_cons rfl (sm_same rfl) (tm_cons rfl (sm_same rfl) tm_nil))))))))) (hp_cons rfl rfl (sm_same rfl) hp_nil)) ?_⟩
      rw [lsl_C12 d L B (F i k) (G i k) i k _ 0 _, wr_u8 (show i < 256 by omega), Int.toNat_natCast]
      have eFs : F i (k + 1) = F i k + if (getC L (idN i) (k : Int)).isSome = true then 1 else 0 := by rw [eF, ← kI_id (show i < 5 by omega)]; exact cnt_in so _ _
      have eGs : G i (k + 1) = G i k + if (getC B (idN i) (k : Int)).isSome = true then 1 else 0 := by rw [eG, ← kI_id (show i < 5 by omega)]; exact cnt_in sb _ _
      have Bk : I64 ((k + 1 : Nat) : Int) := ⟨by omega, by omega⟩
      have eb := bg (idN i) (k : Int)
      cases hc : getC L (idN i) (k : Int) with
      | none =>
        have e1 : gotE L (idN i) (k : Int) = 220 := by unfold gotE; rw [hc]
        rw [hc] at eFs eb
        rw [eb] at eGs
        rw [e1]
        exact beq_then rfl ⟨Bk, round_end (k + 1) (by omega) (ent_of [(4, 4)] rfl (tm_cons rfl (sm_same rfl) (tm_cons rfl (sm_ptr rfl) (tm_cons rfl (sm_same rfl) (tm_cons rfl (sm_same rfl) (tm_cons rfl (sm_int (by rw [eFs]; rfl)) (tm_cons rfl (sm_int (by rw [eGs]; rfl)) (tm_cons rfl (sm_same rfl) (tm_cons rfl (sm_same rfl) tm_nil)))))))) (hp_cons rfl rfl (sm_same rfl) hp_nil)) (by dsimp only; omega)⟩
      | some c =>
        obtain ⟨s1, s2⟩ := se_get so hc
        obtain ⟨_, ci, cs⟩ := getC_some hc
        have fk : F i k = cntK L (idN i) (k : Int) := by rw [eF, ← kI_id (show i < 5 by omega)]
        have gk : G i k = cntK B (idN i) (k : Int) := by rw [eG, ← kI_id (show i < 5 by omega)]
        rw [← fk] at s1 s2
        have s2 : clAt L (F i k) = c := s2
        rw [hc] at eFs eb
        have eFs : F i (k + 1) = F i k + 1 := eFs
        have ne : (gotE L (idN i) (k : Int) == 220) = false := by
          unfold gotE; rw [hc]
          show ((if whC c = true then (0 : Int) else 221) == 220) = false
          split <;> rfl
        rw [s2, all2, ci, cs]
        refine ff_then ne ⟨fun hf => ?_, fun _ => ⟨⟨by omega, by omega⟩, hri, trivial, fun m hm => ⟨rfl, by match m, hm with | 0, _ => rfl | 1, _ => rfl⟩, nf_then (by simp) ⟨⟨by omega, by omega⟩, ?_, ?_⟩⟩⟩
        · simp only [ge_iff_le, decide_eq_true_eq] at hf; omega
        · intro hw
          have hw1 : whC c = true := by
            unfold gotE at hw; rw [hc] at hw
            have hw : ((if whC c = true then (0 : Int) else 221) != 221) = true := hw
            by_cases g : whC c = true
            · exact g
            · rw [if_neg g] at hw; cases hw
          have eb : getC B (idN i) (k : Int) = if whC c = true then none else some c := eb
          rw [if_pos hw1] at eb
          rw [eb] at eGs
          exact ⟨Bk, round_end (k + 1) (by omega) (ent_of [(4, 4)] rfl (tm_cons rfl (sm_same rfl) (tm_cons rfl (sm_ptr rfl) (tm_cons rfl (sm_same rfl) (tm_cons rfl (sm_same rfl) (tm_cons rfl (sm_int (by rw [eFs])) (tm_cons rfl (sm_int (by rw [eGs]; rfl)) (tm_cons rfl (sm_same rfl) (tm_cons rfl (sm_same rfl) tm_nil)))))))) (hp_cons rfl rfl (sm_same rfl) hp_nil)) (by dsimp only; omega)⟩
        · intro hw
          have hw1 : ¬ whC c = true := fun g => by
            unfold gotE at hw; rw [hc] at hw
            have hw : ((if whC c = true then (0 : Int) else 221) != 221) = false := hw
            rw [if_pos g] at hw; cases hw
          have eb : getC B (idN i) (k : Int) = if whC c = true then none else some c := eb
          rw [if_neg hw1] at eb
          obtain ⟨t1, t2⟩ := se_get sb eb
          rw [← gk] at t1 t2
          have t2 : clAt B (G i k) = c := t2
          rw [eb] at eGs
          have eGs : G i (k + 1) = G i k + 1 := eGs
          rw [t2, ci, cs]
          refine ⟨fun hf => ?_, fun _ => ⟨⟨by omega, by omega⟩, hri, trivial, bne_then rfl ⟨⟨by omega, by omega⟩, bne_then rfl ⟨⟨by omega, by omega⟩, Bk, round_end (k + 1) (by omega) (ent_of [(4, 4)] rfl (tm_cons rfl (sm_same rfl) (tm_cons rfl (sm_ptr rfl) (tm_cons rfl (sm_same rfl) (tm_cons rfl (sm_same rfl) (tm_cons rfl (sm_int (by rw [eFs])) (tm_cons rfl (sm_int (by rw [eGs])) (tm_cons rfl (sm_same rfl) (tm_cons rfl (sm_same rfl) tm_nil)))))))) (hp_cons rfl rfl (sm_same rfl) hp_nil)) (by dsimp only; omega)⟩⟩⟩⟩
          simp only [ge_iff_le, decide_eq_true_eq] at hf; omega
    · simp only [decide_eq_false_iff_not] at h2
      obtain rfl : k = 4 := by omega
      exact ⟨(by first | omega | decide | (unfold I64; omega)), round_end (i + 1) (by omega) (ent_of [(4, 4)] rfl (tm_cons rfl (sm_same rfl) (tm_cons rfl (sm_ptr rfl) (tm_cons rfl (sm_same rfl) (tm_cons rfl (sm_same rfl) (tm_cons rfl (sm_int (by rw [F4 i (by omega)])) (tm_cons rfl (sm_int (by rw [G4 i (by omega)])) (tm_cons rfl (sm_same rfl) tm_nil))))))) (hp_cons rfl rfl (sm_same rfl) hp_nil)) (by dsimp only; omega)⟩
  · simp only [decide_eq_false_iff_not] at h
    obtain rfl : i = 5 := by omega
    refine cut_ok (S2 := S_lsl20 L B L.length B.length) (ent_of [] rfl (tm_cons rfl (sm_same rfl) (tm_cons rfl (sm_same rfl) (tm_cons rfl (sm_same rfl) (tm_cons rfl (sm_int (by rw [F5])) (tm_cons rfl (sm_int (by rw [G5])) tm_nil))))) hp_nil) ?_
    rw [lsl_C20 L B L.length B.length 0 _]
    exact beq_then rfl (beq_then rfl (post_tmp rfl (sm_same rfl)))
theorem lsl_law {x0 : AV} (h0 : Typed C.tt 6 22 x0) : Fun C P F_lsl [x0] [] (.sb true) [] := by
  obtain ⟨l, ea, e3, e4, _, hx, s0⟩ := ty_raws h0
  exact (lsl_fun ea e3 e4 l hx).sim ⟨s0, trivial⟩ trivial
end Go.Bu.W

