/- Syncing changes nothing that can be read, empties the queue, and what was synced is there after a crash. -/
import Derived.Test.YtoaefniopgmoaaaDoorK25
namespace Go.Bu.W
open Sp
def w_lss : Way := wayN2 [0, 1, 2, 6, 7, 8, 9, 10, 11, 12, 13, 14, 15, 16, 38, 40, 44, 60, 69] 99 [3,4,6,15,21,22]
def S_lss3 (ex : Bool) (e1 e2 : Nat → Bool) (q : List Rw) (ez : Bool) (dn : List Bool) (d : Dk) : St := { tm := [(1, rwsA ex e1 e2 q), (2, bA ez dn), (7, .sb true), (8, .ptr 8 [])], hp := [(8, .c (dkA false false d))], seen := [8] }
def S_lss4 (ex : Bool) (e1 e2 : Nat → Bool) (q : List Rw) (ez : Bool) (dn : List Bool) (d s : Dk) : St := { tm := [(1, rwsA ex e1 e2 q), (2, bA ez dn), (7, .sb true), (8, .ptr 8 []), (9, .ptr 9 [])], hp := [(8, .c (dkA false false d)), (9, .c (dkA false false s))], seen := [8, 9] }
def I_lss0 (ex : Bool) (e1 e2 : Nat → Bool) (q : List Rw) (ez : Bool) (dn : List Bool) (d s : Dk) (i : Nat) : St := { tm := [(1, rwsA ex e1 e2 q), (2, bA ez dn), (7, .sb true), (8, .ptr 8 []), (9, .ptr 9 []), (10, .i i)], hp := [(8, .c (dkA false false d)), (9, .c (dkA false false s))], seen := [8, 9] }
def I_lss1 (ex : Bool) (e1 e2 : Nat → Bool) (q : List Rw) (ez : Bool) (dn : List Bool) (d s : Dk) (i k : Nat) : St := { tm := [(1, rwsA ex e1 e2 q), (2, bA ez dn), (7, .sb true), (8, .ptr 8 []), (9, .ptr 9 []), (10, .i i), (11, .i k)], hp := [(8, .c (dkA false false d)), (9, .c (dkA false false s))], seen := [8, 9] }
def S_lss15 (ex : Bool) (e1 e2 : Nat → Bool) (q : List Rw) (ez : Bool) (dn : List Bool) (s n : Dk) : St := { tm := [(1, rwsA ex e1 e2 q), (2, bA ez dn), (7, .sb true), (9, .ptr 9 []), (12, .ptr 12 [])], hp := [(9, .c (dkA false false s)), (12, .c (dkA false false n))], seen := [9, 12] }
def I_lss2 (ex : Bool) (e1 e2 : Nat → Bool) (q : List Rw) (ez : Bool) (dn : List Bool) (s : Dk) (f : Nat → Dk) (i : Nat) : St := { tm := [(1, rwsA ex e1 e2 q), (2, bA ez dn), (7, .sb true), (9, .ptr 9 []), (12, .ptr 12 []), (13, .i i)], hp := [(9, .c (dkA false false s)), (12, .c (dkA false false (f i)))], seen := [9, 12] }
def S_lss21 (ez : Bool) (dn : List Bool) (s n : Dk) : St := { tm := [(2, bA ez dn), (7, .sb true), (9, .ptr 9 []), (12, .ptr 12 [])], hp := [(9, .c (dkA false false s)), (12, .c (dkA false false n))], seen := [9, 12] }
def S_lss22 (s a b : Dk) : St := { tm := [(7, .sb true), (9, .ptr 9 []), (15, .ptr 15 []), (16, .ptr 16 [])], hp := [(9, .c (dkA false false s)), (15, .c (dkA false false a)), (16, .c (dkA false false b))], seen := [9, 15, 16] }

theorem lss_A (ea : Bool) (e3 e4 : Nat → Bool) (l : List Rw) (ex : Bool) (e1 e2 : Nat → Bool) (q : List Rw) (ez : Bool) (dn : List Bool) {D : Dom} (K : Nat) (Φ : Ex → St → Prop) :
 (Holds C P 99 D K Φ (vc C w_lss b_lss [] (start [rwsA ea e3 e4 l, rwsA ex e1 e2 q, bA ez dn] []) lf)) =
 (Fun C P 11 [] [] (AV.sb true) [] ∧
 (True ∧
 (Fun C P 20 [(AV.dat (List.length l) ea 5 (fun (i : Nat) => (rwA (e3 i) (e4 i) (rwAt l i)))), (AV.i (10 : Int))] [] (AV.st [(AV.dat (List.length (Dk.l (madeN (toRws (AV.dat (List.length l) ea 5 (fun (i : Nat) => (rwA (e3 i) (e4 i) (rwAt l i))))) (Min.min 10 (List.length (toRws (AV.dat (List.length l) ea 5 (fun (i : Nat) => (rwA (e3 i) (e4 i) (rwAt l i)))))))))) false 35 (fun (i : Nat) => (AV.st [(AV.i (Cl.i (clAt (Dk.l (madeN (toRws (AV.dat (List.length l) ea 5 (fun (i1 : Nat) => (rwA (e3 i1) (e4 i1) (rwAt l i1))))) (Min.min 10 (List.length (toRws (AV.dat (List.length l) ea 5 (fun (i1 : Nat) => (rwA (e3 i1) (e4 i1) (rwAt l i1))))))))) i))), (AV.i (Cl.s (clAt (Dk.l (madeN (toRws (AV.dat (List.length l) ea 5 (fun (i1 : Nat) => (rwA (e3 i1) (e4 i1) (rwAt l i1))))) (Min.min 10 (List.length (toRws (AV.dat (List.length l) ea 5 (fun (i1 : Nat) => (rwA (e3 i1) (e4 i1) (rwAt l i1))))))))) i))), (AV.dat (List.length (Cl.b (clAt (Dk.l (madeN (toRws (AV.dat (List.length l) ea 5 (fun (i1 : Nat) => (rwA (e3 i1) (e4 i1) (rwAt l i1))))) (Min.min 10 (List.length (toRws (AV.dat (List.length l) ea 5 (fun (i1 : Nat) => (rwA (e3 i1) (e4 i1) (rwAt l i1))))))))) i))) false 1 (rowL (Cl.b (clAt (Dk.l (madeN (toRws (AV.dat (List.length l) ea 5 (fun (i1 : Nat) => (rwA (e3 i1) (e4 i1) (rwAt l i1))))) (Min.min 10 (List.length (toRws (AV.dat (List.length l) ea 5 (fun (i1 : Nat) => (rwA (e3 i1) (e4 i1) (rwAt l i1))))))))) i)))), (hA (Cl.h (clAt (Dk.l (madeN (toRws (AV.dat (List.length l) ea 5 (fun (i2 : Nat) => (rwA (e3 i2) (e4 i2) (rwAt l i2))))) (Min.min 10 (List.length (toRws (AV.dat (List.length l) ea 5 (fun (i2 : Nat) => (rwA (e3 i2) (e4 i2) (rwAt l i2))))))))) i)))]))), (AV.dat (List.length (Dk.q (madeN (toRws (AV.dat (List.length l) ea 5 (fun (i : Nat) => (rwA (e3 i) (e4 i) (rwAt l i))))) (Min.min 10 (List.length (toRws (AV.dat (List.length l) ea 5 (fun (i : Nat) => (rwA (e3 i) (e4 i) (rwAt l i)))))))))) false 36 (fun (i : Nat) => (AV.st [(AV.sb (Jb.dr (jbAt (Dk.q (madeN (toRws (AV.dat (List.length l) ea 5 (fun (i1 : Nat) => (rwA (e3 i1) (e4 i1) (rwAt l i1))))) (Min.min 10 (List.length (toRws (AV.dat (List.length l) ea 5 (fun (i1 : Nat) => (rwA (e3 i1) (e4 i1) (rwAt l i1))))))))) i))), (AV.st [(AV.i (Cl.i (Jb.c (jbAt (Dk.q (madeN (toRws (AV.dat (List.length l) ea 5 (fun (i1 : Nat) => (rwA (e3 i1) (e4 i1) (rwAt l i1))))) (Min.min 10 (List.length (toRws (AV.dat (List.length l) ea 5 (fun (i1 : Nat) => (rwA (e3 i1) (e4 i1) (rwAt l i1))))))))) i)))), (AV.i (Cl.s (Jb.c (jbAt (Dk.q (madeN (toRws (AV.dat (List.length l) ea 5 (fun (i1 : Nat) => (rwA (e3 i1) (e4 i1) (rwAt l i1))))) (Min.min 10 (List.length (toRws (AV.dat (List.length l) ea 5 (fun (i1 : Nat) => (rwA (e3 i1) (e4 i1) (rwAt l i1))))))))) i)))), (AV.dat (List.length (Cl.b (Jb.c (jbAt (Dk.q (madeN (toRws (AV.dat (List.length l) ea 5 (fun (i1 : Nat) => (rwA (e3 i1) (e4 i1) (rwAt l i1))))) (Min.min 10 (List.length (toRws (AV.dat (List.length l) ea 5 (fun (i1 : Nat) => (rwA (e3 i1) (e4 i1) (rwAt l i1))))))))) i)))) false 1 (rowL (Cl.b (Jb.c (jbAt (Dk.q (madeN (toRws (AV.dat (List.length l) ea 5 (fun (i1 : Nat) => (rwA (e3 i1) (e4 i1) (rwAt l i1))))) (Min.min 10 (List.length (toRws (AV.dat (List.length l) ea 5 (fun (i1 : Nat) => (rwA (e3 i1) (e4 i1) (rwAt l i1))))))))) i))))), (hA (Cl.h (Jb.c (jbAt (Dk.q (madeN (toRws (AV.dat (List.length l) ea 5 (fun (i2 : Nat) => (rwA (e3 i2) (e4 i2) (rwAt l i2))))) (Min.min 10 (List.length (toRws (AV.dat (List.length l) ea 5 (fun (i2 : Nat) => (rwA (e3 i2) (e4 i2) (rwAt l i2))))))))) i))))])])))]) [] ∧
 ((((true = true) ∧ (true = true)) ∧ (((true = true) ∧ (true = true)) ∧ True)) ∧
 (∃ (S2 : St), Ent C 99 D K (St.mk [(0, (AV.dat (List.length l) ea 5 (fun (i : Nat) => (rwA (e3 i) (e4 i) (rwAt l i))))), (1, (AV.dat (List.length q) ex 5 (fun (i : Nat) => (rwA (e1 i) (e2 i) (rwAt q i))))), (2, (bA ez dn)), (6, (AV.v (Value.bool false))), (7, (AV.sb true)), (8, (AV.ptr 8 []))] [(8, (Blk.c (AV.st [(AV.dat (List.length (Dk.l (madeN (toRws (AV.dat (List.length l) ea 5 (fun (i : Nat) => (rwA (e3 i) (e4 i) (rwAt l i))))) (Min.min 10 (List.length (toRws (AV.dat (List.length l) ea 5 (fun (i : Nat) => (rwA (e3 i) (e4 i) (rwAt l i)))))))))) false 35 (fun (i : Nat) => (AV.st [(AV.i (Cl.i (clAt (Dk.l (madeN (toRws (AV.dat (List.length l) ea 5 (fun (i1 : Nat) => (rwA (e3 i1) (e4 i1) (rwAt l i1))))) (Min.min 10 (List.length (toRws (AV.dat (List.length l) ea 5 (fun (i1 : Nat) => (rwA (e3 i1) (e4 i1) (rwAt l i1))))))))) i))), (AV.i (Cl.s (clAt (Dk.l (madeN (toRws (AV.dat (List.length l) ea 5 (fun (i1 : Nat) => (rwA (e3 i1) (e4 i1) (rwAt l i1))))) (Min.min 10 (List.length (toRws (AV.dat (List.length l) ea 5 (fun (i1 : Nat) => (rwA (e3 i1) (e4 i1) (rwAt l i1))))))))) i))), (AV.dat (List.length (Cl.b (clAt (Dk.l (madeN (toRws (AV.dat (List.length l) ea 5 (fun (i1 : Nat) => (rwA (e3 i1) (e4 i1) (rwAt l i1))))) (Min.min 10 (List.length (toRws (AV.dat (List.length l) ea 5 (fun (i1 : Nat) => (rwA (e3 i1) (e4 i1) (rwAt l i1))))))))) i))) false 1 (rowL (Cl.b (clAt (Dk.l (madeN (toRws (AV.dat (List.length l) ea 5 (fun (i1 : Nat) => (rwA (e3 i1) (e4 i1) (rwAt l i1))))) (Min.min 10 (List.length (toRws (AV.dat (List.length l) ea 5 (fun (i1 : Nat) => (rwA (e3 i1) (e4 i1) (rwAt l i1))))))))) i)))), (hA (Cl.h (clAt (Dk.l (madeN (toRws (AV.dat (List.length l) ea 5 (fun (i2 : Nat) => (rwA (e3 i2) (e4 i2) (rwAt l i2))))) (Min.min 10 (List.length (toRws (AV.dat (List.length l) ea 5 (fun (i2 : Nat) => (rwA (e3 i2) (e4 i2) (rwAt l i2))))))))) i)))]))), (AV.dat (List.length (Dk.q (madeN (toRws (AV.dat (List.length l) ea 5 (fun (i : Nat) => (rwA (e3 i) (e4 i) (rwAt l i))))) (Min.min 10 (List.length (toRws (AV.dat (List.length l) ea 5 (fun (i : Nat) => (rwA (e3 i) (e4 i) (rwAt l i)))))))))) false 36 (fun (i : Nat) => (AV.st [(AV.sb (Jb.dr (jbAt (Dk.q (madeN (toRws (AV.dat (List.length l) ea 5 (fun (i1 : Nat) => (rwA (e3 i1) (e4 i1) (rwAt l i1))))) (Min.min 10 (List.length (toRws (AV.dat (List.length l) ea 5 (fun (i1 : Nat) => (rwA (e3 i1) (e4 i1) (rwAt l i1))))))))) i))), (AV.st [(AV.i (Cl.i (Jb.c (jbAt (Dk.q (madeN (toRws (AV.dat (List.length l) ea 5 (fun (i1 : Nat) => (rwA (e3 i1) (e4 i1) (rwAt l i1))))) (Min.min 10 (List.length (toRws (AV.dat (List.length l) ea 5 (fun (i1 : Nat) => (rwA (e3 i1) (e4 i1) (rwAt l i1))))))))) i)))), (AV.i (Cl.s (Jb.c (jbAt (Dk.q (madeN (toRws (AV.dat (List.length l) ea 5 (fun (i1 : Nat) => (rwA (e3 i1) (e4 i1) (rwAt l i1))))) (Min.min 10 (List.length (toRws (AV.dat (List.length l) ea 5 (fun (i1 : Nat) => (rwA (e3 i1) (e4 i1) (rwAt l i1))))))))) i)))), (AV.dat (List.length (Cl.b (Jb.c (jbAt (Dk.q (madeN (toRws (AV.dat (List.length l) ea 5 (fun (i1 : Nat) => (rwA (e3 i1) (e4 i1) (rwAt l i1))))) (Min.min 10 (List.length (toRws (AV.dat (List.length l) ea 5 (fun (i1 : Nat) => (rwA (e3 i1) (e4 i1) (rwAt l i1))))))))) i)))) false 1 (rowL (Cl.b (Jb.c (jbAt (Dk.q (madeN (toRws (AV.dat (List.length l) ea 5 (fun (i1 : Nat) => (rwA (e3 i1) (e4 i1) (rwAt l i1))))) (Min.min 10 (List.length (toRws (AV.dat (List.length l) ea 5 (fun (i1 : Nat) => (rwA (e3 i1) (e4 i1) (rwAt l i1))))))))) i))))), (hA (Cl.h (Jb.c (jbAt (Dk.q (madeN (toRws (AV.dat (List.length l) ea 5 (fun (i2 : Nat) => (rwA (e3 i2) (e4 i2) (rwAt l i2))))) (Min.min 10 (List.length (toRws (AV.dat (List.length l) ea 5 (fun (i2 : Nat) => (rwA (e3 i2) (e4 i2) (rwAt l i2))))))))) i))))])])))])))] [8]) S2 ∧ Holds C P 99 D K Φ (cutAt C w_lss b_lss [1, 1, 1, 0] S2 (after C w_lss b_lss [1, 1, 1, 0] [] lf))))))) := by kernel_rfl
theorem lss_C3 (ex : Bool) (e1 e2 : Nat → Bool) (q : List Rw) (ez : Bool) (dn : List Bool) (d : Dk) {D : Dom} (K : Nat) (Φ : Ex → St → Prop) :
 (Holds C P 99 D K Φ (cutAt C w_lss b_lss [1, 1, 1, 0] (S_lss3 ex e1 e2 q ez dn d) (after C w_lss b_lss [1, 1, 1, 0] [] lf))) =
 (Fun C P 15 [(dkA false false d)] [] (AV.st [(csA false (Dk.l (syncD (toDk (dkA false false d))))), (jsA false ([] : List Jb))]) [] ∧
 ((((true = true) ∧ (true = true)) ∧ (((true = true) ∧ (true = true)) ∧ True)) ∧
 (∃ (S2 : St), Ent C 99 D K (St.mk [(1, (AV.dat (List.length q) ex 5 (fun (i : Nat) => (rwA (e1 i) (e2 i) (rwAt q i))))), (2, (bA ez dn)), (7, (AV.sb true)), (8, (AV.ptr 8 [])), (9, (AV.ptr 9 []))] [(8, (Blk.c (dkA false false d))), (9, (Blk.c (AV.st [(csA false (Dk.l (syncD (toDk (dkA false false d))))), (jsA false ([] : List Jb))])))] [9, 8]) S2 ∧ Holds C P 99 D K Φ (cutAt C w_lss b_lss [1, 1, 1, 1, 0, 0] S2 (after C w_lss b_lss [1, 1, 1, 1, 0, 0] [] lf))))) := by kernel_rfl
theorem lss_C4 (ex : Bool) (e1 e2 : Nat → Bool) (q : List Rw) (ez : Bool) (dn : List Bool) (d s : Dk) {D : Dom} (K : Nat) (Φ : Ex → St → Prop) :
 (Holds C P 99 D K Φ (cutAt C w_lss b_lss [1, 1, 1, 1, 0, 0] (S_lss4 ex e1 e2 q ez dn d s) (after C w_lss b_lss [1, 1, 1, 1, 0, 0] [] lf))) =
 (Fun C P 18 [(dkA false false s)] [] (AV.sb (vldB (toDk (dkA false false s)))) [] ∧
 (True ∧
 (((! (vldB (toDk (dkA false false s)))) = true →
 (Φ Ex.ret (St.mk [(1, (AV.dat (List.length q) ex 5 (fun (i : Nat) => (rwA (e1 i) (e2 i) (rwAt q i))))), (2, (bA ez dn)), (6, (AV.v (Value.bool false))), (7, (AV.sb true)), (8, (AV.ptr 8 [])), (9, (AV.ptr 9 [])), (38, (AV.v (Value.bool true)))] [(8, (Blk.c (dkA false false d))), (9, (Blk.c (dkA false false s)))] [8, 9]))) ∧
 ((! (vldB (toDk (dkA false false s)))) = false →
 (((decide ((((List.length (Dk.q s)) : Nat) : Int) > (0 : Int))) = true →
 (Φ Ex.ret (St.mk [(1, (AV.dat (List.length q) ex 5 (fun (i : Nat) => (rwA (e1 i) (e2 i) (rwAt q i))))), (2, (bA ez dn)), (6, (AV.v (Value.bool false))), (7, (AV.sb true)), (8, (AV.ptr 8 [])), (9, (AV.ptr 9 [])), (38, (AV.v (Value.bool true)))] [(8, (Blk.c (dkA false false d))), (9, (Blk.c (dkA false false s)))] [8, 9]))) ∧
 ((decide ((((List.length (Dk.q s)) : Nat) : Int) > (0 : Int))) = false →
 (Fun C P 25 [(dkA false false s)] [] (AV.dat (List.length (cont (toDk (dkA false false s)))) false 2 (fun (i : Nat) => (AV.arr 2 1 (fun (k : Nat) => (AV.i (num2 (clAt (cont (toDk (dkA false false s))) i) k)))))) [] ∧
 (Fun C P 25 [(dkA false false d)] [] (AV.dat (List.length (cont (toDk (dkA false false d)))) false 2 (fun (i : Nat) => (AV.arr 2 1 (fun (k : Nat) => (AV.i (num2 (clAt (cont (toDk (dkA false false d))) i) k)))))) [] ∧
 (Fun C P 24 [(AV.dat (List.length (cont (toDk (dkA false false s)))) false 2 (fun (i : Nat) => (AV.arr 2 1 (fun (k : Nat) => (AV.i (num2 (clAt (cont (toDk (dkA false false s))) i) k)))))), (AV.dat (List.length (cont (toDk (dkA false false d)))) false 2 (fun (i : Nat) => (AV.arr 2 1 (fun (k : Nat) => (AV.i (num2 (clAt (cont (toDk (dkA false false d))) i) k))))))] [] (AV.sb true) [] ∧
 (True ∧
 ((false = true →
 (Φ Ex.ret (St.mk [(1, (AV.dat (List.length q) ex 5 (fun (i : Nat) => (rwA (e1 i) (e2 i) (rwAt q i))))), (2, (bA ez dn)), (6, (AV.v (Value.bool false))), (7, (AV.sb true)), (8, (AV.ptr 8 [])), (9, (AV.ptr 9 [])), (38, (AV.v (Value.bool true)))] [(8, (Blk.c (dkA false false d))), (9, (Blk.c (dkA false false s)))] [8, 9]))) ∧
 (false = false →
 (∃ (S2 : St), Ent C 99 D K (St.mk [(1, (AV.dat (List.length q) ex 5 (fun (i : Nat) => (rwA (e1 i) (e2 i) (rwAt q i))))), (2, (bA ez dn)), (7, (AV.sb true)), (8, (AV.ptr 8 [])), (9, (AV.ptr 9 [])), (38, (AV.v (Value.bool false)))] [(8, (Blk.c (dkA false false d))), (9, (Blk.c (dkA false false s)))] [8, 9]) S2 ∧ Holds C P 99 D K Φ (cutAt C w_lss b_lss [1, 1, 1, 1, 1, 0, 0] S2 (after C w_lss b_lss [1, 1, 1, 1, 1, 0, 0] [] lf))))))))))))))) := by kernel_rfl
theorem lss_C6 (ex : Bool) (e1 e2 : Nat → Bool) (q : List Rw) (ez : Bool) (dn : List Bool) (d s : Dk) {D : Dom} (K : Nat) (Φ : Ex → St → Prop) :
 (Holds C P 99 D K Φ (cutAt C w_lss b_lss [1, 1, 1, 1, 1, 0, 0] (S_lss4 ex e1 e2 q ez dn d s) (after C w_lss b_lss [1, 1, 1, 1, 1, 0, 0] [] lf))) =
 (LoopOK C P 99 D K (bodyAt b_lss [1, 1, 1, 1, 1, 0, 1, 0]) (St.mk [(1, (AV.dat (List.length q) ex 5 (fun (i : Nat) => (rwA (e1 i) (e2 i) (rwAt q i))))), (2, (bA ez dn)), (7, (AV.sb true)), (8, (AV.ptr 8 [])), (9, (AV.ptr 9 [])), (10, (AV.i (0 : Int)))] [(8, (Blk.c (dkA false false d))), (9, (Blk.c (dkA false false s)))] [8, 9]) (fun (e : Ex) (S' : St) => Holds C P 99 D K Φ (after C w_lss b_lss [1, 1, 1, 1, 1, 0, 1, 0] [] lf e S'))) := by kernel_rfl
noncomputable abbrev bd_lss_0 : Code := bodyAt (b_lss) [1, 1, 1, 1, 1, 0, 1, 0]
theorem ok_lss_0 : codeOK bd_lss_0 = true := by kernel_rfl
noncomputable abbrev rest_lss_0 (D : Dom) (K : Nat) (Φ : Ex → St → Prop) : Ex → St → Prop := fun e S' => Holds C P 99 D K Φ (after C w_lss (b_lss) [1, 1, 1, 1, 1, 0, 1, 0] [] lf e S')
theorem lss_L0 (ex : Bool) (e1 e2 : Nat → Bool) (q : List Rw) (ez : Bool) (dn : List Bool) (d s : Dk) (i : Nat) {D : Dom} (K : Nat) (Φ : Ex → St → Prop) :
 (Holds C P 99 D K (RoundQ C 99 D K (I_lss0 ex e1 e2 q ez dn d s) (fun i => i ≤ 5) (fun i => 5 - i) ((fun i => 5 - i) (i)) (rest_lss_0 D K Φ)) (vc C w_lss bd_lss_0 [] ((I_lss0 ex e1 e2 q ez dn d s) (i)) lf)) =
 (((decide (((i : Nat) : Int) < (5 : Int))) = true →
 (LoopOK C P 99 D K (bodyAt bd_lss_0 [1, 0, 0, 1, 0]) (St.mk [(1, (AV.dat (List.length q) ex 5 (fun (i1 : Nat) => (rwA (e1 i1) (e2 i1) (rwAt q i1))))), (2, (bA ez dn)), (7, (AV.sb true)), (8, (AV.ptr 8 [])), (9, (AV.ptr 9 [])), (10, (AV.i ((i : Nat) : Int))), (11, (AV.i (0 : Int))), (40, (AV.v (Value.bool true)))] [(8, (Blk.c (dkA false false d))), (9, (Blk.c (dkA false false s)))] [8, 9]) (fun (e : Ex) (S' : St) => Holds C P 99 D K (RoundQ C 99 D K (I_lss0 ex e1 e2 q ez dn d s) (fun i => i ≤ 5) (fun i => 5 - i) ((fun i => 5 - i) (i)) (rest_lss_0 D K Φ)) (after C w_lss bd_lss_0 [1, 0, 0, 1, 0] [] lf e S')))) ∧
 ((decide (((i : Nat) : Int) < (5 : Int))) = false →
 ((((true = true) ∧ (true = true)) ∧ (((true = true) ∧ (true = true)) ∧ True)) ∧
 (∃ (S2 : St), Ent C 99 D K (St.mk [(1, (AV.dat (List.length q) ex 5 (fun (i1 : Nat) => (rwA (e1 i1) (e2 i1) (rwAt q i1))))), (2, (bA ez dn)), (7, (AV.sb true)), (8, (AV.ptr 8 [])), (9, (AV.ptr 9 [])), (10, (AV.i ((i : Nat) : Int))), (12, (AV.ptr 12 [])), (40, (AV.v (Value.bool false)))] [(8, (Blk.c (dkA false false d))), (9, (Blk.c (dkA false false s))), (12, (Blk.c (dkA false false s)))] [12, 8, 9]) S2 ∧ Holds C P 99 D K Φ (cutAt C w_lss b_lss [1, 1, 1, 1, 1, 1, 1, 0, 0] S2 (after C w_lss b_lss [1, 1, 1, 1, 1, 1, 1, 0, 0] [] lf)))))) := by kernel_rfl
noncomputable abbrev bd_lss_1 : Code := bodyAt (bd_lss_0) [1, 0, 0, 1, 0]
theorem ok_lss_1 : codeOK bd_lss_1 = true := by kernel_rfl
noncomputable abbrev rest_lss_1 (D : Dom) (K : Nat) (Φ : Ex → St → Prop) : Ex → St → Prop := fun e S' => Holds C P 99 D K Φ (after C w_lss (bd_lss_0) [1, 0, 0, 1, 0] [] lf e S')
theorem lss_L1 (ex : Bool) (e1 e2 : Nat → Bool) (q : List Rw) (ez : Bool) (dn : List Bool) (d s : Dk) (i k : Nat) {D : Dom} (K : Nat) (Φ : Ex → St → Prop) :
 (Holds C P 99 D K (RoundQ C 99 D K (I_lss1 ex e1 e2 q ez dn d s i) (fun k => k ≤ 4) (fun k => 4 - k) ((fun k => 4 - k) (k)) (rest_lss_1 D K Φ)) (vc C w_lss bd_lss_1 [] ((I_lss1 ex e1 e2 q ez dn d s i) (k)) lf)) =
 (((decide (((k : Nat) : Int) < (4 : Int))) = true →
 (Fun C P 13 [(AV.v (Value.int IntKind.u8 (IntKind.wrap IntKind.u8 ((i : Nat) : Int))))] [] (AV.i (idN (Int.toNat (IntKind.wrap IntKind.u8 ((i : Nat) : Int))))) [] ∧
 (True ∧
 (Fun C P 23 [(dkA false false s), (AV.i (idN (Int.toNat (IntKind.wrap IntKind.u8 ((i : Nat) : Int))))), (AV.i ((k : Nat) : Int))] [] (AV.st [(AV.dat (List.length (gotB (cont (toDk (dkA false false s))) (idN (Int.toNat (IntKind.wrap IntKind.u8 ((i : Nat) : Int)))) ((k : Nat) : Int))) false 1 (rowL (gotB (cont (toDk (dkA false false s))) (idN (Int.toNat (IntKind.wrap IntKind.u8 ((i : Nat) : Int)))) ((k : Nat) : Int)))), (AV.i (gotE (cont (toDk (dkA false false s))) (idN (Int.toNat (IntKind.wrap IntKind.u8 ((i : Nat) : Int)))) ((k : Nat) : Int)))]) [] ∧
 (Fun C P 13 [(AV.v (Value.int IntKind.u8 (IntKind.wrap IntKind.u8 ((i : Nat) : Int))))] [] (AV.i (idN (Int.toNat (IntKind.wrap IntKind.u8 ((i : Nat) : Int))))) [] ∧
 (True ∧
 (Fun C P 23 [(dkA false false d), (AV.i (idN (Int.toNat (IntKind.wrap IntKind.u8 ((i : Nat) : Int))))), (AV.i ((k : Nat) : Int))] [] (AV.st [(AV.dat (List.length (gotB (cont (toDk (dkA false false d))) (idN (Int.toNat (IntKind.wrap IntKind.u8 ((i : Nat) : Int)))) ((k : Nat) : Int))) false 1 (rowL (gotB (cont (toDk (dkA false false d))) (idN (Int.toNat (IntKind.wrap IntKind.u8 ((i : Nat) : Int)))) ((k : Nat) : Int)))), (AV.i (gotE (cont (toDk (dkA false false d))) (idN (Int.toNat (IntKind.wrap IntKind.u8 ((i : Nat) : Int)))) ((k : Nat) : Int)))]) [] ∧
 (Fun C P 26 [(AV.st [(AV.dat (List.length (gotB (cont (toDk (dkA false false s))) (idN (Int.toNat (IntKind.wrap IntKind.u8 ((i : Nat) : Int)))) ((k : Nat) : Int))) false 1 (rowL (gotB (cont (toDk (dkA false false s))) (idN (Int.toNat (IntKind.wrap IntKind.u8 ((i : Nat) : Int)))) ((k : Nat) : Int)))), (AV.i (gotE (cont (toDk (dkA false false s))) (idN (Int.toNat (IntKind.wrap IntKind.u8 ((i : Nat) : Int)))) ((k : Nat) : Int)))]), (AV.st [(AV.dat (List.length (gotB (cont (toDk (dkA false false d))) (idN (Int.toNat (IntKind.wrap IntKind.u8 ((i : Nat) : Int)))) ((k : Nat) : Int))) false 1 (rowL (gotB (cont (toDk (dkA false false d))) (idN (Int.toNat (IntKind.wrap IntKind.u8 ((i : Nat) : Int)))) ((k : Nat) : Int)))), (AV.i (gotE (cont (toDk (dkA false false d))) (idN (Int.toNat (IntKind.wrap IntKind.u8 ((i : Nat) : Int)))) ((k : Nat) : Int)))])] [] (AV.sb ((strB (bytesL (List.length (gotB (cont (toDk (dkA false false s))) (idN (Int.toNat (IntKind.wrap IntKind.u8 ((i : Nat) : Int)))) ((k : Nat) : Int))) (rowL (gotB (cont (toDk (dkA false false s))) (idN (Int.toNat (IntKind.wrap IntKind.u8 ((i : Nat) : Int)))) ((k : Nat) : Int)))) (bytesL (List.length (gotB (cont (toDk (dkA false false d))) (idN (Int.toNat (IntKind.wrap IntKind.u8 ((i : Nat) : Int)))) ((k : Nat) : Int))) (rowL (gotB (cont (toDk (dkA false false d))) (idN (Int.toNat (IntKind.wrap IntKind.u8 ((i : Nat) : Int)))) ((k : Nat) : Int))))) && ((gotE (cont (toDk (dkA false false s))) (idN (Int.toNat (IntKind.wrap IntKind.u8 ((i : Nat) : Int)))) ((k : Nat) : Int)) == (gotE (cont (toDk (dkA false false d))) (idN (Int.toNat (IntKind.wrap IntKind.u8 ((i : Nat) : Int)))) ((k : Nat) : Int))))) [] ∧
 (True ∧
 (((! ((strB (bytesL (List.length (gotB (cont (toDk (dkA false false s))) (idN (Int.toNat (IntKind.wrap IntKind.u8 ((i : Nat) : Int)))) ((k : Nat) : Int))) (rowL (gotB (cont (toDk (dkA false false s))) (idN (Int.toNat (IntKind.wrap IntKind.u8 ((i : Nat) : Int)))) ((k : Nat) : Int)))) (bytesL (List.length (gotB (cont (toDk (dkA false false d))) (idN (Int.toNat (IntKind.wrap IntKind.u8 ((i : Nat) : Int)))) ((k : Nat) : Int))) (rowL (gotB (cont (toDk (dkA false false d))) (idN (Int.toNat (IntKind.wrap IntKind.u8 ((i : Nat) : Int)))) ((k : Nat) : Int))))) && ((gotE (cont (toDk (dkA false false s))) (idN (Int.toNat (IntKind.wrap IntKind.u8 ((i : Nat) : Int)))) ((k : Nat) : Int)) == (gotE (cont (toDk (dkA false false d))) (idN (Int.toNat (IntKind.wrap IntKind.u8 ((i : Nat) : Int)))) ((k : Nat) : Int))))) = true →
 (Φ Ex.ret (St.mk [(1, (AV.dat (List.length q) ex 5 (fun (i1 : Nat) => (rwA (e1 i1) (e2 i1) (rwAt q i1))))), (2, (bA ez dn)), (6, (AV.v (Value.bool false))), (7, (AV.sb true)), (8, (AV.ptr 8 [])), (9, (AV.ptr 9 [])), (10, (AV.i ((i : Nat) : Int))), (11, (AV.i ((k : Nat) : Int))), (44, (AV.v (Value.bool true))), (60, (AV.v (Value.bool true)))] [(8, (Blk.c (dkA false false d))), (9, (Blk.c (dkA false false s)))] [8, 9]))) ∧
 ((! ((strB (bytesL (List.length (gotB (cont (toDk (dkA false false s))) (idN (Int.toNat (IntKind.wrap IntKind.u8 ((i : Nat) : Int)))) ((k : Nat) : Int))) (rowL (gotB (cont (toDk (dkA false false s))) (idN (Int.toNat (IntKind.wrap IntKind.u8 ((i : Nat) : Int)))) ((k : Nat) : Int)))) (bytesL (List.length (gotB (cont (toDk (dkA false false d))) (idN (Int.toNat (IntKind.wrap IntKind.u8 ((i : Nat) : Int)))) ((k : Nat) : Int))) (rowL (gotB (cont (toDk (dkA false false d))) (idN (Int.toNat (IntKind.wrap IntKind.u8 ((i : Nat) : Int)))) ((k : Nat) : Int))))) && ((gotE (cont (toDk (dkA false false s))) (idN (Int.toNat (IntKind.wrap IntKind.u8 ((i : Nat) : Int)))) ((k : Nat) : Int)) == (gotE (cont (toDk (dkA false false d))) (idN (Int.toNat (IntKind.wrap IntKind.u8 ((i : Nat) : Int)))) ((k : Nat) : Int))))) = false →
 ((I64 (((k + 1) : Nat) : Int)) ∧
 ((RoundQ C 99 D K (I_lss1 ex e1 e2 q ez dn d s i) (fun k => k ≤ 4) (fun k => 4 - k) ((fun k => 4 - k) (k)) (rest_lss_1 D K Φ)) Ex.normal (St.mk [(1, (AV.dat (List.length q) ex 5 (fun (i1 : Nat) => (rwA (e1 i1) (e2 i1) (rwAt q i1))))), (2, (bA ez dn)), (7, (AV.sb true)), (8, (AV.ptr 8 [])), (9, (AV.ptr 9 [])), (10, (AV.i ((i : Nat) : Int))), (11, (AV.i (((k + 1) : Nat) : Int))), (44, (AV.v (Value.bool true))), (60, (AV.v (Value.bool false)))] [(8, (Blk.c (dkA false false d))), (9, (Blk.c (dkA false false s)))] [8, 9])))))))))))))) ∧
 ((decide (((k : Nat) : Int) < (4 : Int))) = false →
 ((I64 (((i + 1) : Nat) : Int)) ∧
 (Φ Ex.normal (St.mk [(1, (AV.dat (List.length q) ex 5 (fun (i1 : Nat) => (rwA (e1 i1) (e2 i1) (rwAt q i1))))), (2, (bA ez dn)), (7, (AV.sb true)), (8, (AV.ptr 8 [])), (9, (AV.ptr 9 [])), (10, (AV.i (((i + 1) : Nat) : Int))), (11, (AV.i ((k : Nat) : Int))), (44, (AV.v (Value.bool false)))] [(8, (Blk.c (dkA false false d))), (9, (Blk.c (dkA false false s)))] [8, 9]))))) := by kernel_rfl
theorem lss_C15 (ex : Bool) (e1 e2 : Nat → Bool) (q : List Rw) (ez : Bool) (dn : List Bool) (s n : Dk) {D : Dom} (K : Nat) (Φ : Ex → St → Prop) :
 (Holds C P 99 D K Φ (cutAt C w_lss b_lss [1, 1, 1, 1, 1, 1, 1, 0, 0] (S_lss15 ex e1 e2 q ez dn s n) (after C w_lss b_lss [1, 1, 1, 1, 1, 1, 1, 0, 0] [] lf))) =
 (LoopOK C P 99 D K (bodyAt b_lss [1, 1, 1, 1, 1, 1, 1, 0, 1, 0]) (St.mk [(1, (AV.dat (List.length q) ex 5 (fun (i : Nat) => (rwA (e1 i) (e2 i) (rwAt q i))))), (2, (bA ez dn)), (7, (AV.sb true)), (9, (AV.ptr 9 [])), (12, (AV.ptr 12 [])), (13, (AV.i (0 : Int)))] [(9, (Blk.c (dkA false false s))), (12, (Blk.c (dkA false false n)))] [9, 12]) (fun (e : Ex) (S' : St) => Holds C P 99 D K Φ (after C w_lss b_lss [1, 1, 1, 1, 1, 1, 1, 0, 1, 0] [] lf e S'))) := by kernel_rfl
noncomputable abbrev bd_lss_2 : Code := bodyAt (b_lss) [1, 1, 1, 1, 1, 1, 1, 0, 1, 0]
theorem ok_lss_2 : codeOK bd_lss_2 = true := by kernel_rfl
noncomputable abbrev rest_lss_2 (D : Dom) (K : Nat) (Φ : Ex → St → Prop) : Ex → St → Prop := fun e S' => Holds C P 99 D K Φ (after C w_lss (b_lss) [1, 1, 1, 1, 1, 1, 1, 0, 1, 0] [] lf e S')
theorem lss_L2 (ex : Bool) (e1 e2 : Nat → Bool) (q : List Rw) (ez : Bool) (dn : List Bool) (s : Dk) (f : Nat → Dk) (i : Nat) {D : Dom} (K : Nat) (Φ : Ex → St → Prop) :
 (Holds C P 99 D K (RoundQ C 99 D K (I_lss2 ex e1 e2 q ez dn s f) (fun i => i ≤ 4 ∧ i ≤ q.length) (fun i => 4 - i) ((fun i => 4 - i) (i)) (rest_lss_2 D K Φ)) (vc C w_lss bd_lss_2 [] ((I_lss2 ex e1 e2 q ez dn s f) (i)) lf)) =
 (((decide (((i : Nat) : Int) < (((List.length q) : Nat) : Int))) = true →
 (((decide (((i : Nat) : Int) < (4 : Int))) = true →
 ((((0 : Int) ≤ ((i : Nat) : Int)) ∧ (((i : Nat) : Int) < (((List.length q) : Nat) : Int))) ∧
 ((((true = true) ∧ (true = true)) ∧ (((true = true) ∧ (true = true)) ∧ (((true = true) ∧ (true = true)) ∧ (((true = true) ∧ (true = true)) ∧ (((true = true) ∧ (true = true)) ∧ True))))) ∧
 (((6 : Int) ≠ (0 : Int)) ∧
 (Fun C P 27 [(dkA false false (f i)), (AV.st [(AV.v (Value.int IntKind.u8 ((((Rw.k (rwAt q i)) % 6) : Nat) : Int))), (AV.v (Value.int IntKind.u8 (((Rw.i (rwAt q i)) : Nat) : Int))), (AV.v (Value.int IntKind.u8 (((Rw.s (rwAt q i)) : Nat) : Int))), (AV.dat (List.length (Rw.b (rwAt q i))) (e1 i) 1 (rowL (Rw.b (rwAt q i)))), (bA (e2 i) (Rw.dn (rwAt q i)))])] [] (dkA false false (stepD (toDk (dkA false false (f i))) (toRw (AV.st [(AV.v (Value.int IntKind.u8 ((((Rw.k (rwAt q i)) % 6) : Nat) : Int))), (AV.v (Value.int IntKind.u8 (((Rw.i (rwAt q i)) : Nat) : Int))), (AV.v (Value.int IntKind.u8 (((Rw.s (rwAt q i)) : Nat) : Int))), (AV.dat (List.length (Rw.b (rwAt q i))) (e1 i) 1 (rowL (Rw.b (rwAt q i)))), (bA (e2 i) (Rw.dn (rwAt q i)))])))) [] ∧
 ((((true = true) ∧ (true = true)) ∧ (((true = true) ∧ (true = true)) ∧ True)) ∧
 ((I64 (((i + 1) : Nat) : Int)) ∧
 ((RoundQ C 99 D K (I_lss2 ex e1 e2 q ez dn s f) (fun i => i ≤ 4 ∧ i ≤ q.length) (fun i => 4 - i) ((fun i => 4 - i) (i)) (rest_lss_2 D K Φ)) Ex.normal (St.mk [(1, (AV.dat (List.length q) ex 5 (fun (i1 : Nat) => (rwA (e1 i1) (e2 i1) (rwAt q i1))))), (2, (bA ez dn)), (7, (AV.sb true)), (9, (AV.ptr 9 [])), (12, (AV.ptr 12 [])), (13, (AV.i (((i + 1) : Nat) : Int))), (14, (AV.ptr 14 [])), (69, (AV.v (Value.bool true)))] [(9, (Blk.c (dkA false false s))), (12, (Blk.c (dkA false false (stepD (toDk (dkA false false (f i))) (toRw (AV.st [(AV.v (Value.int IntKind.u8 ((((Rw.k (rwAt q i)) % 6) : Nat) : Int))), (AV.v (Value.int IntKind.u8 (((Rw.i (rwAt q i)) : Nat) : Int))), (AV.v (Value.int IntKind.u8 (((Rw.s (rwAt q i)) : Nat) : Int))), (AV.dat (List.length (Rw.b (rwAt q i))) (e1 i) 1 (rowL (Rw.b (rwAt q i)))), (bA (e2 i) (Rw.dn (rwAt q i)))])))))), (14, (Blk.c (AV.st [(AV.v (Value.int IntKind.u8 ((((Rw.k (rwAt q i)) % 6) : Nat) : Int))), (AV.v (Value.int IntKind.u8 (((Rw.i (rwAt q i)) : Nat) : Int))), (AV.v (Value.int IntKind.u8 (((Rw.s (rwAt q i)) : Nat) : Int))), (AV.dat (List.length (Rw.b (rwAt q i))) (e1 i) 1 (rowL (Rw.b (rwAt q i)))), (bA (e2 i) (Rw.dn (rwAt q i)))])))] [14, 9, 12]))))))))) ∧
 ((decide (((i : Nat) : Int) < (4 : Int))) = false →
 (∃ (S2 : St), Ent C 99 D K (St.mk [(1, (AV.dat (List.length q) ex 5 (fun (i1 : Nat) => (rwA (e1 i1) (e2 i1) (rwAt q i1))))), (2, (bA ez dn)), (7, (AV.sb true)), (9, (AV.ptr 9 [])), (12, (AV.ptr 12 [])), (13, (AV.i ((i : Nat) : Int))), (69, (AV.v (Value.bool false)))] [(9, (Blk.c (dkA false false s))), (12, (Blk.c (dkA false false (f i))))] [9, 12]) S2 ∧ Holds C P 99 D K Φ (cutAt C w_lss b_lss [1, 1, 1, 1, 1, 1, 1, 1, 0] S2 (after C w_lss b_lss [1, 1, 1, 1, 1, 1, 1, 1, 0] [] lf)))))) ∧
 ((decide (((i : Nat) : Int) < (((List.length q) : Nat) : Int))) = false →
 (∃ (S2 : St), Ent C 99 D K (St.mk [(1, (AV.dat (List.length q) ex 5 (fun (i1 : Nat) => (rwA (e1 i1) (e2 i1) (rwAt q i1))))), (2, (bA ez dn)), (7, (AV.sb true)), (9, (AV.ptr 9 [])), (12, (AV.ptr 12 [])), (13, (AV.i ((i : Nat) : Int))), (69, (AV.v (Value.bool false)))] [(9, (Blk.c (dkA false false s))), (12, (Blk.c (dkA false false (f i))))] [9, 12]) S2 ∧ Holds C P 99 D K Φ (cutAt C w_lss b_lss [1, 1, 1, 1, 1, 1, 1, 1, 0] S2 (after C w_lss b_lss [1, 1, 1, 1, 1, 1, 1, 1, 0] [] lf))))) := by kernel_rfl
theorem lss_C21 (ez : Bool) (dn : List Bool) (s n : Dk) {D : Dom} (K : Nat) (Φ : Ex → St → Prop) :
 (Holds C P 99 D K Φ (cutAt C w_lss b_lss [1, 1, 1, 1, 1, 1, 1, 1, 0] (S_lss21 ez dn s n) (after C w_lss b_lss [1, 1, 1, 1, 1, 1, 1, 1, 0] [] lf))) =
 (Fun C P 17 [(dkA false false n), (AV.dat 0 true 0 (fun (x : Nat) => (AV.v (Value.tuple #[]))))] [] (AV.st [(csA false (Dk.l (crashD (toDk (dkA false false n)) ([] : List Bool)))), (jsA false ([] : List Jb))]) [] ∧
 (Fun C P 17 [(dkA false false s), (bA ez dn)] [] (AV.st [(csA false (Dk.l (crashD (toDk (dkA false false s)) (bLs (bA ez dn))))), (jsA false ([] : List Jb))]) [] ∧
 ((((true = true) ∧ (true = true)) ∧ (((true = true) ∧ (true = true)) ∧ True)) ∧
 ((((true = true) ∧ (true = true)) ∧ (((true = true) ∧ (true = true)) ∧ True)) ∧
 (∃ (S2 : St), Ent C 99 D K (St.mk [(2, (bA ez dn)), (7, (AV.sb true)), (9, (AV.ptr 9 [])), (12, (AV.ptr 12 [])), (15, (AV.ptr 15 [])), (16, (AV.ptr 16 []))] [(9, (Blk.c (dkA false false s))), (12, (Blk.c (dkA false false n))), (15, (Blk.c (AV.st [(csA false (Dk.l (crashD (toDk (dkA false false n)) ([] : List Bool)))), (jsA false ([] : List Jb))]))), (16, (Blk.c (AV.st [(csA false (Dk.l (crashD (toDk (dkA false false s)) (bLs (bA ez dn))))), (jsA false ([] : List Jb))])))] [16, 15, 9, 12]) S2 ∧ Holds C P 99 D K Φ (cutAt C w_lss b_lss [1, 1, 1, 1, 1, 1, 1, 1, 1, 0] S2 (after C w_lss b_lss [1, 1, 1, 1, 1, 1, 1, 1, 1, 0] [] lf))))))) := by kernel_rfl
theorem lss_C22 (s a b : Dk) {D : Dom} (K : Nat) (Φ : Ex → St → Prop) :
 (Holds C P 99 D K Φ (cutAt C w_lss b_lss [1, 1, 1, 1, 1, 1, 1, 1, 1, 0] (S_lss22 s a b) (after C w_lss b_lss [1, 1, 1, 1, 1, 1, 1, 1, 1, 0] [] lf))) =
 (Fun C P 22 [(dkA false false a), (dkA false false s)] [] (AV.sb (sameD (toDk (dkA false false a)) (toDk (dkA false false s)))) [] ∧
 (True ∧
 (((sameD (toDk (dkA false false a)) (toDk (dkA false false s))) = true →
 (Fun C P 22 [(dkA false false b), (dkA false false s)] [] (AV.sb (sameD (toDk (dkA false false b)) (toDk (dkA false false s)))) [] ∧
 (True ∧
 (((sameD (toDk (dkA false false b)) (toDk (dkA false false s))) = true →
 (Φ Ex.ret (St.mk [(6, (AV.sb true)), (7, (AV.sb true)), (9, (AV.ptr 9 [])), (15, (AV.ptr 15 [])), (16, (AV.ptr 16 []))] [(9, (Blk.c (dkA false false s))), (15, (Blk.c (dkA false false a))), (16, (Blk.c (dkA false false b)))] [9, 15, 16]))) ∧
 ((sameD (toDk (dkA false false b)) (toDk (dkA false false s))) = false →
 (Φ Ex.ret (St.mk [(6, (AV.v (Value.bool false))), (7, (AV.sb true)), (9, (AV.ptr 9 [])), (15, (AV.ptr 15 [])), (16, (AV.ptr 16 []))] [(9, (Blk.c (dkA false false s))), (15, (Blk.c (dkA false false a))), (16, (Blk.c (dkA false false b)))] [9, 15, 16]))))))) ∧
 ((sameD (toDk (dkA false false a)) (toDk (dkA false false s))) = false →
 (Φ Ex.ret (St.mk [(6, (AV.v (Value.bool false))), (7, (AV.sb true)), (9, (AV.ptr 9 [])), (15, (AV.ptr 15 [])), (16, (AV.ptr 16 []))] [(9, (Blk.c (dkA false false s))), (15, (Blk.c (dkA false false a))), (16, (Blk.c (dkA false false b)))] [9, 15, 16])))))) := by kernel_rfl
theorem sm_sv {m : Nat → Option Nat} {s : Dk} (h : s = ⟨s.l, []⟩) : simR m (AV.st [csA false s.l, jsA false []]) (dkA false false s) := by
  have e : dkA false false s = AV.st [csA false s.l, jsA false []] := by
    have : s.q = [] := by rw [h]
    show AV.st [csA false s.l, jsA false s.q] = _
    rw [this]
  rw [e]
  exact sm_same rfl
theorem VD.gotB {d : Dk} (h : VD d) (i s : Int) : Small (gotB (cont d) i s) := by
  unfold Go.Bu.W.gotB
  cases hg : getC (cont d) i s with
  | none => exact fun x hx => by cases hx
  | some c =>
    show Small (if whC c = true then c.b else [])
    split
    · exact (h.smc (getC_some hg).1).1
    · exact fun x hx => by cases hx
theorem wr_u8 {i : Nat} (h : i < 256) : IntKind.wrap IntKind.u8 ((i : Nat) : Int) = ((i : Nat) : Int) := by rw [wrap_u8]; omega
theorem got_same (a : List Nat) (e : Int) : (strB a a && (e == e)) = true := by rw [strB_refl, beq_self_eq_true]; rfl
abbrev cut6 (x : Rw) : Rw := ⟨x.k % 6, x.i, x.s, x.b, x.dn⟩
def moreN (s : Dk) (q : List Rw) : Nat → Dk
  | 0 => s
  | n + 1 => stepD (moreN s q n) (cut6 (rwAt q n))
theorem step_six (d : Dk) (x : Rw) : (stepD d (cut6 x)).l = d.l ∧ (stepD d (cut6 x)).q.length ≤ d.q.length + 1 := by
  have h6 : x.k % 6 < 6 := Nat.mod_lt _ (by decide)
  have hk : (cut6 x).k = x.k % 6 := rfl
  have hp : ∀ j, (pushD d j).l = d.l ∧ (pushD d j).q.length ≤ d.q.length + 1 := fun j => ⟨rfl, by show (d.q ++ [j]).length ≤ _; rw [List.length_append]; exact Nat.le_refl _⟩
  unfold stepD
  rw [hk]
  split
  · unfold putD
    split
    · split
      · exact ⟨rfl, by omega⟩
      · exact hp _
    · exact ⟨rfl, by omega⟩
  · rw [if_pos (by omega)]
    unfold dropD
    split
    · exact hp _
    · exact ⟨rfl, by omega⟩
theorem small_of {l : List Rw} (hx : ∀ x, x ∈ l → OkRw x) : ∀ x, x ∈ l → Small x.b := fun x h => (hx x h).b
theorem crash_none (d : Dk) : crashD d [] = ⟨d.l, []⟩ := by
  have : ∀ n, prN (fun i => ([] : List Bool).getD i false) d.l d.q n = d.l := fun n => by
    induction n with
    | zero => rfl
    | succ n ih => 
      show (if ([] : List Bool).getD n false = true then _ else _) = _
      rw [if_neg (by simp)]; exact ih
  unfold crashD
  rw [this]
theorem lss_fun (ea : Bool) (e3 e4 : Nat → Bool) (l : List Rw) (hx : ∀ x, x ∈ l → OkRw x) (ex : Bool) (e1 e2 : Nat → Bool) (q : List Rw) (hq : ∀ x, x ∈ q → OkRw x) (ez : Bool) (dn : List Bool) : Fun C P F_lss [rwsA ea e3 e4 l, rwsA ex e1 e2 q, bA ez dn] [] (.sb true) [] := by
  refine in_lss (W := w_lss) rfl 0 (by simp) rfl (fun id h => absurd rfl h) fun D => ?_
  rw [lss_A ea e3 e4 l ex e1 e2 q ez dn 0 _, toRws_A]
  have hm := made_fun ea e3 e4 l 10 hx (by decide)
  have hv := VD.made (small_of hx) (min 10 l.length)
  have hlen := (Few.made (small_of hx) (min 10 l.length)).len
  have h10 : min 10 l.length ≤ 10 := Nat.min_le_left _ _
  obtain ⟨d, ed⟩ : ∃ d, d = madeN l (min 10 l.length) := ⟨_, rfl⟩
  rw [← ed] at hm hv hlen ⊢
  refine ⟨sanity_fun, trivial, hm, TD2, cut_ok (S2 := S_lss3 ex e1 e2 q ez dn d) (ent_of [(8, 8)] rfl (tm_cons rfl (sm_same rfl) (tm_cons rfl (sm_same rfl) (tm_cons rfl (sm_same rfl) (tm_cons rfl (sm_ptr rfl) tm_nil)))) (hp_cons rfl rfl (sm_same rfl) hp_nil)) ?_⟩
  rw [lss_C3 ex e1 e2 q ez dn d 0 _, toDk_A]
  have hs := sync_fun false false d hv.so (by omega)
  have vs := hv.sync
  have cs : cont (syncD d) = cont d := rfl
  have qs : (syncD d).q = [] := rfl
  have hln := cont_len hv.so
  have ll : (syncD d).l.length ≤ 10 := by show (cont d).length ≤ 10; omega
  refine ⟨hs, TD2, ?_⟩
  obtain ⟨s, es⟩ : ∃ s, s = syncD d := ⟨_, rfl⟩
  rw [← es] at hs vs cs qs ll
  have lq : s.q.length = 0 := by rw [qs]; rfl
  refine cut_ok (S2 := S_lss4 ex e1 e2 q ez dn d s) (ent_of [(8, 8), (9, 9)] rfl (tm_cons rfl (sm_same rfl) (tm_cons rfl (sm_same rfl) (tm_cons rfl (sm_same rfl) (tm_cons rfl (sm_ptr rfl) (tm_cons rfl (sm_ptr rfl) tm_nil))))) (hp_cons rfl rfl (sm_same rfl) (hp_cons rfl rfl (by rw [es]; exact sm_same rfl) hp_nil))) ?_
  rw [lss_C4 ex e1 e2 q ez dn d s 0 _, toDk_A, toDk_A]
  have hls := list_fun false false s vs (by omega)
  have hld := list_fun false false d hv (by omega)
  refine ⟨rvalid_fun false false s (vs.smV (by omega)), trivial, nf_then vs.vld (ff_then (by rw [lq]; rfl) ⟨hls, hld, by rw [cs]; exact rslist_fun false false (cont d) (by omega), trivial, fun h => (by cases h), fun _ => cut_ok (S2 := S_lss4 ex e1 e2 q ez dn d s) (ent_of [(8, 8), (9, 9)] rfl (tm_cons rfl (sm_same rfl) (tm_cons rfl (sm_same rfl) (tm_cons rfl (sm_same rfl) (tm_cons rfl (sm_ptr rfl) (tm_cons rfl (sm_ptr rfl) tm_nil))))) (hp_cons rfl rfl (sm_same rfl) (hp_cons rfl rfl (sm_same rfl) hp_nil))) ?_⟩)⟩
  rw [lss_C6 ex e1 e2 q ez dn d s 0 _]
  refine loop_inv (W := w_lss) ctx mixed ok_lss_0 (I_lss0 ex e1 e2 q ez dn d s) (fun i => i ≤ 5) (fun i => 5 - i) 0 (Nat.zero_le _) ?_ fun i hi => ?_
  · exact ent_of [(8, 8), (9, 9)] rfl (tm_cons rfl (sm_same rfl) (tm_cons rfl (sm_same rfl) (tm_cons rfl (sm_same rfl) (tm_cons rfl (sm_ptr rfl) (tm_cons rfl (sm_ptr rfl) (tm_cons rfl (sm_same rfl) tm_nil)))))) (hp_cons rfl rfl (sm_same rfl) (hp_cons rfl rfl (sm_same rfl) hp_nil))
  refine of_eq (lss_L0 ex e1 e2 q ez dn d s i 0 _) ⟨fun h => ?_, fun h => ?_⟩
  · simp only [decide_eq_true_eq] at h
    refine loop_inv (W := w_lss) ctx mixed ok_lss_1 (I_lss1 ex e1 e2 q ez dn d s i) (fun k => k ≤ 4) (fun k => 4 - k) 0 (Nat.zero_le _) ?_ fun k hk => ?_
    · exact ent_of [(8, 8), (9, 9)] rfl (tm_cons rfl (sm_same rfl) (tm_cons rfl (sm_same rfl) (tm_cons rfl (sm_same rfl) (tm_cons rfl (sm_ptr rfl) (tm_cons rfl (sm_ptr rfl) (tm_cons rfl (sm_same rfl) (tm_cons rfl (sm_same rfl) tm_nil))))))) (hp_cons rfl rfl (sm_same rfl) (hp_cons rfl rfl (sm_same rfl) hp_nil))
    refine of_eq (lss_L1 ex e1 e2 q ez dn d s i k 0 _) ⟨fun h2 => ?_, fun h2 => ?_⟩
    · simp only [decide_eq_true_eq] at h2
      rw [wr_u8 (show i < 256 by omega), Int.toNat_natCast, toDk_A, toDk_A, cs, bytesL_row]
      have hg := lget_fun false false s vs (idN i) k (by omega)
      rw [cs] at hg
      have sm : Small (gotB (cont d) (idN i) k) := hv.gotB (idN i) k
      exact ⟨rid_fun i (by omega), trivial, hg, rid_fun i (by omega), trivial, lget_fun false false d hv (idN i) k (by omega), sgot_fun _ _ _ _ sm sm, trivial, nf_then (got_same _ _) ⟨(by first | omega | decide | (unfold I64; omega)), round_end (k + 1) (by omega) (ent_of [(8, 8), (9, 9)] rfl (tm_cons rfl (sm_same rfl) (tm_cons rfl (sm_same rfl) (tm_cons rfl (sm_same rfl) (tm_cons rfl (sm_ptr rfl) (tm_cons rfl (sm_ptr rfl) (tm_cons rfl (sm_same rfl) (tm_cons rfl (sm_same rfl) tm_nil))))))) (hp_cons rfl rfl (sm_same rfl) (hp_cons rfl rfl (sm_same rfl) hp_nil))) (by dsimp only; omega)⟩⟩
    · simp only [decide_eq_false_iff_not] at h2
      exact ⟨(by first | omega | decide | (unfold I64; omega)), round_end (i + 1) (by omega) (ent_of [(8, 8), (9, 9)] rfl (tm_cons rfl (sm_same rfl) (tm_cons rfl (sm_same rfl) (tm_cons rfl (sm_same rfl) (tm_cons rfl (sm_ptr rfl) (tm_cons rfl (sm_ptr rfl) (tm_cons rfl (sm_same rfl) tm_nil)))))) (hp_cons rfl rfl (sm_same rfl) (hp_cons rfl rfl (sm_same rfl) hp_nil))) (by dsimp only; omega)⟩
  refine ⟨TD2, cut_ok (S2 := S_lss15 ex e1 e2 q ez dn s s) (ent_of [(9, 9), (12, 12)] rfl (tm_cons rfl (sm_same rfl) (tm_cons rfl (sm_same rfl) (tm_cons rfl (sm_same rfl) (tm_cons rfl (sm_ptr rfl) (tm_cons rfl (sm_ptr rfl) tm_nil))))) (hp_cons rfl rfl (sm_same rfl) (hp_cons rfl rfl (sm_same rfl) hp_nil))) ?_⟩
  rw [lss_C15 ex e1 e2 q ez dn s s 0 _]
  have hmore : ∀ i, i ≤ q.length → VD (moreN s q i) ∧ (moreN s q i).l = s.l ∧ (moreN s q i).q.length ≤ i := fun i => by
    induction i with
    | zero => exact fun _ => ⟨vs, rfl, by show s.q.length ≤ 0; omega⟩
    | succ i ih =>
      intro hi
      obtain ⟨h1, h2, h3⟩ := ih (by omega)
      obtain ⟨g1, g2⟩ := step_six (moreN s q i) (rwAt q i)
      have hb : Small (cut6 (rwAt q i)).b := (hq (rwAt q i) (by rw [rwAt_lt (show i < q.length by omega)]; exact List.getElem_mem _)).b
      exact ⟨h1.step hb, g1.trans h2, by show (stepD (moreN s q i) (cut6 (rwAt q i))).q.length ≤ i + 1; omega⟩
  have tail : ∀ i, i ≤ q.length → i ≤ 4 → Holds C P 99 D 0 (FunPost C 99 0 [.tmp 6] (.sb true) []) (cutAt C w_lss b_lss [1, 1, 1, 1, 1, 1, 1, 1, 0] (S_lss21 ez dn s (moreN s q i)) (after C w_lss b_lss [1, 1, 1, 1, 1, 1, 1, 1, 0] [] lf)) := fun i hi hi4 => by
    obtain ⟨m1, m2, m3⟩ := hmore i hi
    obtain ⟨n, en⟩ : ∃ n, n = moreN s q i := ⟨_, rfl⟩
    rw [← en] at m1 m2 m3 ⊢
    rw [lss_C21 ez dn s n 0 _, toDk_A, toDk_A, bLs_A]
    have hss : s = ⟨s.l, []⟩ := by rw [es]; rfl
    have k1 : crashD n [] = s := by rw [crash_none, m2]; exact hss.symm
    have k2 : crashD s dn = s := by rw [es]; rfl
    have c1 := crash_fun false false n false [] m1.so (by rw [m2]; omega)
    have c2 := crash_fun false false s ez dn vs.so (by omega)
    refine ⟨?_, c2, TD2, TD2, cut_ok (S2 := S_lss22 s s s) (ent_of [(9, 9), (15, 15), (16, 16)] rfl (tm_cons rfl (sm_same rfl) (tm_cons rfl (sm_ptr rfl) (tm_cons rfl (sm_ptr rfl) (tm_cons rfl (sm_ptr rfl) tm_nil)))) (hp_cons rfl rfl (sm_same rfl) (hp_cons rfl rfl (by rw [k1]; exact sm_sv hss) (hp_cons rfl rfl (by rw [k2]; exact sm_sv hss) hp_nil)))) ?_⟩
    · exact Fun.sim (args2 := [dkA false false n, bA false []]) (H2 := []) c1 ⟨sm_same rfl, .inr ⟨rfl, by simp, .inl rfl, fun i hi => absurd hi (Nat.not_lt_zero i)⟩, trivial⟩ trivial
    rw [lss_C22 s s s 0 _, toDk_A]
    have hr := rsame_fun false false false false s s vs.smD vs.smD (by omega)
    exact ⟨hr, trivial, tt_then (sameD_refl s) ⟨hr, trivial, tt_then (sameD_refl s) (post_tmp rfl (sm_same rfl))⟩⟩
  refine loop_inv (W := w_lss) ctx mixed ok_lss_2 (I_lss2 ex e1 e2 q ez dn s (moreN s q)) (fun i => i ≤ 4 ∧ i ≤ q.length) (fun i => 4 - i) 0 ⟨Nat.zero_le _, Nat.zero_le _⟩ ?_ fun i hi => ?_
  · exact ent_of [(9, 9), (12, 12)] rfl (tm_cons rfl (sm_same rfl) (tm_cons rfl (sm_same rfl) (tm_cons rfl (sm_same rfl) (tm_cons rfl (sm_ptr rfl) (tm_cons rfl (sm_ptr rfl) (tm_cons rfl (sm_same rfl) tm_nil)))))) (hp_cons rfl rfl (sm_same rfl) (hp_cons rfl rfl (sm_same rfl) hp_nil))
  obtain ⟨h1, h2⟩ := hi
  refine of_eq (lss_L2 ex e1 e2 q ez dn s (moreN s q) i 0 _) ⟨fun h => ⟨fun h3 => ?_, fun h3 => ?_⟩, fun h => ?_⟩
  · simp only [decide_eq_true_eq] at h h3
    have hlt : i < q.length := by omega
    obtain ⟨m1, m2, m3⟩ := hmore i h2
    have hok := hq (rwAt q i) (by rw [rwAt_lt hlt]; exact List.getElem_mem hlt)
    have ok6 : OkRw (cut6 (rwAt q i)) := ⟨by have := hok.k; show (rwAt q i).k % 6 < 256; omega, hok.i, hok.s, hok.b⟩
    have hr := rstep_fun false false (moreN s q i) (e1 i) (e2 i) (cut6 (rwAt q i)) m1 ok6 (by rw [m2]; omega) (by rw [m2]; omega)
    have e := toRw_A (e1 i) (e2 i) (cut6 (rwAt q i))
    rw [toDk_A, e]
    exact ⟨(by first | omega | decide | (unfold I64; omega)), ⟨⟨rfl, rfl⟩, ⟨rfl, rfl⟩, ⟨rfl, rfl⟩, TD2⟩, by decide, hr, TD2, (by first | omega | decide | (unfold I64; omega)), round_end (i + 1) ⟨by omega, hlt⟩ (ent_of [(9, 9), (12, 12)] rfl (tm_cons rfl (sm_same rfl) (tm_cons rfl (sm_same rfl) (tm_cons rfl (sm_same rfl) (tm_cons rfl (sm_ptr rfl) (tm_cons rfl (sm_ptr rfl) (tm_cons rfl (sm_same rfl) tm_nil)))))) (hp_cons rfl rfl (sm_same rfl) (hp_cons rfl rfl (sm_same rfl) hp_nil))) (by dsimp only; omega)⟩
  · exact cut_ok (S2 := S_lss21 ez dn s (moreN s q i)) (ent_of [(9, 9), (12, 12)] rfl (tm_cons rfl (sm_same rfl) (tm_cons rfl (sm_same rfl) (tm_cons rfl (sm_ptr rfl) (tm_cons rfl (sm_ptr rfl) tm_nil)))) (hp_cons rfl rfl (sm_same rfl) (hp_cons rfl rfl (sm_same rfl) hp_nil))) (tail i h2 h1)
  · exact cut_ok (S2 := S_lss21 ez dn s (moreN s q i)) (ent_of [(9, 9), (12, 12)] rfl (tm_cons rfl (sm_same rfl) (tm_cons rfl (sm_same rfl) (tm_cons rfl (sm_ptr rfl) (tm_cons rfl (sm_ptr rfl) tm_nil)))) (hp_cons rfl rfl (sm_same rfl) (hp_cons rfl rfl (sm_same rfl) hp_nil))) (tail i h2 h1)
theorem lss_law {x0 x1 x2 : AV} (h0 : Typed C.tt 6 22 x0) (h1 : Typed C.tt 6 22 x1) (h2 : Typed C.tt 6 29 x2) : Fun C P F_lss [x0, x1, x2] [] (.sb true) [] := by
  obtain ⟨l, ea, e3, e4, _, hx, s0⟩ := ty_raws h0
  obtain ⟨q, ex, e1, e2, _, hq, s1⟩ := ty_raws h1
  obtain ⟨dn, ez, _, s2⟩ := ty_bools h2
  exact (lss_fun ea e3 e4 l hx ex e1 e2 q hq ez dn).sim ⟨s0, s1, s2 _, trivial⟩ trivial
end Go.Bu.W



