/- The program's store and the reference's answer alike. -/
import Derived.Test.YtoaefniopgmoaaaDoorK25
import Derived.Test.YtoaefniopgmoaaaDoorKT6b
namespace Go.Bu.W
open Sp
def w_lsm : Way := wayN2 [0, 1, 2, 4, 5, 6, 7, 8, 9, 10, 11, 12, 13, 14, 25, 37, 78, 135] 185 [4,5,6,10,12,13,14,16]
abbrev n2 (f : Nat → Int) : AV := .arr 2 1 (fun i => .i (f i))
def T_lsm (R : AV) : List (Nat × AV) := [(0, R), (4, .ptr 4 []), (5, .ptr 5 []), (7, .sb true), (8, .ptr 8 [])]
def H_lsm (f : Nat → Int) (o d : Dk) : List (Nat × Blk) := [(4, .c (n2 f)), (5, .c (dkA false false o)), (8, .c (dkA false false d))]
def S_lsm4 (R : AV) (f : Nat → Int) (o : Dk) : St := { tm := [(0, R), (4, .ptr 4 []), (5, .ptr 5 []), (7, .sb true)], hp := [(4, .c (n2 f)), (5, .c (dkA false false o))], seen := [4, 5] }
def S_lsm5 (R : AV) (f : Nat → Int) (o d : Dk) : St := { tm := T_lsm R, hp := H_lsm f o d, seen := [4, 5, 8] }
def S_lsm6 (R : AV) (f : Nat → Int) (o d : Dk) (b : List Nat) : St := { tm := T_lsm R ++ [(9, dbA false b)], hp := H_lsm f o d, seen := [4, 5, 8] }
def I_lsm (R : AV) (f : Nat → Int) (o d : Dk) (b : List Nat) (i : Nat) : St := { tm := T_lsm R ++ [(9, dbA false b), (10, .i i)], hp := H_lsm f o d, seen := [4, 5, 8] }
def S_lsm10 (R : AV) (f : Nat → Int) (o d : Dk) (b : List Nat) (i : Nat) (a : Int) (s : Nat) : St := { tm := T_lsm R ++ [(9, dbA false b), (10, .i i), (11, .i a), (12, .i s)], hp := H_lsm f o d, seen := [4, 5, 8] }
def S_lsm13 (R : AV) (o d : Dk) : St := { tm := [(0, R), (5, .ptr 5 []), (7, .sb true), (8, .ptr 8 []), (13, .sb true)], hp := [(5, .c (dkA false false o)), (8, .c (dkA false false d))], seen := [5, 8] }
def S_lsm14 (R : AV) (o d : Dk) : St := { tm := [(0, R), (5, .ptr 5 []), (7, .sb true), (8, .ptr 8 []), (13, .sb true), (14, bA false [])], hp := [(5, .c (dkA false false o)), (8, .c (dkA false false d))], seen := [5, 8] }
def S_lsm16 (o d : Dk) (ez : Bool) (dn : List Bool) : St := { tm := [(5, .ptr 5 []), (7, .sb true), (8, .ptr 8 []), (13, .sb true), (14, bA ez dn)], hp := [(5, .c (dkA false false o)), (8, .c (dkA false false d))], seen := [5, 8] }
theorem lsm_A (ea : Bool) (e3 e4 : Nat → Bool) (l : List Rw) (f : Nat → Int) (o : Dk) {D : Dom} (K : Nat) (Φ : Ex → St → Prop) :
 (Holds C P 185 D K Φ (vc C w_lsm b_lsm [] (start [rwsA ea e3 e4 l, n2 f, dkA false false o] []) lf)) =
 (Fun C P 11 [] [] (AV.sb true) [] ∧
 (True ∧
 (((decide ((((List.length (Dk.l o)) : Nat) : Int) > (20 : Int))) = true →
 (Φ Ex.ret (St.mk [(0, (rwsA ea e3 e4 l)), (1, (AV.arr 2 1 (fun (i : Nat) => (AV.i (f i))))), (2, (dkA false false o)), (4, (AV.ptr 4 [])), (5, (AV.ptr 5 [])), (6, (AV.sb true)), (7, (AV.sb true)), (25, (AV.v (Value.bool true)))] [(4, (Blk.c (AV.arr 2 1 (fun (i : Nat) => (AV.i (f i)))))), (5, (Blk.c (dkA false false o)))] [5, 4]))) ∧
 ((decide ((((List.length (Dk.l o)) : Nat) : Int) > (20 : Int))) = false →
 (((decide ((((List.length (Dk.q o)) : Nat) : Int) > (20 : Int))) = true →
 (Φ Ex.ret (St.mk [(0, (rwsA ea e3 e4 l)), (1, (AV.arr 2 1 (fun (i : Nat) => (AV.i (f i))))), (2, (dkA false false o)), (4, (AV.ptr 4 [])), (5, (AV.ptr 5 [])), (6, (AV.sb true)), (7, (AV.sb true)), (25, (AV.v (Value.bool true)))] [(4, (Blk.c (AV.arr 2 1 (fun (i : Nat) => (AV.i (f i)))))), (5, (Blk.c (dkA false false o)))] [5, 4]))) ∧
 ((decide ((((List.length (Dk.q o)) : Nat) : Int) > (20 : Int))) = false →
 (∃ (S2 : St), Ent C 185 D K (St.mk [(0, (rwsA ea e3 e4 l)), (1, (AV.arr 2 1 (fun (i : Nat) => (AV.i (f i))))), (2, (dkA false false o)), (4, (AV.ptr 4 [])), (5, (AV.ptr 5 [])), (6, (AV.v (Value.bool false))), (7, (AV.sb true)), (25, (AV.v (Value.bool false)))] [(4, (Blk.c (AV.arr 2 1 (fun (i : Nat) => (AV.i (f i)))))), (5, (Blk.c (dkA false false o)))] [5, 4]) S2 ∧ Holds C P 185 D K Φ (cutAt C w_lsm b_lsm [1, 1, 1, 0] S2 (after C w_lsm b_lsm [1, 1, 1, 0] [] lf))))))))) := by kernel_rfl
theorem lsm_C4 (ea : Bool) (e3 e4 : Nat → Bool) (l : List Rw) (f : Nat → Int) (o : Dk) {D : Dom} (K : Nat) (Φ : Ex → St → Prop) :
 (Holds C P 185 D K Φ (cutAt C w_lsm b_lsm [1, 1, 1, 0] (S_lsm4 (rwsA ea e3 e4 l) f o) (after C w_lsm b_lsm [1, 1, 1, 0] [] lf))) =
 (Fun C P 20 [(rwsA ea e3 e4 l), (AV.i (12 : Int))] [] (dkA false false (madeN (toRws (rwsA ea e3 e4 l)) (Min.min 12 (List.length (toRws (rwsA ea e3 e4 l)))))) [] ∧
 ((((true = true) ∧ (true = true)) ∧ (((true = true) ∧ (true = true)) ∧ True)) ∧
 (∃ (S2 : St), Ent C 185 D K (St.mk [(0, (rwsA ea e3 e4 l)), (4, (AV.ptr 4 [])), (5, (AV.ptr 5 [])), (7, (AV.sb true)), (8, (AV.ptr 8 []))] [(4, (Blk.c (AV.arr 2 1 (fun (i : Nat) => (AV.i (f i)))))), (5, (Blk.c (dkA false false o))), (8, (Blk.c (dkA false false (madeN (toRws (rwsA ea e3 e4 l)) (Min.min 12 (List.length (toRws (rwsA ea e3 e4 l))))))))] [8, 4, 5]) S2 ∧ Holds C P 185 D K Φ (cutAt C w_lsm b_lsm [1, 1, 1, 1, 0] S2 (after C w_lsm b_lsm [1, 1, 1, 1, 0] [] lf))))) := by kernel_rfl
theorem lsm_C5 (R : AV) (f : Nat → Int) (o d : Dk) {D : Dom} (K : Nat) (Φ : Ex → St → Prop) :
 (Holds C P 185 D K Φ (cutAt C w_lsm b_lsm [1, 1, 1, 1, 0] (S_lsm5 R f o d) (after C w_lsm b_lsm [1, 1, 1, 1, 0] [] lf))) =
 ((((0 : Int) ≤ (0 : Int)) ∧ ((0 : Int) < (2 : Int))) ∧
 ((((0 : Int) ≤ (1 : Int)) ∧ ((1 : Int) < (2 : Int))) ∧
 (∃ (S2 : St), Ent C 185 D K (St.mk [(0, R), (4, (AV.ptr 4 [])), (5, (AV.ptr 5 [])), (7, (AV.sb true)), (8, (AV.ptr 8 [])), (9, (AV.sl 35 [] 0 2 2 true 1))] [(4, (Blk.c (AV.arr 2 1 (fun (i : Nat) => (AV.i (f i)))))), (5, (Blk.c (dkA false false o))), (8, (Blk.c (dkA false false d))), (35, (Blk.c (AV.st [(AV.v (Value.int IntKind.u8 (IntKind.wrap IntKind.u8 (f 0)))), (AV.v (Value.int IntKind.u8 (IntKind.wrap IntKind.u8 (f 1))))])))] [35, 4, 5, 8]) S2 ∧ Holds C P 185 D K Φ (cutAt C w_lsm b_lsm [1, 1, 1, 1, 1, 0, 0] S2 (after C w_lsm b_lsm [1, 1, 1, 1, 1, 0, 0] [] lf))))) := by kernel_rfl
theorem lsm_C6 (R : AV) (f : Nat → Int) (o d : Dk) (b : List Nat) {D : Dom} (K : Nat) (Φ : Ex → St → Prop) :
 (Holds C P 185 D K Φ (cutAt C w_lsm b_lsm [1, 1, 1, 1, 1, 0, 0] (S_lsm6 R f o d b) (after C w_lsm b_lsm [1, 1, 1, 1, 1, 0, 0] [] lf))) =
 (LoopOK C P 185 D K (bodyAt b_lsm [1, 1, 1, 1, 1, 0, 1, 0]) (St.mk [(0, R), (4, (AV.ptr 4 [])), (5, (AV.ptr 5 [])), (7, (AV.sb true)), (8, (AV.ptr 8 [])), (9, (AV.dat (List.length b) false 1 (rowL b))), (10, (AV.i (0 : Int)))] [(4, (Blk.c (AV.arr 2 1 (fun (i : Nat) => (AV.i (f i)))))), (5, (Blk.c (dkA false false o))), (8, (Blk.c (dkA false false d)))] [4, 5, 8]) (fun (e : Ex) (S' : St) => Holds C P 185 D K Φ (after C w_lsm b_lsm [1, 1, 1, 1, 1, 0, 1, 0] [] lf e S'))) := by kernel_rfl
noncomputable abbrev bd_lsm_0 : Code := bodyAt (b_lsm) [1, 1, 1, 1, 1, 0, 1, 0]
theorem ok_lsm_0 : codeOK bd_lsm_0 = true := by kernel_rfl
noncomputable abbrev rest_lsm_0 (D : Dom) (K : Nat) (Φ : Ex → St → Prop) : Ex → St → Prop := fun e S' => Holds C P 185 D K Φ (after C w_lsm (b_lsm) [1, 1, 1, 1, 1, 0, 1, 0] [] lf e S')
theorem lsm_L0 (R : AV) (f : Nat → Int) (o d : Dk) (b : List Nat) (i : Nat) {D : Dom} (K : Nat) (Φ : Ex → St → Prop) :
 (Holds C P 185 D K (RoundQ C 185 D K (I_lsm R f o d b) (fun i => i ≤ 5) (fun i => 5 - i) ((fun i => 5 - i) (i)) (rest_lsm_0 D K Φ)) (vc C w_lsm bd_lsm_0 [] ((I_lsm R f o d b) (i)) lf)) =
 (((decide (((i : Nat) : Int) < (5 : Int))) = true →
 (Fun C P 13 [(AV.v (Value.int IntKind.u8 (IntKind.wrap IntKind.u8 ((i : Nat) : Int))))] [] (AV.i (idN (Int.toNat (IntKind.wrap IntKind.u8 ((i : Nat) : Int))))) [] ∧
 (True ∧
 (((4 : Int) ≠ (0 : Int)) ∧
 (∃ (S2 : St), Ent C 185 D K (St.mk [(0, R), (4, (AV.ptr 4 [])), (5, (AV.ptr 5 [])), (7, (AV.sb true)), (8, (AV.ptr 8 [])), (9, (AV.dat (List.length b) false 1 (rowL b))), (10, (AV.i ((i : Nat) : Int))), (11, (AV.i (idN (Int.toNat (IntKind.wrap IntKind.u8 ((i : Nat) : Int)))))), (12, (AV.i (((i % 4) : Nat) : Int))), (37, (AV.v (Value.bool true)))] [(4, (Blk.c (AV.arr 2 1 (fun (i1 : Nat) => (AV.i (f i1)))))), (5, (Blk.c (dkA false false o))), (8, (Blk.c (dkA false false d)))] [4, 5, 8]) S2 ∧ Holds C P 185 D K (RoundQ C 185 D K (I_lsm R f o d b) (fun i => i ≤ 5) (fun i => 5 - i) ((fun i => 5 - i) (i)) (rest_lsm_0 D K Φ)) (cutAt C w_lsm bd_lsm_0 [1, 0, 0, 1, 0] S2 (after C w_lsm bd_lsm_0 [1, 0, 0, 1, 0] [] lf))))))) ∧
 ((decide (((i : Nat) : Int) < (5 : Int))) = false →
 (∃ (S2 : St), Ent C 185 D K (St.mk [(0, R), (4, (AV.ptr 4 [])), (5, (AV.ptr 5 [])), (7, (AV.sb true)), (8, (AV.ptr 8 [])), (9, (AV.dat (List.length b) false 1 (rowL b))), (10, (AV.i ((i : Nat) : Int))), (37, (AV.v (Value.bool false)))] [(4, (Blk.c (AV.arr 2 1 (fun (i1 : Nat) => (AV.i (f i1)))))), (5, (Blk.c (dkA false false o))), (8, (Blk.c (dkA false false d)))] [4, 5, 8]) S2 ∧ Holds C P 185 D K Φ (cutAt C w_lsm b_lsm [1, 1, 1, 1, 1, 1, 0] S2 (after C w_lsm b_lsm [1, 1, 1, 1, 1, 1, 0] [] lf))))) := by kernel_rfl
theorem lsm_C10 (R : AV) (f : Nat → Int) (o d : Dk) (b : List Nat) (i : Nat) (a : Int) (s : Nat) {D : Dom} (K : Nat) (Φ : Ex → St → Prop) :
 (Holds C P 185 D K Φ (cutAt C w_lsm bd_lsm_0 [1, 0, 0, 1, 0] (S_lsm10 R f o d b i a s) (after C w_lsm bd_lsm_0 [1, 0, 0, 1, 0] [] lf))) =
 (Fun C P 23 [(dkA false false d), (AV.i a), (AV.i ((s : Nat) : Int))] [] (AV.st [(AV.dat (List.length (gotB (cont (toDk (dkA false false d))) a ((s : Nat) : Int))) false 1 (rowL (gotB (cont (toDk (dkA false false d))) a ((s : Nat) : Int)))), (AV.i (gotE (cont (toDk (dkA false false d))) a ((s : Nat) : Int)))]) [] ∧
 (Fun C P 31 [(dkA false false d), (AV.i a), (AV.i ((s : Nat) : Int))] [] (AV.st [(AV.dat (List.length (gotB (cont (toDk (dkA false false d))) a ((s : Nat) : Int))) false 1 (rowL (gotB (cont (toDk (dkA false false d))) a ((s : Nat) : Int)))), (AV.i (gotE (cont (toDk (dkA false false d))) a ((s : Nat) : Int)))]) [] ∧
 (Fun C P 26 [(AV.st [(AV.dat (List.length (gotB (cont (toDk (dkA false false d))) a ((s : Nat) : Int))) false 1 (rowL (gotB (cont (toDk (dkA false false d))) a ((s : Nat) : Int)))), (AV.i (gotE (cont (toDk (dkA false false d))) a ((s : Nat) : Int)))]), (AV.st [(AV.dat (List.length (gotB (cont (toDk (dkA false false d))) a ((s : Nat) : Int))) false 1 (rowL (gotB (cont (toDk (dkA false false d))) a ((s : Nat) : Int)))), (AV.i (gotE (cont (toDk (dkA false false d))) a ((s : Nat) : Int)))])] [] (AV.sb ((strB (bytesL (List.length (gotB (cont (toDk (dkA false false d))) a ((s : Nat) : Int))) (rowL (gotB (cont (toDk (dkA false false d))) a ((s : Nat) : Int)))) (bytesL (List.length (gotB (cont (toDk (dkA false false d))) a ((s : Nat) : Int))) (rowL (gotB (cont (toDk (dkA false false d))) a ((s : Nat) : Int))))) && ((gotE (cont (toDk (dkA false false d))) a ((s : Nat) : Int)) == (gotE (cont (toDk (dkA false false d))) a ((s : Nat) : Int))))) [] ∧
 (True ∧
 (((! ((strB (bytesL (List.length (gotB (cont (toDk (dkA false false d))) a ((s : Nat) : Int))) (rowL (gotB (cont (toDk (dkA false false d))) a ((s : Nat) : Int)))) (bytesL (List.length (gotB (cont (toDk (dkA false false d))) a ((s : Nat) : Int))) (rowL (gotB (cont (toDk (dkA false false d))) a ((s : Nat) : Int))))) && ((gotE (cont (toDk (dkA false false d))) a ((s : Nat) : Int)) == (gotE (cont (toDk (dkA false false d))) a ((s : Nat) : Int))))) = true →
 (Φ Ex.ret (St.mk [(0, R), (4, (AV.ptr 4 [])), (5, (AV.ptr 5 [])), (6, (AV.v (Value.bool false))), (7, (AV.sb true)), (8, (AV.ptr 8 [])), (9, (AV.dat (List.length b) false 1 (rowL b))), (10, (AV.i ((i : Nat) : Int))), (11, (AV.i a)), (12, (AV.i ((s : Nat) : Int))), (78, (AV.v (Value.bool true)))] [(4, (Blk.c (AV.arr 2 1 (fun (i1 : Nat) => (AV.i (f i1)))))), (5, (Blk.c (dkA false false o))), (8, (Blk.c (dkA false false d)))] [4, 5, 8]))) ∧
 ((! ((strB (bytesL (List.length (gotB (cont (toDk (dkA false false d))) a ((s : Nat) : Int))) (rowL (gotB (cont (toDk (dkA false false d))) a ((s : Nat) : Int)))) (bytesL (List.length (gotB (cont (toDk (dkA false false d))) a ((s : Nat) : Int))) (rowL (gotB (cont (toDk (dkA false false d))) a ((s : Nat) : Int))))) && ((gotE (cont (toDk (dkA false false d))) a ((s : Nat) : Int)) == (gotE (cont (toDk (dkA false false d))) a ((s : Nat) : Int))))) = false →
 (Fun C P 12 [(dkA false false d), (AV.i a), (AV.i ((s : Nat) : Int)), (AV.dat (List.length b) false 1 (rowL b))] [] (AV.st [(dkA false false (putD (toDk (dkA false false d)) a ((s : Nat) : Int) (bytesL (List.length b) (rowL b)))), (AV.i (putE a ((s : Nat) : Int) (bytesL (List.length b) (rowL b))))]) [] ∧
 (Fun C P 32 [(dkA false false d), (AV.i a), (AV.i ((s : Nat) : Int)), (AV.dat (List.length b) false 1 (rowL b))] [] (AV.st [(dkA false false (putD (toDk (dkA false false d)) a ((s : Nat) : Int) (bytesL (List.length b) (rowL b)))), (AV.i (putE a ((s : Nat) : Int) (bytesL (List.length b) (rowL b))))]) [] ∧
 (Fun C P 21 [(AV.st [(dkA false false (putD (toDk (dkA false false d)) a ((s : Nat) : Int) (bytesL (List.length b) (rowL b)))), (AV.i (putE a ((s : Nat) : Int) (bytesL (List.length b) (rowL b))))]), (AV.st [(dkA false false (putD (toDk (dkA false false d)) a ((s : Nat) : Int) (bytesL (List.length b) (rowL b)))), (AV.i (putE a ((s : Nat) : Int) (bytesL (List.length b) (rowL b))))])] [] (AV.sb ((sameD (toDk (dkA false false (putD (toDk (dkA false false d)) a ((s : Nat) : Int) (bytesL (List.length b) (rowL b))))) (toDk (dkA false false (putD (toDk (dkA false false d)) a ((s : Nat) : Int) (bytesL (List.length b) (rowL b)))))) && ((putE a ((s : Nat) : Int) (bytesL (List.length b) (rowL b))) == (putE a ((s : Nat) : Int) (bytesL (List.length b) (rowL b)))))) [] ∧
 (True ∧
 (((! ((sameD (toDk (dkA false false (putD (toDk (dkA false false d)) a ((s : Nat) : Int) (bytesL (List.length b) (rowL b))))) (toDk (dkA false false (putD (toDk (dkA false false d)) a ((s : Nat) : Int) (bytesL (List.length b) (rowL b)))))) && ((putE a ((s : Nat) : Int) (bytesL (List.length b) (rowL b))) == (putE a ((s : Nat) : Int) (bytesL (List.length b) (rowL b)))))) = true →
 (Φ Ex.ret (St.mk [(0, R), (4, (AV.ptr 4 [])), (5, (AV.ptr 5 [])), (6, (AV.v (Value.bool false))), (7, (AV.sb true)), (8, (AV.ptr 8 [])), (9, (AV.dat (List.length b) false 1 (rowL b))), (10, (AV.i ((i : Nat) : Int))), (11, (AV.i a)), (12, (AV.i ((s : Nat) : Int))), (78, (AV.v (Value.bool true)))] [(4, (Blk.c (AV.arr 2 1 (fun (i1 : Nat) => (AV.i (f i1)))))), (5, (Blk.c (dkA false false o))), (8, (Blk.c (dkA false false d)))] [4, 5, 8]))) ∧
 ((! ((sameD (toDk (dkA false false (putD (toDk (dkA false false d)) a ((s : Nat) : Int) (bytesL (List.length b) (rowL b))))) (toDk (dkA false false (putD (toDk (dkA false false d)) a ((s : Nat) : Int) (bytesL (List.length b) (rowL b)))))) && ((putE a ((s : Nat) : Int) (bytesL (List.length b) (rowL b))) == (putE a ((s : Nat) : Int) (bytesL (List.length b) (rowL b)))))) = false →
 (Fun C P 14 [(dkA false false d), (AV.i a)] [] (dkA false false (dropD (toDk (dkA false false d)) a)) [] ∧
 (Fun C P 33 [(dkA false false d), (AV.i a)] [] (dkA false false (dropD (toDk (dkA false false d)) a)) [] ∧
 (Fun C P 22 [(dkA false false (dropD (toDk (dkA false false d)) a)), (dkA false false (dropD (toDk (dkA false false d)) a))] [] (AV.sb (sameD (toDk (dkA false false (dropD (toDk (dkA false false d)) a))) (toDk (dkA false false (dropD (toDk (dkA false false d)) a))))) [] ∧
 (True ∧
 (((! (sameD (toDk (dkA false false (dropD (toDk (dkA false false d)) a))) (toDk (dkA false false (dropD (toDk (dkA false false d)) a))))) = true →
 (Φ Ex.ret (St.mk [(0, R), (4, (AV.ptr 4 [])), (5, (AV.ptr 5 [])), (6, (AV.v (Value.bool false))), (7, (AV.sb true)), (8, (AV.ptr 8 [])), (9, (AV.dat (List.length b) false 1 (rowL b))), (10, (AV.i ((i : Nat) : Int))), (11, (AV.i a)), (12, (AV.i ((s : Nat) : Int))), (78, (AV.v (Value.bool true)))] [(4, (Blk.c (AV.arr 2 1 (fun (i1 : Nat) => (AV.i (f i1)))))), (5, (Blk.c (dkA false false o))), (8, (Blk.c (dkA false false d)))] [4, 5, 8]))) ∧
 ((! (sameD (toDk (dkA false false (dropD (toDk (dkA false false d)) a))) (toDk (dkA false false (dropD (toDk (dkA false false d)) a))))) = false →
 ((I64 (((i + 1) : Nat) : Int)) ∧
 (Φ Ex.normal (St.mk [(0, R), (4, (AV.ptr 4 [])), (5, (AV.ptr 5 [])), (7, (AV.sb true)), (8, (AV.ptr 8 [])), (9, (AV.dat (List.length b) false 1 (rowL b))), (10, (AV.i (((i + 1) : Nat) : Int))), (11, (AV.i a)), (12, (AV.i ((s : Nat) : Int))), (78, (AV.v (Value.bool false)))] [(4, (Blk.c (AV.arr 2 1 (fun (i1 : Nat) => (AV.i (f i1)))))), (5, (Blk.c (dkA false false o))), (8, (Blk.c (dkA false false d)))] [4, 5, 8]))))))))))))))))))))) := by kernel_rfl
theorem lsm_C12 (R : AV) (f : Nat → Int) (o d : Dk) (b : List Nat) {D : Dom} (K : Nat) (Φ : Ex → St → Prop) :
 (Holds C P 185 D K Φ (cutAt C w_lsm b_lsm [1, 1, 1, 1, 1, 1, 0] (S_lsm6 R f o d b) (after C w_lsm b_lsm [1, 1, 1, 1, 1, 1, 0] [] lf))) =
 ((((0 : Int) ≤ (0 : Int)) ∧ ((0 : Int) < (2 : Int))) ∧
 ((((0 : Int) ≤ (1 : Int)) ∧ ((1 : Int) < (2 : Int))) ∧
 (Fun C P 23 [(dkA false false d), (AV.i (f 0)), (AV.i (f 1))] [] (AV.st [(AV.dat (List.length (gotB (cont (toDk (dkA false false d))) (f 0) (f 1))) false 1 (rowL (gotB (cont (toDk (dkA false false d))) (f 0) (f 1)))), (AV.i (gotE (cont (toDk (dkA false false d))) (f 0) (f 1)))]) [] ∧
 ((((0 : Int) ≤ (0 : Int)) ∧ ((0 : Int) < (2 : Int))) ∧
 ((((0 : Int) ≤ (1 : Int)) ∧ ((1 : Int) < (2 : Int))) ∧
 (Fun C P 31 [(dkA false false d), (AV.i (f 0)), (AV.i (f 1))] [] (AV.st [(AV.dat (List.length (gotB (cont (toDk (dkA false false d))) (f 0) (f 1))) false 1 (rowL (gotB (cont (toDk (dkA false false d))) (f 0) (f 1)))), (AV.i (gotE (cont (toDk (dkA false false d))) (f 0) (f 1)))]) [] ∧
 (Fun C P 26 [(AV.st [(AV.dat (List.length (gotB (cont (toDk (dkA false false d))) (f 0) (f 1))) false 1 (rowL (gotB (cont (toDk (dkA false false d))) (f 0) (f 1)))), (AV.i (gotE (cont (toDk (dkA false false d))) (f 0) (f 1)))]), (AV.st [(AV.dat (List.length (gotB (cont (toDk (dkA false false d))) (f 0) (f 1))) false 1 (rowL (gotB (cont (toDk (dkA false false d))) (f 0) (f 1)))), (AV.i (gotE (cont (toDk (dkA false false d))) (f 0) (f 1)))])] [] (AV.sb ((strB (bytesL (List.length (gotB (cont (toDk (dkA false false d))) (f 0) (f 1))) (rowL (gotB (cont (toDk (dkA false false d))) (f 0) (f 1)))) (bytesL (List.length (gotB (cont (toDk (dkA false false d))) (f 0) (f 1))) (rowL (gotB (cont (toDk (dkA false false d))) (f 0) (f 1))))) && ((gotE (cont (toDk (dkA false false d))) (f 0) (f 1)) == (gotE (cont (toDk (dkA false false d))) (f 0) (f 1))))) [] ∧
 (True ∧
 ((((strB (bytesL (List.length (gotB (cont (toDk (dkA false false d))) (f 0) (f 1))) (rowL (gotB (cont (toDk (dkA false false d))) (f 0) (f 1)))) (bytesL (List.length (gotB (cont (toDk (dkA false false d))) (f 0) (f 1))) (rowL (gotB (cont (toDk (dkA false false d))) (f 0) (f 1))))) && ((gotE (cont (toDk (dkA false false d))) (f 0) (f 1)) == (gotE (cont (toDk (dkA false false d))) (f 0) (f 1)))) = true →
 ((((0 : Int) ≤ (0 : Int)) ∧ ((0 : Int) < (2 : Int))) ∧
 ((((0 : Int) ≤ (1 : Int)) ∧ ((1 : Int) < (2 : Int))) ∧
 (Fun C P 12 [(dkA false false d), (AV.i (f 0)), (AV.i (f 1)), (AV.dat (List.length b) false 1 (rowL b))] [] (AV.st [(dkA false false (putD (toDk (dkA false false d)) (f 0) (f 1) (bytesL (List.length b) (rowL b)))), (AV.i (putE (f 0) (f 1) (bytesL (List.length b) (rowL b))))]) [] ∧
 ((((0 : Int) ≤ (0 : Int)) ∧ ((0 : Int) < (2 : Int))) ∧
 ((((0 : Int) ≤ (1 : Int)) ∧ ((1 : Int) < (2 : Int))) ∧
 (Fun C P 32 [(dkA false false d), (AV.i (f 0)), (AV.i (f 1)), (AV.dat (List.length b) false 1 (rowL b))] [] (AV.st [(dkA false false (putD (toDk (dkA false false d)) (f 0) (f 1) (bytesL (List.length b) (rowL b)))), (AV.i (putE (f 0) (f 1) (bytesL (List.length b) (rowL b))))]) [] ∧
 (Fun C P 21 [(AV.st [(dkA false false (putD (toDk (dkA false false d)) (f 0) (f 1) (bytesL (List.length b) (rowL b)))), (AV.i (putE (f 0) (f 1) (bytesL (List.length b) (rowL b))))]), (AV.st [(dkA false false (putD (toDk (dkA false false d)) (f 0) (f 1) (bytesL (List.length b) (rowL b)))), (AV.i (putE (f 0) (f 1) (bytesL (List.length b) (rowL b))))])] [] (AV.sb ((sameD (toDk (dkA false false (putD (toDk (dkA false false d)) (f 0) (f 1) (bytesL (List.length b) (rowL b))))) (toDk (dkA false false (putD (toDk (dkA false false d)) (f 0) (f 1) (bytesL (List.length b) (rowL b)))))) && ((putE (f 0) (f 1) (bytesL (List.length b) (rowL b))) == (putE (f 0) (f 1) (bytesL (List.length b) (rowL b)))))) [] ∧
 (True ∧
 ((((sameD (toDk (dkA false false (putD (toDk (dkA false false d)) (f 0) (f 1) (bytesL (List.length b) (rowL b))))) (toDk (dkA false false (putD (toDk (dkA false false d)) (f 0) (f 1) (bytesL (List.length b) (rowL b)))))) && ((putE (f 0) (f 1) (bytesL (List.length b) (rowL b))) == (putE (f 0) (f 1) (bytesL (List.length b) (rowL b))))) = true →
 ((((0 : Int) ≤ (0 : Int)) ∧ ((0 : Int) < (2 : Int))) ∧
 (Fun C P 14 [(dkA false false d), (AV.i (f 0))] [] (dkA false false (dropD (toDk (dkA false false d)) (f 0))) [] ∧
 ((((0 : Int) ≤ (0 : Int)) ∧ ((0 : Int) < (2 : Int))) ∧
 (Fun C P 33 [(dkA false false d), (AV.i (f 0))] [] (dkA false false (dropD (toDk (dkA false false d)) (f 0))) [] ∧
 (Fun C P 22 [(dkA false false (dropD (toDk (dkA false false d)) (f 0))), (dkA false false (dropD (toDk (dkA false false d)) (f 0)))] [] (AV.sb (sameD (toDk (dkA false false (dropD (toDk (dkA false false d)) (f 0)))) (toDk (dkA false false (dropD (toDk (dkA false false d)) (f 0)))))) [] ∧
 (True ∧
 (((sameD (toDk (dkA false false (dropD (toDk (dkA false false d)) (f 0)))) (toDk (dkA false false (dropD (toDk (dkA false false d)) (f 0))))) = true →
 (Fun C P 16 [(dkA false false d), (AV.arr 2 1 (fun (i : Nat) => (AV.i (f i)))), (AV.v (Value.int IntKind.u8 (3 : Int)))] [] (AV.st [(dkA false false (rotD (toDk (dkA false false d)) (f 0) (f 1) 3)), (AV.i (rotE (toDk (dkA false false d)) (f 0) (f 1)))]) [] ∧
 ((((0 : Int) ≤ (0 : Int)) ∧ ((0 : Int) < (2 : Int))) ∧
 ((((0 : Int) ≤ (1 : Int)) ∧ ((1 : Int) < (2 : Int))) ∧
 (Fun C P 34 [(dkA false false d), (AV.i (f 0)), (AV.i (f 1)), (AV.v (Value.int IntKind.u8 (3 : Int)))] [] (AV.st [(dkA false false (rotD (toDk (dkA false false d)) (f 0) (f 1) 3)), (AV.i (rotE (toDk (dkA false false d)) (f 0) (f 1)))]) [] ∧
 (Fun C P 21 [(AV.st [(dkA false false (rotD (toDk (dkA false false d)) (f 0) (f 1) 3)), (AV.i (rotE (toDk (dkA false false d)) (f 0) (f 1)))]), (AV.st [(dkA false false (rotD (toDk (dkA false false d)) (f 0) (f 1) 3)), (AV.i (rotE (toDk (dkA false false d)) (f 0) (f 1)))])] [] (AV.sb ((sameD (toDk (dkA false false (rotD (toDk (dkA false false d)) (f 0) (f 1) 3))) (toDk (dkA false false (rotD (toDk (dkA false false d)) (f 0) (f 1) 3)))) && ((rotE (toDk (dkA false false d)) (f 0) (f 1)) == (rotE (toDk (dkA false false d)) (f 0) (f 1))))) [] ∧
 (True ∧
 (∃ (S2 : St), Ent C 185 D K (St.mk [(0, R), (4, (AV.ptr 4 [])), (5, (AV.ptr 5 [])), (7, (AV.sb true)), (8, (AV.ptr 8 [])), (9, (AV.dat (List.length b) false 1 (rowL b))), (13, (AV.sb ((sameD (toDk (dkA false false (rotD (toDk (dkA false false d)) (f 0) (f 1) 3))) (toDk (dkA false false (rotD (toDk (dkA false false d)) (f 0) (f 1) 3)))) && ((rotE (toDk (dkA false false d)) (f 0) (f 1)) == (rotE (toDk (dkA false false d)) (f 0) (f 1))))))] [(4, (Blk.c (AV.arr 2 1 (fun (i : Nat) => (AV.i (f i)))))), (5, (Blk.c (dkA false false o))), (8, (Blk.c (dkA false false d)))] [4, 5, 8]) S2 ∧ Holds C P 185 D K Φ (cutAt C w_lsm b_lsm [1, 1, 1, 1, 1, 1, 1, 0] S2 (after C w_lsm b_lsm [1, 1, 1, 1, 1, 1, 1, 0] [] lf)))))))))) ∧
 ((sameD (toDk (dkA false false (dropD (toDk (dkA false false d)) (f 0)))) (toDk (dkA false false (dropD (toDk (dkA false false d)) (f 0))))) = false →
 (∃ (S2 : St), Ent C 185 D K (St.mk [(0, R), (4, (AV.ptr 4 [])), (5, (AV.ptr 5 [])), (7, (AV.sb true)), (8, (AV.ptr 8 [])), (9, (AV.dat (List.length b) false 1 (rowL b))), (13, (AV.v (Value.bool false)))] [(4, (Blk.c (AV.arr 2 1 (fun (i : Nat) => (AV.i (f i)))))), (5, (Blk.c (dkA false false o))), (8, (Blk.c (dkA false false d)))] [4, 5, 8]) S2 ∧ Holds C P 185 D K Φ (cutAt C w_lsm b_lsm [1, 1, 1, 1, 1, 1, 1, 0] S2 (after C w_lsm b_lsm [1, 1, 1, 1, 1, 1, 1, 0] [] lf)))))))))))) ∧
 (((sameD (toDk (dkA false false (putD (toDk (dkA false false d)) (f 0) (f 1) (bytesL (List.length b) (rowL b))))) (toDk (dkA false false (putD (toDk (dkA false false d)) (f 0) (f 1) (bytesL (List.length b) (rowL b)))))) && ((putE (f 0) (f 1) (bytesL (List.length b) (rowL b))) == (putE (f 0) (f 1) (bytesL (List.length b) (rowL b))))) = false →
 (∃ (S2 : St), Ent C 185 D K (St.mk [(0, R), (4, (AV.ptr 4 [])), (5, (AV.ptr 5 [])), (7, (AV.sb true)), (8, (AV.ptr 8 [])), (9, (AV.dat (List.length b) false 1 (rowL b))), (13, (AV.v (Value.bool false)))] [(4, (Blk.c (AV.arr 2 1 (fun (i : Nat) => (AV.i (f i)))))), (5, (Blk.c (dkA false false o))), (8, (Blk.c (dkA false false d)))] [4, 5, 8]) S2 ∧ Holds C P 185 D K Φ (cutAt C w_lsm b_lsm [1, 1, 1, 1, 1, 1, 1, 0] S2 (after C w_lsm b_lsm [1, 1, 1, 1, 1, 1, 1, 0] [] lf)))))))))))))) ∧
 (((strB (bytesL (List.length (gotB (cont (toDk (dkA false false d))) (f 0) (f 1))) (rowL (gotB (cont (toDk (dkA false false d))) (f 0) (f 1)))) (bytesL (List.length (gotB (cont (toDk (dkA false false d))) (f 0) (f 1))) (rowL (gotB (cont (toDk (dkA false false d))) (f 0) (f 1))))) && ((gotE (cont (toDk (dkA false false d))) (f 0) (f 1)) == (gotE (cont (toDk (dkA false false d))) (f 0) (f 1)))) = false →
 (∃ (S2 : St), Ent C 185 D K (St.mk [(0, R), (4, (AV.ptr 4 [])), (5, (AV.ptr 5 [])), (7, (AV.sb true)), (8, (AV.ptr 8 [])), (9, (AV.dat (List.length b) false 1 (rowL b))), (13, (AV.v (Value.bool false)))] [(4, (Blk.c (AV.arr 2 1 (fun (i : Nat) => (AV.i (f i)))))), (5, (Blk.c (dkA false false o))), (8, (Blk.c (dkA false false d)))] [4, 5, 8]) S2 ∧ Holds C P 185 D K Φ (cutAt C w_lsm b_lsm [1, 1, 1, 1, 1, 1, 1, 0] S2 (after C w_lsm b_lsm [1, 1, 1, 1, 1, 1, 1, 0] [] lf))))))))))))) := by kernel_rfl
theorem lsm_C13 (R : AV) (o d : Dk) {D : Dom} (K : Nat) (Φ : Ex → St → Prop) :
 (Holds C P 185 D K Φ (cutAt C w_lsm b_lsm [1, 1, 1, 1, 1, 1, 1, 0] (S_lsm13 R o d) (after C w_lsm b_lsm [1, 1, 1, 1, 1, 1, 1, 0] [] lf))) =
 (∃ (S2 : St), Ent C 185 D K (St.mk [(0, R), (5, (AV.ptr 5 [])), (7, (AV.sb true)), (8, (AV.ptr 8 [])), (13, (AV.sb true)), (14, (AV.sl 132 [] 0 0 0 true 1))] [(5, (Blk.c (dkA false false o))), (8, (Blk.c (dkA false false d))), (132, (Blk.c (AV.st [])))] [132, 5, 8]) S2 ∧ Holds C P 185 D K Φ (cutAt C w_lsm b_lsm [1, 1, 1, 1, 1, 1, 1, 1, 0, 0] S2 (after C w_lsm b_lsm [1, 1, 1, 1, 1, 1, 1, 1, 0, 0] [] lf))) := by kernel_rfl
theorem lsm_C14 (ea : Bool) (e3 e4 : Nat → Bool) (l : List Rw) (o d : Dk) {D : Dom} (K : Nat) (Φ : Ex → St → Prop) :
 (Holds C P 185 D K Φ (cutAt C w_lsm b_lsm [1, 1, 1, 1, 1, 1, 1, 1, 0, 0] (S_lsm14 (rwsA ea e3 e4 l) o d) (after C w_lsm b_lsm [1, 1, 1, 1, 1, 1, 1, 1, 0, 0] [] lf))) =
 (((decide ((((List.length l) : Nat) : Int) > (0 : Int))) = true →
 ((((0 : Int) ≤ (0 : Int)) ∧ ((0 : Int) < (((List.length l) : Nat) : Int))) ∧
 (∃ (S2 : St), Ent C 185 D K (St.mk [(0, (rwsA ea e3 e4 l)), (5, (AV.ptr 5 [])), (7, (AV.sb true)), (8, (AV.ptr 8 [])), (13, (AV.sb true)), (14, (bA (e4 0) (Rw.dn (rwAt l 0)))), (135, (AV.v (Value.bool true)))] [(5, (Blk.c (dkA false false o))), (8, (Blk.c (dkA false false d)))] [5, 8]) S2 ∧ Holds C P 185 D K Φ (cutAt C w_lsm b_lsm [1, 1, 1, 1, 1, 1, 1, 1, 1, 0] S2 (after C w_lsm b_lsm [1, 1, 1, 1, 1, 1, 1, 1, 1, 0] [] lf))))) ∧
 ((decide ((((List.length l) : Nat) : Int) > (0 : Int))) = false →
 (∃ (S2 : St), Ent C 185 D K (St.mk [(0, (rwsA ea e3 e4 l)), (5, (AV.ptr 5 [])), (7, (AV.sb true)), (8, (AV.ptr 8 [])), (13, (AV.sb true)), (14, (AV.dat 0 false 1 (fun (i : Nat) => (AV.sb (List.getD ([] : List Bool) i false))))), (135, (AV.v (Value.bool false)))] [(5, (Blk.c (dkA false false o))), (8, (Blk.c (dkA false false d)))] [5, 8]) S2 ∧ Holds C P 185 D K Φ (cutAt C w_lsm b_lsm [1, 1, 1, 1, 1, 1, 1, 1, 1, 0] S2 (after C w_lsm b_lsm [1, 1, 1, 1, 1, 1, 1, 1, 1, 0] [] lf))))) := by kernel_rfl
theorem lsm_C16 (o d : Dk) (ez : Bool) (dn : List Bool) {D : Dom} (K : Nat) (Φ : Ex → St → Prop) :
 (Holds C P 185 D K Φ (cutAt C w_lsm b_lsm [1, 1, 1, 1, 1, 1, 1, 1, 1, 0] (S_lsm16 o d ez dn) (after C w_lsm b_lsm [1, 1, 1, 1, 1, 1, 1, 1, 1, 0] [] lf))) =
 ((true = true →
 (Fun C P 15 [(dkA false false d)] [] (AV.st [(csA false (Dk.l (syncD (toDk (dkA false false d))))), (jsA false ([] : List Jb))]) [] ∧
 (Fun C P 28 [(dkA false false d)] [] (AV.st [(csA false (Dk.l (syncD (toDk (dkA false false d))))), (jsA false ([] : List Jb))]) [] ∧
 (Fun C P 22 [(AV.st [(csA false (Dk.l (syncD (toDk (dkA false false d))))), (jsA false ([] : List Jb))]), (AV.st [(csA false (Dk.l (syncD (toDk (dkA false false d))))), (jsA false ([] : List Jb))])] [] (AV.sb (sameD (toDk (AV.st [(csA false (Dk.l (syncD (toDk (dkA false false d))))), (jsA false ([] : List Jb))])) (toDk (AV.st [(csA false (Dk.l (syncD (toDk (dkA false false d))))), (jsA false ([] : List Jb))])))) [] ∧
 (True ∧
 (((sameD (toDk (AV.st [(csA false (Dk.l (syncD (toDk (dkA false false d))))), (jsA false ([] : List Jb))])) (toDk (AV.st [(csA false (Dk.l (syncD (toDk (dkA false false d))))), (jsA false ([] : List Jb))]))) = true →
 (Fun C P 17 [(dkA false false d), (bA ez dn)] [] (AV.st [(csA false (Dk.l (crashD (toDk (dkA false false d)) (bLs (bA ez dn))))), (jsA false ([] : List Jb))]) [] ∧
 (Fun C P 35 [(dkA false false d), (bA ez dn)] [] (AV.st [(csA false (Dk.l (crashD (toDk (dkA false false d)) (bLs (bA ez dn))))), (jsA false ([] : List Jb))]) [] ∧
 (Fun C P 22 [(AV.st [(csA false (Dk.l (crashD (toDk (dkA false false d)) (bLs (bA ez dn))))), (jsA false ([] : List Jb))]), (AV.st [(csA false (Dk.l (crashD (toDk (dkA false false d)) (bLs (bA ez dn))))), (jsA false ([] : List Jb))])] [] (AV.sb (sameD (toDk (AV.st [(csA false (Dk.l (crashD (toDk (dkA false false d)) (bLs (bA ez dn))))), (jsA false ([] : List Jb))])) (toDk (AV.st [(csA false (Dk.l (crashD (toDk (dkA false false d)) (bLs (bA ez dn))))), (jsA false ([] : List Jb))])))) [] ∧
 (True ∧
 (((sameD (toDk (AV.st [(csA false (Dk.l (crashD (toDk (dkA false false d)) (bLs (bA ez dn))))), (jsA false ([] : List Jb))])) (toDk (AV.st [(csA false (Dk.l (crashD (toDk (dkA false false d)) (bLs (bA ez dn))))), (jsA false ([] : List Jb))]))) = true →
 (Fun C P 30 [(dkA false false d)] [] (csA false (badL (cont (toDk (dkA false false d))))) [] ∧
 (Fun C P 37 [(dkA false false d)] [] (csA false (badL (cont (toDk (dkA false false d))))) [] ∧
 (Fun C P 36 [(csA false (badL (cont (toDk (dkA false false d))))), (csA false (badL (cont (toDk (dkA false false d)))))] [] (AV.sb (sameCs (toCls (csA false (badL (cont (toDk (dkA false false d)))))) (toCls (csA false (badL (cont (toDk (dkA false false d)))))))) [] ∧
 (True ∧
 (((sameCs (toCls (csA false (badL (cont (toDk (dkA false false d)))))) (toCls (csA false (badL (cont (toDk (dkA false false d))))))) = true →
 (Fun C P 25 [(dkA false false d)] [] (AV.dat (List.length (cont (toDk (dkA false false d)))) false 2 (fun (i : Nat) => (AV.arr 2 1 (fun (k : Nat) => (AV.i (num2 (clAt (cont (toDk (dkA false false d))) i) k)))))) [] ∧
 (Fun C P 38 [(dkA false false d)] [] (AV.dat (List.length (cont (toDk (dkA false false d)))) false 2 (fun (i : Nat) => (AV.arr 2 1 (fun (k : Nat) => (AV.i (num2 (clAt (cont (toDk (dkA false false d))) i) k)))))) [] ∧
 (Fun C P 24 [(AV.dat (List.length (cont (toDk (dkA false false d)))) false 2 (fun (i : Nat) => (AV.arr 2 1 (fun (k : Nat) => (AV.i (num2 (clAt (cont (toDk (dkA false false d))) i) k)))))), (AV.dat (List.length (cont (toDk (dkA false false d)))) false 2 (fun (i : Nat) => (AV.arr 2 1 (fun (k : Nat) => (AV.i (num2 (clAt (cont (toDk (dkA false false d))) i) k))))))] [] (AV.sb true) [] ∧
 (True ∧
 ((true = true →
 (Fun C P 19 [(dkA false false d)] [] (AV.sb (vldB (toDk (dkA false false d)))) [] ∧
 (True ∧
 (((vldB (toDk (dkA false false d))) = true →
 (Fun C P 19 [(dkA false false o)] [] (AV.sb (vldB (toDk (dkA false false o)))) [] ∧
 (True ∧
 (Fun C P 18 [(dkA false false o)] [] (AV.sb (vldB (toDk (dkA false false o)))) [] ∧
 (True ∧
 ((((vldB (toDk (dkA false false o))) == (vldB (toDk (dkA false false o)))) = true →
 (Φ Ex.ret (St.mk [(5, (AV.ptr 5 [])), (6, (AV.sb true)), (7, (AV.sb true)), (8, (AV.ptr 8 [])), (13, (AV.sb true)), (14, (bA ez dn))] [(5, (Blk.c (dkA false false o))), (8, (Blk.c (dkA false false d)))] [5, 8]))) ∧
 (((vldB (toDk (dkA false false o))) == (vldB (toDk (dkA false false o)))) = false →
 (Φ Ex.ret (St.mk [(5, (AV.ptr 5 [])), (6, (AV.v (Value.bool false))), (7, (AV.sb true)), (8, (AV.ptr 8 [])), (13, (AV.sb true)), (14, (bA ez dn))] [(5, (Blk.c (dkA false false o))), (8, (Blk.c (dkA false false d)))] [5, 8]))))))))) ∧
 ((vldB (toDk (dkA false false d))) = false →
 (Φ Ex.ret (St.mk [(5, (AV.ptr 5 [])), (6, (AV.v (Value.bool false))), (7, (AV.sb true)), (8, (AV.ptr 8 [])), (13, (AV.sb true)), (14, (bA ez dn))] [(5, (Blk.c (dkA false false o))), (8, (Blk.c (dkA false false d)))] [5, 8]))))))) ∧
 (true = false →
 (Φ Ex.ret (St.mk [(5, (AV.ptr 5 [])), (6, (AV.v (Value.bool false))), (7, (AV.sb true)), (8, (AV.ptr 8 [])), (13, (AV.sb true)), (14, (bA ez dn))] [(5, (Blk.c (dkA false false o))), (8, (Blk.c (dkA false false d)))] [5, 8]))))))))) ∧
 ((sameCs (toCls (csA false (badL (cont (toDk (dkA false false d)))))) (toCls (csA false (badL (cont (toDk (dkA false false d))))))) = false →
 (Φ Ex.ret (St.mk [(5, (AV.ptr 5 [])), (6, (AV.v (Value.bool false))), (7, (AV.sb true)), (8, (AV.ptr 8 [])), (13, (AV.sb true)), (14, (bA ez dn))] [(5, (Blk.c (dkA false false o))), (8, (Blk.c (dkA false false d)))] [5, 8]))))))))) ∧
 ((sameD (toDk (AV.st [(csA false (Dk.l (crashD (toDk (dkA false false d)) (bLs (bA ez dn))))), (jsA false ([] : List Jb))])) (toDk (AV.st [(csA false (Dk.l (crashD (toDk (dkA false false d)) (bLs (bA ez dn))))), (jsA false ([] : List Jb))]))) = false →
 (Φ Ex.ret (St.mk [(5, (AV.ptr 5 [])), (6, (AV.v (Value.bool false))), (7, (AV.sb true)), (8, (AV.ptr 8 [])), (13, (AV.sb true)), (14, (bA ez dn))] [(5, (Blk.c (dkA false false o))), (8, (Blk.c (dkA false false d)))] [5, 8]))))))))) ∧
 ((sameD (toDk (AV.st [(csA false (Dk.l (syncD (toDk (dkA false false d))))), (jsA false ([] : List Jb))])) (toDk (AV.st [(csA false (Dk.l (syncD (toDk (dkA false false d))))), (jsA false ([] : List Jb))]))) = false →
 (Φ Ex.ret (St.mk [(5, (AV.ptr 5 [])), (6, (AV.v (Value.bool false))), (7, (AV.sb true)), (8, (AV.ptr 8 [])), (13, (AV.sb true)), (14, (bA ez dn))] [(5, (Blk.c (dkA false false o))), (8, (Blk.c (dkA false false d)))] [5, 8]))))))))) ∧
 (true = false →
 (Φ Ex.ret (St.mk [(5, (AV.ptr 5 [])), (6, (AV.v (Value.bool false))), (7, (AV.sb true)), (8, (AV.ptr 8 [])), (13, (AV.sb true)), (14, (bA ez dn))] [(5, (Blk.c (dkA false false o))), (8, (Blk.c (dkA false false d)))] [5, 8])))) := by kernel_rfl
theorem wrap8z (z : Int) : IntKind.wrap .u8 z = z % 256 := by simp [IntKind.wrap, IntKind.bits, IntKind.signed]
theorem wrap8 (z : Int) : (((IntKind.wrap .u8 z).toNat : Nat) : Int) = IntKind.wrap .u8 z := by rw [wrap8z]; omega
theorem put_len (d : Dk) (i s : Int) (b : List Nat) : (putD d i s b).l.length + (putD d i s b).q.length ≤ d.l.length + d.q.length + 1 := by
 have hp : ∀ j, (pushD d j).l.length + (pushD d j).q.length ≤ d.l.length + d.q.length + 1 := fun j => by
  show d.l.length + (d.q ++ [j]).length ≤ _
  rw [List.length_append]; exact Nat.le_refl _
 unfold putD
 split
 ·split
  ·omega
  ·exact hp _
 ·omega
theorem drop_len (d : Dk) (i : Int) : (dropD d i).l.length + (dropD d i).q.length ≤ d.l.length + d.q.length + 1 := by
 unfold dropD
 split
 ·show d.l.length + (d.q ++ [_]).length ≤ _
  rw [List.length_append]; exact Nat.le_refl _
 ·omega
theorem rot_len (d : Dk) (c k : Int) (y : Nat) : (rotD d c k y).l.length + (rotD d c k y).q.length = d.l.length + d.q.length := by
 unfold rotD
 split
 ·show (d.l.set _ _).length + _ = _
  rw [List.length_set]
 ·rfl
theorem toDk_S (l : List Cl) : toDk (AV.st [csA false l, jsA false []]) = ⟨l, []⟩ := toDk_A false false ⟨l, []⟩
theorem wrote_same (d : Dk) (e : Int) : (sameD d d && (e == e)) = true := by rw [sameD_refl, beq_self_eq_true]; rfl
theorem lsm_fun (ea : Bool) (e3 e4 : Nat → Bool) (l : List Rw) (hx : ∀ x, x ∈ l → OkRw x) (f : Nat → Int) (o : Dk) (ho : ∀ j, j ∈ o.q → Small j.c.b) : Fun C P F_lsm [rwsA ea e3 e4 l, n2 f, dkA false false o] [] (.sb true) [] := by
 refine in_lsm (W := w_lsm) rfl 0 (by simp) rfl (fun id h => absurd rfl h) fun D => ?_
 rw [lsm_A ea e3 e4 l f o 0 _]
 refine ⟨sanity_fun, trivial, fun _ => post_tmp rfl (sm_same rfl), fun h1 => ⟨fun _ => post_tmp rfl (sm_same rfl), fun h2 => ?_⟩⟩
 simp only [gt_iff_lt, decide_eq_false_iff_not] at h1 h2
 refine cut_ok (S2 := S_lsm4 (rwsA ea e3 e4 l) f o) (ent_of [(4, 4), (5, 5)] rfl (tm_cons rfl (sm_same rfl) (tm_cons rfl (sm_ptr rfl) (tm_cons rfl (sm_ptr rfl) (tm_cons rfl (sm_same rfl) tm_nil)))) (hp_cons rfl rfl (sm_same rfl) (hp_cons rfl rfl (sm_same rfl) hp_nil))) ?_
 rw [lsm_C4 ea e3 e4 l f o 0 _, toRws_A]
 have hm := made_fun ea e3 e4 l 12 hx (by decide)
 obtain ⟨hv, few⟩ := made_ok hx 12
 have hlen := few.len
 obtain ⟨d, ed⟩ : ∃ d, d = madeN l (min 12 l.length) := ⟨_, rfl⟩
 rw [← ed] at hm hv hlen ⊢
 clear few ed
 refine ⟨hm, TD2, cut_ok (S2 := S_lsm5 (rwsA ea e3 e4 l) f o d) (ent_of [(4, 4), (5, 5), (8, 8)] rfl (tm_cons rfl (sm_same rfl) (tm_cons rfl (sm_ptr rfl) (tm_cons rfl (sm_ptr rfl) (tm_cons rfl (sm_same rfl) (tm_cons rfl (sm_ptr rfl) tm_nil))))) (hp_cons rfl rfl (sm_same rfl) (hp_cons rfl rfl (sm_same rfl) (hp_cons rfl rfl (sm_same rfl) hp_nil)))) ?_⟩
 rw [lsm_C5 _ f o d 0 _]
 obtain ⟨b, eb⟩ : ∃ b : List Nat, b = [(IntKind.wrap .u8 (f 0)).toNat, (IntKind.wrap .u8 (f 1)).toNat] := ⟨_, rfl⟩
 have lb : b.length = 2 := by rw [eb]; rfl
 have hb : Small b := fun x hx => by
  rw [eb] at hx
  have a0 := wrap8z (f 0)
  have a1 := wrap8z (f 1)
  simp at hx
  omega
 refine ⟨⟨by decide, by decide⟩, ⟨by decide, by decide⟩, cut_ok (S2 := S_lsm6 (rwsA ea e3 e4 l) f o d b) ((ent_freeze _ [35]).trans (ent_of [(4, 4), (5, 5), (8, 8)] rfl (tm_cons rfl (sm_same rfl) (tm_cons rfl (sm_ptr rfl) (tm_cons rfl (sm_ptr rfl) (tm_cons rfl (sm_same rfl) (tm_cons rfl (sm_ptr rfl) (tm_cons rfl (sm_dat' lb.symm (by simp) fun i hi => (by
  rw [eb]
  match i, hi with
  | 0, _ => exact (congrArg (fun z => AV.v (Value.int .u8 z)) (wrap8 (f 0))).symm
  | 1, _ => exact (congrArg (fun z => AV.v (Value.int .u8 z)) (wrap8 (f 1))).symm)) tm_nil)))))) (hp_cons rfl rfl (sm_same rfl) (hp_cons rfl rfl (sm_same rfl) (hp_cons rfl rfl (sm_same rfl) hp_nil))))) ?_⟩
 rw [lsm_C6 _ f o d b 0 _]
 refine loop_inv (W := w_lsm) ctx mixed ok_lsm_0 (I_lsm (rwsA ea e3 e4 l) f o d b) (fun k => k ≤ 5) (fun k => 5 - k) 0 (Nat.zero_le _) ?_ fun i hi => ?_
 ·exact ent_of [(4, 4), (5, 5), (8, 8)] rfl (tm_cons rfl (sm_same rfl) (tm_cons rfl (sm_ptr rfl) (tm_cons rfl (sm_ptr rfl) (tm_cons rfl (sm_same rfl) (tm_cons rfl (sm_ptr rfl) (tm_cons rfl (sm_same rfl) (tm_cons rfl (sm_same rfl) tm_nil))))))) (hp_cons rfl rfl (sm_same rfl) (hp_cons rfl rfl (sm_same rfl) (hp_cons rfl rfl (sm_same rfl) hp_nil)))
 refine of_eq (lsm_L0 _ f o d b i 0 _) ⟨fun h => ?_, fun h => ?_⟩
 ·simp only [decide_eq_true_eq] at h
  have hw : IntKind.wrap IntKind.u8 ((i : Nat) : Int) = ((i : Nat) : Int) := wr_u8 (by omega)
  rw [hw, Int.toNat_natCast]
  refine ⟨rid_fun i (by omega), trivial, by decide, cut_ok (S2 := S_lsm10 (rwsA ea e3 e4 l) f o d b i (idN i) (i % 4)) (ent_of [(4, 4), (5, 5), (8, 8)] rfl (tm_cons rfl (sm_same rfl) (tm_cons rfl (sm_ptr rfl) (tm_cons rfl (sm_ptr rfl) (tm_cons rfl (sm_same rfl) (tm_cons rfl (sm_ptr rfl) (tm_cons rfl (sm_same rfl) (tm_cons rfl (sm_same rfl) (tm_cons rfl (sm_same rfl) (tm_cons rfl (sm_same rfl) tm_nil))))))))) (hp_cons rfl rfl (sm_same rfl) (hp_cons rfl rfl (sm_same rfl) (hp_cons rfl rfl (sm_same rfl) hp_nil)))) ?_⟩
  have hvp := hv.put (idN i) ((i % 4 : Nat) : Int) hb
  have hvd := hv.drop (idN i)
  have lp := put_len d (idN i) ((i % 4 : Nat) : Int) b
  have ld := drop_len d (idN i)
  rw [lsm_C10 _ f o d b i (idN i) (i % 4) 0 _]
  simp only [toDk_A, bytesL_row]
  exact ⟨lget_fun false false d hv _ _ (by omega), rget_fun false false d hv _ _ (by omega), sgot_fun _ _ _ _ (hv.gotB _ _) (hv.gotB _ _), trivial, nf_then (got_same _ _) ⟨lput_fun false false d _ _ false b hb (by omega) (by omega), rput_fun false false d _ _ false b hb (by omega) (by omega), swrote_fun false false false false _ _ _ _ hvp.smD hvp.smD (by omega), trivial, nf_then (wrote_same _ _) ⟨drop_fun false false d _ (by omega), rdrop_fun false false d _ (by omega), rsame_fun false false false false _ _ hvd.smD hvd.smD (by omega), trivial, nf_then (sameD_refl _) ⟨⟨by omega, by omega⟩, round_end (i + 1) (by omega) (ent_of [(4, 4), (5, 5), (8, 8)] rfl (tm_cons rfl (sm_same rfl) (tm_cons rfl (sm_ptr rfl) (tm_cons rfl (sm_ptr rfl) (tm_cons rfl (sm_same rfl) (tm_cons rfl (sm_ptr rfl) (tm_cons rfl (sm_same rfl) (tm_cons rfl (sm_same rfl) tm_nil))))))) (hp_cons rfl rfl (sm_same rfl) (hp_cons rfl rfl (sm_same rfl) (hp_cons rfl rfl (sm_same rfl) hp_nil)))) (by omega)⟩⟩⟩⟩
 ·refine cut_ok (S2 := S_lsm6 (rwsA ea e3 e4 l) f o d b) (ent_of [(4, 4), (5, 5), (8, 8)] rfl (tm_cons rfl (sm_same rfl) (tm_cons rfl (sm_ptr rfl) (tm_cons rfl (sm_ptr rfl) (tm_cons rfl (sm_same rfl) (tm_cons rfl (sm_ptr rfl) (tm_cons rfl (sm_same rfl) tm_nil)))))) (hp_cons rfl rfl (sm_same rfl) (hp_cons rfl rfl (sm_same rfl) (hp_cons rfl rfl (sm_same rfl) hp_nil)))) ?_
  have hvp := hv.put (f 0) (f 1) hb
  have hvd := hv.drop (f 0)
  have hvr := hv.rot (f 0) (f 1) 3
  have lp := put_len d (f 0) (f 1) b
  have ld := drop_len d (f 0)
  have lr := rot_len d (f 0) (f 1) 3
  have B0 : ((0 : Int) ≤ (0 : Int)) ∧ ((0 : Int) < (2 : Int)) := ⟨by decide, by decide⟩
  have B1 : ((0 : Int) ≤ (1 : Int)) ∧ ((1 : Int) < (2 : Int)) := ⟨by decide, by decide⟩
  have hbl : ∀ e, e ∈ d.l → e.b.length < 2 ^ 40 := fun e he => by have := (hv.cs e he).2.2.2.2.1; omega
  rw [lsm_C12 _ f o d b 0 _]
  simp only [toDk_A, bytesL_row]
  refine ⟨B0, B1, lget_fun false false d hv _ _ (by omega), B0, B1, rget_fun false false d hv _ _ (by omega), sgot_fun _ _ _ _ (hv.gotB _ _) (hv.gotB _ _), trivial, tt_then (got_same _ _) ⟨B0, B1, lput_fun false false d _ _ false b hb (by omega) (by omega), B0, B1, rput_fun false false d _ _ false b hb (by omega) (by omega), swrote_fun false false false false _ _ _ _ hvp.smD hvp.smD (by omega), trivial, tt_then (wrote_same _ _) ⟨B0, drop_fun false false d _ (by omega), B0, rdrop_fun false false d _ (by omega), rsame_fun false false false false _ _ hvd.smD hvd.smD (by omega), trivial, tt_then (sameD_refl _) ⟨lrot_fun false false d f 3 (by omega) hbl, B0, B1, rrotG_fun false false d _ _ 3 (by omega) hbl, swrote_fun false false false false _ _ _ _ hvr.smD hvr.smD (by omega), trivial, ?_⟩⟩⟩⟩
  rw [wrote_same]
  refine cut_ok (S2 := S_lsm13 (rwsA ea e3 e4 l) o d) (ent_of [(5, 5), (8, 8)] rfl (tm_cons rfl (sm_same rfl) (tm_cons rfl (sm_ptr rfl) (tm_cons rfl (sm_same rfl) (tm_cons rfl (sm_ptr rfl) (tm_cons rfl (sm_same rfl) tm_nil))))) (hp_cons rfl rfl (sm_same rfl) (hp_cons rfl rfl (sm_same rfl) hp_nil))) ?_
  rw [lsm_C13 _ o d 0 _]
  refine cut_ok (S2 := S_lsm14 (rwsA ea e3 e4 l) o d) ((ent_freeze _ [132]).trans (ent_of [(5, 5), (8, 8)] rfl (tm_cons rfl (sm_same rfl) (tm_cons rfl (sm_ptr rfl) (tm_cons rfl (sm_same rfl) (tm_cons rfl (sm_ptr rfl) (tm_cons rfl (sm_same rfl) (tm_cons rfl (sm_dat' rfl (by simp) fun i hi => absurd hi (Nat.not_lt_zero i)) tm_nil)))))) (hp_cons rfl rfl (sm_same rfl) (hp_cons rfl rfl (sm_same rfl) hp_nil)))) ?_
  have last : ∀ (ez : Bool) (dn : List Bool), Holds C P 185 D 0 (FunPost C 185 0 [.tmp 6] (.sb true) []) (cutAt C w_lsm b_lsm [1, 1, 1, 1, 1, 1, 1, 1, 1, 0] (S_lsm16 o d ez dn) (after C w_lsm b_lsm [1, 1, 1, 1, 1, 1, 1, 1, 1, 0] [] lf)) := fun ez dn => by
   have hvs := hv.sync
   have hvc := hv.crash dn
   have ls : (syncD d).l.length ≤ 12 := by have := cont_len hv.so; show (cont d).length ≤ 12; omega
   have lc : (crashD d dn).l.length ≤ 12 := by have := prN_len (f := fun i => dn.getD i false) hv.so d.q d.q.length; show (prN _ d.l d.q d.q.length).length ≤ 12; omega
   have so : SmV o := ⟨by omega, by omega, ho⟩
   have hbd : SmCs (badL (cont d)) := fun c hc => (hv.smc (List.mem_filter.1 hc).1).1
   have lbd : (badL (cont d)).length ≤ 12 := Nat.le_trans (List.length_filter_le _ _) ls
   rw [lsm_C16 o d ez dn 0 _]
   rw [toDk_A false false d, toDk_A false false o, bLs_A, toCls_A, toDk_S, toDk_S]
   exact tt_then rfl ⟨sync_fun false false d hv.so (by omega), rsync_fun false false d hv.so (by omega), rsame_fun false false false false ⟨(syncD d).l, []⟩ ⟨(syncD d).l, []⟩ hvs.smD hvs.smD (by show (syncD d).l.length + 0 < _; omega), trivial, tt_then (sameD_refl _) ⟨crash_fun false false d ez dn hv.so (by omega), rcrash_fun false false d ez dn hv.so (by omega), rsame_fun false false false false ⟨(crashD d dn).l, []⟩ ⟨(crashD d dn).l, []⟩ hvc.smD hvc.smD (by show (crashD d dn).l.length + 0 < _; omega), trivial, tt_then (sameD_refl _) ⟨bad_fun false false d hv (by omega), rbad_fun false false d hv (by omega), rscells_fun false false _ _ hbd hbd (by omega), trivial, tt_then (sameCs_refl _) ⟨list_fun false false d hv (by omega), rlist_fun false false d hv (by omega), rslist_fun false false _ (by show (syncD d).l.length < _; omega), trivial, tt_then rfl ⟨valid_fun false false d (hv.smV (by omega)), trivial, tt_then hv.vld ⟨valid_fun false false o so, trivial, rvalid_fun false false o so, trivial, tt_then (by rw [beq_self_eq_true]) (post_tmp rfl (sm_same rfl))⟩⟩⟩⟩⟩⟩
  rw [lsm_C14 ea e3 e4 l o d 0 _]
  refine ⟨fun h0 => ⟨⟨by decide, by simpa using h0⟩, cut_ok (S2 := S_lsm16 o d (e4 0) (rwAt l 0).dn) (ent_of [(5, 5), (8, 8)] rfl (tm_cons rfl (sm_ptr rfl) (tm_cons rfl (sm_same rfl) (tm_cons rfl (sm_ptr rfl) (tm_cons rfl (sm_same rfl) (tm_cons rfl (sm_same rfl) tm_nil))))) (hp_cons rfl rfl (sm_same rfl) (hp_cons rfl rfl (sm_same rfl) hp_nil))) (last _ _)⟩, fun h0 => cut_ok (S2 := S_lsm16 o d false []) (ent_of [(5, 5), (8, 8)] rfl (tm_cons rfl (sm_ptr rfl) (tm_cons rfl (sm_same rfl) (tm_cons rfl (sm_ptr rfl) (tm_cons rfl (sm_same rfl) (tm_cons rfl (sm_same rfl) tm_nil))))) (hp_cons rfl rfl (sm_same rfl) (hp_cons rfl rfl (sm_same rfl) hp_nil))) (last _ _)⟩
theorem ty_n2 {x : AV} (h : Typed C.tt 6 40 x) : ∃ f : Nat → Int, simR some x (n2 f) := by
 obtain ⟨z, _, f, rfl, hf⟩ := typed_i64s (n := 4) (t := 40) (e := 3) (m := 2) (by kernel_rfl) (by kernel_rfl) (by kernel_rfl) h
 exact ⟨z, sm_arr hf⟩
theorem lsm_law {x0 x1 x2 : AV} (h0 : Typed C.tt 6 22 x0) (h1 : Typed C.tt 6 40 x1) (h2 : Typed C.tt 6 27 x2) : Fun C P F_lsm [x0, x1, x2] [] (.sb true) [] := by
 obtain ⟨l, ea, e3, e4, _, hx, s0⟩ := ty_raws h0
 obtain ⟨f, s1⟩ := ty_n2 h1
 obtain ⟨o, ho, s2⟩ := ty_disk h2
 exact (lsm_fun ea e3 e4 l hx f o ho).sim ⟨s0, s1, s2, trivial⟩ trivial
end Go.Bu.W

