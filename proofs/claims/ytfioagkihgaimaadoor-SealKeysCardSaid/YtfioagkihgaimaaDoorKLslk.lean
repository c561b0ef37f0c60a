/- With another key, or another number, sealed bytes are refused, unless that has the same tag for them. -/
import Derived.Test.YtfioagkihgaimaaDoorK17
namespace Go.Bu.W
open Sp
def w_slk : Way := wayU [0, 1, 2, 3, 4, 6, 7, 8, 9, 10, 11, 12, 27] 75 [3,4,9]
def S_slk3 (k0 k1 : List Nat) (i0 i1 : Int) (x : List Nat) : St := { tm := [(3, .ptr 3 []), (4, .ptr 4 []), (6, .sb false), (7, .sb true), (8, dB false x)], hp := [(3, .c (twoK k0 k1)), (4, .c (twoI i0 i1))], seen := [3, 4] }
def S_slk4 (k0 k1 : List Nat) (i0 i1 : Int) (x c : List Nat) : St := { tm := [(3, .ptr 3 []), (4, .ptr 4 []), (6, .sb false), (7, .sb true), (8, dB false x), (9, dB false c)], hp := [(3, .c (twoK k0 k1)), (4, .c (twoI i0 i1))], seen := [3, 4] }
def S_slk9 (e : Int) (same : Bool) (o : List Nat) : St := { tm := [(6, .sb false), (7, .sb true), (11, .sb same), (12, .ptr 12 [])], hp := [(12, .c (.st [dB false o, .i e]))], seen := [12] }

theorem slk_A (k0 k1 : List Nat) (i0 i1 : Int) (ex : Bool) (b : List Nat) (K : Nat) (Φ : Ex → St → Prop) :
  (Holds C P 75 [] K Φ (vc C w_slk b_slk [] (start [twoK k0 k1, twoI i0 i1, dB ex b] []) lf)) =
  (Fun W.C W.P (10 : Nat) [] [] (AV.sb true) [] ∧
 (True ∧
 (Fun W.C W.P (11 : Nat) [(AV.dat (List.length b) ex (1 : Nat) (rowL b))] [] (AV.sl (0 : Nat) [] (0 : Nat) (List.length (List.take (200 : Nat) (bytesL (List.length b) (rowL b)))) (List.length (List.take (200 : Nat) (bytesL (List.length b) (rowL b)))) false (1 : Nat)) [((0 : Nat), (Blk.c (AV.arr (List.length (List.take (200 : Nat) (bytesL (List.length b) (rowL b)))) (1 : Nat) (rowL (List.take (200 : Nat) (bytesL (List.length b) (rowL b)))))))] ∧
 (∃ (S2 : St), Ent W.C (75 : Nat) [] K (St.mk [((0 : Nat), (AV.arr (2 : Nat) (32 : Nat) (fun (i : Nat) => (AV.arr (32 : Nat) (1 : Nat) (rowL (W.two k0 k1 i)))))), ((1 : Nat), (AV.arr (2 : Nat) (1 : Nat) (fun (i : Nat) => (AV.v (Value.int IntKind.i64 (W.two i0 i1 i)))))), ((2 : Nat), (AV.dat (List.length b) ex (1 : Nat) (rowL b))), ((3 : Nat), (AV.ptr (3 : Nat) [])), ((4 : Nat), (AV.ptr (4 : Nat) [])), ((6 : Nat), (AV.v (Value.bool false))), ((7 : Nat), (AV.sb true)), ((8 : Nat), (AV.sl (15 : Nat) [] (0 : Nat) (List.length (List.take (200 : Nat) (bytesL (List.length b) (rowL b)))) (List.length (List.take (200 : Nat) (bytesL (List.length b) (rowL b)))) false (1 : Nat)))] [((3 : Nat), (Blk.c (AV.arr (2 : Nat) (32 : Nat) (fun (i : Nat) => (AV.arr (32 : Nat) (1 : Nat) (rowL (W.two k0 k1 i))))))), ((4 : Nat), (Blk.c (AV.arr (2 : Nat) (1 : Nat) (fun (i : Nat) => (AV.v (Value.int IntKind.i64 (W.two i0 i1 i))))))), ((15 : Nat), (Blk.c (AV.arr (List.length (List.take (200 : Nat) (bytesL (List.length b) (rowL b)))) (1 : Nat) (rowL (List.take (200 : Nat) (bytesL (List.length b) (rowL b)))))))] [(15 : Nat), (4 : Nat), (3 : Nat)]) S2 ∧ Holds W.C W.P (75 : Nat) [] K Φ (cutAt W.C w_slk b_slk [1, 1, 1, 0] S2 (after W.C w_slk b_slk [1, 1, 1, 0] [] lf)))))) := by kernel_rfl
theorem slk_C3 (k0 k1 : List Nat) (i0 i1 : Int) (x : List Nat) (K : Nat) (Φ : Ex → St → Prop) :
  (Holds C P 75 [] K Φ (cutAt C w_slk b_slk [1, 1, 1, 0] (S_slk3 k0 k1 i0 i1 x) (after C w_slk b_slk [1, 1, 1, 0] [] lf))) =
  ((((0 : Int) ≤ (0 : Int)) ∧ ((0 : Int) < (2 : Int))) ∧
 ((((0 : Int) ≤ (0 : Int)) ∧ ((0 : Int) < (2 : Int))) ∧
 (Fun W.C W.P (12 : Nat) [(AV.arr (32 : Nat) (1 : Nat) (rowL (W.two k0 k1 (0 : Nat)))), (AV.v (Value.int IntKind.i64 (W.two i0 i1 (0 : Nat)))), (AV.dat (List.length x) false (1 : Nat) (rowL x))] [] (AV.sl (0 : Nat) [] (0 : Nat) (List.length (W.sealL (bytesL (32 : Nat) (rowL (W.two k0 k1 (0 : Nat)))) (W.two i0 i1 (0 : Nat)) (datL (AV.dat (List.length x) false (1 : Nat) (rowL x))))) (List.length (W.sealL (bytesL (32 : Nat) (rowL (W.two k0 k1 (0 : Nat)))) (W.two i0 i1 (0 : Nat)) (datL (AV.dat (List.length x) false (1 : Nat) (rowL x))))) false (1 : Nat)) [((0 : Nat), (Blk.c (AV.arr (List.length (W.sealL (bytesL (32 : Nat) (rowL (W.two k0 k1 (0 : Nat)))) (W.two i0 i1 (0 : Nat)) (datL (AV.dat (List.length x) false (1 : Nat) (rowL x))))) (1 : Nat) (rowL (W.sealL (bytesL (32 : Nat) (rowL (W.two k0 k1 (0 : Nat)))) (W.two i0 i1 (0 : Nat)) (datL (AV.dat (List.length x) false (1 : Nat) (rowL x))))))))] ∧
 (∃ (S2 : St), Ent W.C (75 : Nat) [] K (St.mk [((3 : Nat), (AV.ptr (3 : Nat) [])), ((4 : Nat), (AV.ptr (4 : Nat) [])), ((6 : Nat), (AV.sb false)), ((7 : Nat), (AV.sb true)), ((8 : Nat), (AV.dat (List.length x) false (1 : Nat) (rowL x))), ((9 : Nat), (AV.sl (21 : Nat) [] (0 : Nat) (List.length (W.sealL (bytesL (32 : Nat) (rowL (W.two k0 k1 (0 : Nat)))) (W.two i0 i1 (0 : Nat)) (datL (AV.dat (List.length x) false (1 : Nat) (rowL x))))) (List.length (W.sealL (bytesL (32 : Nat) (rowL (W.two k0 k1 (0 : Nat)))) (W.two i0 i1 (0 : Nat)) (datL (AV.dat (List.length x) false (1 : Nat) (rowL x))))) false (1 : Nat)))] [((3 : Nat), (Blk.c (AV.arr (2 : Nat) (32 : Nat) (fun (i : Nat) => (AV.arr (32 : Nat) (1 : Nat) (rowL (W.two k0 k1 i))))))), ((4 : Nat), (Blk.c (AV.arr (2 : Nat) (1 : Nat) (fun (i : Nat) => (AV.v (Value.int IntKind.i64 (W.two i0 i1 i))))))), ((21 : Nat), (Blk.c (AV.arr (List.length (W.sealL (bytesL (32 : Nat) (rowL (W.two k0 k1 (0 : Nat)))) (W.two i0 i1 (0 : Nat)) (datL (AV.dat (List.length x) false (1 : Nat) (rowL x))))) (1 : Nat) (rowL (W.sealL (bytesL (32 : Nat) (rowL (W.two k0 k1 (0 : Nat)))) (W.two i0 i1 (0 : Nat)) (datL (AV.dat (List.length x) false (1 : Nat) (rowL x))))))))] [(21 : Nat), (3 : Nat), (4 : Nat)]) S2 ∧ Holds W.C W.P (75 : Nat) [] K Φ (cutAt W.C w_slk b_slk [1, 1, 1, 1, 0, 0] S2 (after W.C w_slk b_slk [1, 1, 1, 1, 0, 0] [] lf)))))) := by kernel_rfl
theorem slk_C4 (k0 k1 : List Nat) (i0 i1 : Int) (x c : List Nat) (K : Nat) (Φ : Ex → St → Prop) :
  (Holds C P 75 [] K Φ (cutAt C w_slk b_slk [1, 1, 1, 1, 0, 0] (S_slk4 k0 k1 i0 i1 x c) (after C w_slk b_slk [1, 1, 1, 1, 0, 0] [] lf))) =
  ((I64 ((((List.length x) + 32) : Nat) : Int)) ∧
 ((((((List.length c) : Nat) : Int) != ((((List.length x) + 32) : Nat) : Int)) = true → 
 (Φ Ex.ret (St.mk [((3 : Nat), (AV.ptr (3 : Nat) [])), ((4 : Nat), (AV.ptr (4 : Nat) [])), ((6 : Nat), (AV.v (Value.bool false))), ((7 : Nat), (AV.sb true)), ((8 : Nat), (AV.dat (List.length x) false (1 : Nat) (rowL x))), ((9 : Nat), (AV.dat (List.length c) false (1 : Nat) (rowL c))), ((27 : Nat), (AV.v (Value.bool true)))] [((3 : Nat), (Blk.c (AV.arr (2 : Nat) (32 : Nat) (fun (i : Nat) => (AV.arr (32 : Nat) (1 : Nat) (rowL (W.two k0 k1 i))))))), ((4 : Nat), (Blk.c (AV.arr (2 : Nat) (1 : Nat) (fun (i : Nat) => (AV.v (Value.int IntKind.i64 (W.two i0 i1 i)))))))] [(3 : Nat), (4 : Nat)]))) ∧
 (((((List.length c) : Nat) : Int) != ((((List.length x) + 32) : Nat) : Int)) = false → 
 ((((0 : Int) ≤ (0 : Int)) ∧ ((0 : Int) < (2 : Int))) ∧
  ((((0 : Int) ≤ (0 : Int)) ∧ ((0 : Int) < (2 : Int))) ∧
  ((((0 : Int) ≤ (0 : Int)) ∧ (((0 : Int) ≤ (((List.length x) : Nat) : Int)) ∧ ((((List.length x) : Nat) : Int) ≤ (((List.length c) : Nat) : Int)))) ∧
  (Fun W.C W.P (15 : Nat) [(AV.arr (32 : Nat) (1 : Nat) (rowL (W.two k0 k1 (0 : Nat)))), (AV.v (Value.int IntKind.i64 (W.two i0 i1 (0 : Nat)))), (AV.dat (List.length x) Bool.false (1 : Nat) (fun (i : Nat) => (AV.v (Value.int IntKind.u8 (((List.getD c ((0 : Nat) + i) (0 : Nat)) : Nat) : Int)))))] [] (AV.arr (32 : Nat) (1 : Nat) (fun (i : Nat) => (AV.v (Value.int IntKind.u8 (((Sp.sumN (W.tagB (bytesL (32 : Nat) (rowL (W.two k0 k1 (0 : Nat)))) (W.two i0 i1 (0 : Nat)) (datL (AV.dat (List.length x) Bool.false (1 : Nat) (fun (i2 : Nat) => (AV.v (Value.int IntKind.u8 (((List.getD c ((0 : Nat) + i2) (0 : Nat)) : Nat) : Int))))))) i) : Nat) : Int))))) [] ∧
  ((∀ (i : Nat), ((i < (32 : Nat)) → True)) ∧
  ((((0 : Int) ≤ (1 : Int)) ∧ ((1 : Int) < (2 : Int))) ∧
  ((((0 : Int) ≤ (1 : Int)) ∧ ((1 : Int) < (2 : Int))) ∧
  ((((0 : Int) ≤ (0 : Int)) ∧ (((0 : Int) ≤ (((List.length x) : Nat) : Int)) ∧ ((((List.length x) : Nat) : Int) ≤ (((List.length c) : Nat) : Int)))) ∧
  (Fun W.C W.P (15 : Nat) [(AV.arr (32 : Nat) (1 : Nat) (rowL (W.two k0 k1 (1 : Nat)))), (AV.v (Value.int IntKind.i64 (W.two i0 i1 (1 : Nat)))), (AV.dat (List.length x) Bool.false (1 : Nat) (fun (i : Nat) => (AV.v (Value.int IntKind.u8 (((List.getD c ((0 : Nat) + i) (0 : Nat)) : Nat) : Int)))))] [] (AV.arr (32 : Nat) (1 : Nat) (fun (i : Nat) => (AV.v (Value.int IntKind.u8 (((Sp.sumN (W.tagB (bytesL (32 : Nat) (rowL (W.two k0 k1 (1 : Nat)))) (W.two i0 i1 (1 : Nat)) (datL (AV.dat (List.length x) Bool.false (1 : Nat) (fun (i2 : Nat) => (AV.v (Value.int IntKind.u8 (((List.getD c ((0 : Nat) + i2) (0 : Nat)) : Nat) : Int))))))) i) : Nat) : Int))))) [] ∧
  ((∀ (i : Nat), ((i < (32 : Nat)) → True)) ∧
  ((∀ (i : Nat), ((i < (32 : Nat)) → ((IntKind.u8 = IntKind.u8) ∧ (IntKind.u8 = IntKind.u8)))) ∧
  ((((0 : Int) ≤ (1 : Int)) ∧ ((1 : Int) < (2 : Int))) ∧
  ((((0 : Int) ≤ (1 : Int)) ∧ ((1 : Int) < (2 : Int))) ∧
  (Fun W.C W.P (14 : Nat) [(AV.arr (32 : Nat) (1 : Nat) (rowL (W.two k0 k1 (1 : Nat)))), (AV.v (Value.int IntKind.i64 (W.two i0 i1 (1 : Nat)))), (AV.dat (List.length c) false (1 : Nat) (rowL c))] [] (AV.st [(AV.sl (0 : Nat) [] (0 : Nat) (List.length (W.openL (bytesL (32 : Nat) (rowL (W.two k0 k1 (1 : Nat)))) (W.two i0 i1 (1 : Nat)) (datL (AV.dat (List.length c) false (1 : Nat) (rowL c))))) (List.length (W.openL (bytesL (32 : Nat) (rowL (W.two k0 k1 (1 : Nat)))) (W.two i0 i1 (1 : Nat)) (datL (AV.dat (List.length c) false (1 : Nat) (rowL c))))) false (1 : Nat)), (AV.v (Value.int IntKind.i64 (W.openE (bytesL (32 : Nat) (rowL (W.two k0 k1 (1 : Nat)))) (W.two i0 i1 (1 : Nat)) (datL (AV.dat (List.length c) false (1 : Nat) (rowL c))))))]) [((0 : Nat), (Blk.c (AV.arr (List.length (W.openL (bytesL (32 : Nat) (rowL (W.two k0 k1 (1 : Nat)))) (W.two i0 i1 (1 : Nat)) (datL (AV.dat (List.length c) false (1 : Nat) (rowL c))))) (1 : Nat) (rowL (W.openL (bytesL (32 : Nat) (rowL (W.two k0 k1 (1 : Nat)))) (W.two i0 i1 (1 : Nat)) (datL (AV.dat (List.length c) false (1 : Nat) (rowL c))))))))] ∧
  ((((true = true) ∧ (Bool.true = true)) ∧ (((true = true) ∧ (Bool.true = true)) ∧ True)) ∧
  (∃ (S2 : St), Ent W.C (75 : Nat) [] K (St.mk [((3 : Nat), (AV.ptr (3 : Nat) [])), ((4 : Nat), (AV.ptr (4 : Nat) [])), ((6 : Nat), (AV.sb false)), ((7 : Nat), (AV.sb true)), ((8 : Nat), (AV.dat (List.length x) false (1 : Nat) (rowL x))), ((9 : Nat), (AV.dat (List.length c) false (1 : Nat) (rowL c))), ((10 : Nat), (AV.v (Value.int IntKind.i64 (((List.length x) : Nat) : Int)))), ((11 : Nat), (AV.sb (List.all (List.range (32 : Nat)) (fun (i : Nat) => ((((Sp.sumN (W.tagB (bytesL (32 : Nat) (rowL (W.two k0 k1 (0 : Nat)))) (W.two i0 i1 (0 : Nat)) (datL (AV.dat (List.length x) Bool.false (1 : Nat) (fun (i2 : Nat) => (AV.v (Value.int IntKind.u8 (((List.getD c ((0 : Nat) + i2) (0 : Nat)) : Nat) : Int))))))) i) : Nat) : Int) == (((Sp.sumN (W.tagB (bytesL (32 : Nat) (rowL (W.two k0 k1 (1 : Nat)))) (W.two i0 i1 (1 : Nat)) (datL (AV.dat (List.length x) Bool.false (1 : Nat) (fun (i2 : Nat) => (AV.v (Value.int IntKind.u8 (((List.getD c ((0 : Nat) + i2) (0 : Nat)) : Nat) : Int))))))) i) : Nat) : Int)))))), ((12 : Nat), (AV.ptr (12 : Nat) [])), ((27 : Nat), (AV.v (Value.bool false)))] [((3 : Nat), (Blk.c (AV.arr (2 : Nat) (32 : Nat) (fun (i : Nat) => (AV.arr (32 : Nat) (1 : Nat) (rowL (W.two k0 k1 i))))))), ((4 : Nat), (Blk.c (AV.arr (2 : Nat) (1 : Nat) (fun (i : Nat) => (AV.v (Value.int IntKind.i64 (W.two i0 i1 i))))))), ((12 : Nat), (Blk.c (AV.st [(AV.sl (52 : Nat) [] (0 : Nat) (List.length (W.openL (bytesL (32 : Nat) (rowL (W.two k0 k1 (1 : Nat)))) (W.two i0 i1 (1 : Nat)) (datL (AV.dat (List.length c) false (1 : Nat) (rowL c))))) (List.length (W.openL (bytesL (32 : Nat) (rowL (W.two k0 k1 (1 : Nat)))) (W.two i0 i1 (1 : Nat)) (datL (AV.dat (List.length c) false (1 : Nat) (rowL c))))) false (1 : Nat)), (AV.v (Value.int IntKind.i64 (W.openE (bytesL (32 : Nat) (rowL (W.two k0 k1 (1 : Nat)))) (W.two i0 i1 (1 : Nat)) (datL (AV.dat (List.length c) false (1 : Nat) (rowL c))))))]))), ((52 : Nat), (Blk.c (AV.arr (List.length (W.openL (bytesL (32 : Nat) (rowL (W.two k0 k1 (1 : Nat)))) (W.two i0 i1 (1 : Nat)) (datL (AV.dat (List.length c) false (1 : Nat) (rowL c))))) (1 : Nat) (rowL (W.openL (bytesL (32 : Nat) (rowL (W.two k0 k1 (1 : Nat)))) (W.two i0 i1 (1 : Nat)) (datL (AV.dat (List.length c) false (1 : Nat) (rowL c))))))))] [(12 : Nat), (52 : Nat), (3 : Nat), (4 : Nat)]) S2 ∧ Holds W.C W.P (75 : Nat) [] K Φ (cutAt W.C w_slk b_slk [1, 1, 1, 1, 1, 1, 1, 1, 0] S2 (after W.C w_slk b_slk [1, 1, 1, 1, 1, 1, 1, 1, 0] [] lf))))))))))))))))))))) := by kernel_rfl
theorem slk_C9 (e : Int) (same : Bool) (o : List Nat) (K : Nat) (Φ : Ex → St → Prop) :
  (Holds C P 75 [] K Φ (cutAt C w_slk b_slk [1, 1, 1, 1, 1, 1, 1, 1, 0] (S_slk9 e same o) (after C w_slk b_slk [1, 1, 1, 1, 1, 1, 1, 1, 0] [] lf))) =
  ((((e == (0 : Int)) == same) = true → 
 ((same = true → 
  (Φ Ex.ret (St.mk [((6 : Nat), (AV.sb true)), ((7 : Nat), (AV.sb true)), ((11 : Nat), (AV.sb same)), ((12 : Nat), (AV.ptr (12 : Nat) []))] [((12 : Nat), (Blk.c (AV.st [(AV.dat (List.length o) false (1 : Nat) (rowL o)), (AV.v (Value.int IntKind.i64 e))])))] [(12 : Nat)]))) ∧
  (same = false → 
  (((e == (50 : Int)) = true → 
   ((((((List.length o) : Nat) : Int) == (0 : Int)) = true → 
    (Φ Ex.ret (St.mk [((6 : Nat), (AV.sb true)), ((7 : Nat), (AV.sb true)), ((11 : Nat), (AV.sb same)), ((12 : Nat), (AV.ptr (12 : Nat) []))] [((12 : Nat), (Blk.c (AV.st [(AV.dat (List.length o) false (1 : Nat) (rowL o)), (AV.v (Value.int IntKind.i64 e))])))] [(12 : Nat)]))) ∧
    (((((List.length o) : Nat) : Int) == (0 : Int)) = false → 
    (Φ Ex.ret (St.mk [((6 : Nat), (AV.v (Value.bool false))), ((7 : Nat), (AV.sb true)), ((11 : Nat), (AV.sb same)), ((12 : Nat), (AV.ptr (12 : Nat) []))] [((12 : Nat), (Blk.c (AV.st [(AV.dat (List.length o) false (1 : Nat) (rowL o)), (AV.v (Value.int IntKind.i64 e))])))] [(12 : Nat)]))))) ∧
   ((e == (50 : Int)) = false → 
   (Φ Ex.ret (St.mk [((6 : Nat), (AV.v (Value.bool false))), ((7 : Nat), (AV.sb true)), ((11 : Nat), (AV.sb same)), ((12 : Nat), (AV.ptr (12 : Nat) []))] [((12 : Nat), (Blk.c (AV.st [(AV.dat (List.length o) false (1 : Nat) (rowL o)), (AV.v (Value.int IntKind.i64 e))])))] [(12 : Nat)]))))))) ∧
 (((e == (0 : Int)) == same) = false → 
 (Φ Ex.ret (St.mk [((6 : Nat), (AV.v (Value.bool false))), ((7 : Nat), (AV.sb true)), ((11 : Nat), (AV.sb same)), ((12 : Nat), (AV.ptr (12 : Nat) []))] [((12 : Nat), (Blk.c (AV.st [(AV.dat (List.length o) false (1 : Nat) (rowL o)), (AV.v (Value.int IntKind.i64 e))])))] [(12 : Nat)])))) := by kernel_rfl
theorem all_sum (A B : List Nat) : ((List.range 32).all fun i => (((sumN A i : Nat) : Int) == ((sumN B i : Nat) : Int))) = decide (sumL A = sumL B) := by
  by_cases e : sumL A = sumL B
  · rw [decide_eq_true e, List.all_eq_true]
    intro i hi
    have hi := List.mem_range.1 hi
    rw [← sumL_get A hi, ← sumL_get B hi, e]
    simp
  · rw [decide_eq_false e]
    refine Bool.eq_false_iff.2 fun ha => e ?_
    rw [List.all_eq_true] at ha
    refine list_ext0 (by simp [sumL]) fun i hi => ?_
    have hi : i < 32 := by simpa [sumL] using hi
    have := (beq_iff_eq).1 (ha i (List.mem_range.2 hi))
    rw [sumL_get _ hi, sumL_get _ hi]
    exact_mod_cast this
theorem right_other (k0 k1 : List Nat) (i0 i1 : Int) (x : List Nat) : rightB k1 i1 (sealL k0 i0 x) = decide (tagL k0 i0 (mixL k0 i0 x) = tagL k1 i1 (mixL k0 i0 x)) := by
  unfold rightB
  rw [cut_seal, sealL_len, Nat.add_sub_cancel, drop_seal, decide_eq_true (by omega), Bool.true_and]
theorem slk_fun (k0 k1 : List Nat) (i0 i1 : Int) (ex : Bool) (b : List Nat) (hk0 : k0.length = 32) (hs0 : Small k0) (hk1 : k1.length = 32) (hs1 : Small k1) (hi0 : I64 i0) (hi1 : I64 i1) (hb : Small b) : Fun C P F_slk [twoK k0 k1, twoI i0 i1, dB ex b] [] (.sb true) [] := by
  refine in_slk (W := w_slk) rfl 0 (by simp) rfl (fun id h => absurd rfl h) ?_
  obtain ⟨x, hx⟩ : ∃ x, x = b.take 200 := ⟨_, rfl⟩
  have sx : Small x := hx ▸ small_take hb 200
  have lx : x.length ≤ 200 := by rw [hx]; simp; omega
  refine of_eq (slk_A k0 k1 i0 i1 ex b 0 _) ⟨sanity_fun, trivial, short_call (B8_row hb _) (.inr rfl), cut_ok (S2 := S_slk3 k0 k1 i0 i1 x) (Ent.trans (ent_freeze _ [15]) (ent_of [(3, 3), (4, 4)] rfl (tm_cons rfl (sm_ptr rfl) (tm_cons rfl (sm_ptr rfl) (tm_cons rfl (sm_b rfl) (tm_cons rfl (sm_same rfl) (tm_cons rfl (sm_dat' (by rw [bytesL_row, hx]) (by simp) fun i hi => ?_) tm_nil))))) (hp_cons rfl rfl (sm_same rfl) (hp_cons rfl rfl (sm_same rfl) hp_nil)))) ?_⟩
  · rw [bytesL_row, ← hx, Nat.zero_add]
  obtain ⟨c, hc⟩ : ∃ c, c = sealL k0 i0 x := ⟨_, rfl⟩
  have sc : Small c := hc ▸ small_sealL k0 i0 sx
  have lc : c.length = x.length + 32 := by rw [hc, sealL_len]
  refine of_eq (slk_C3 k0 k1 i0 i1 x 0 _) ⟨(by first | omega | decide | (unfold I64; omega)), (by first | omega | decide | (unfold I64; omega)), seal_call (B8_row hs0 32) hi0 (B8_row sx _) (.inr rfl) (by first | omega | decide | (unfold I64; omega)), cut_ok (S2 := S_slk4 k0 k1 i0 i1 x c) (Ent.trans (ent_freeze _ [21]) (ent_of [(3, 3), (4, 4)] rfl (tm_cons rfl (sm_ptr rfl) (tm_cons rfl (sm_ptr rfl) (tm_cons rfl (sm_same rfl) (tm_cons rfl (sm_same rfl) (tm_cons rfl (sm_same rfl) (tm_cons rfl (sm_dat' ?_ (by simp) fun i hi => ?_) tm_nil)))))) (hp_cons rfl rfl (sm_same rfl) (hp_cons rfl rfl (sm_same rfl) hp_nil)))) ?_⟩
  · show (sealL (bytesL 32 (rowL k0)) i0 _).length = _
    rw [kyl hk0, datR, hc]
  · show rowL (sealL (bytesL 32 (rowL k0)) i0 _) (0 + i) = _
    rw [kyl hk0, datR, ← hc, Nat.zero_add]
  have so := small_openL (bytesL 32 (rowL k1)) i1 (c := datL (.dat c.length false 1 (rowL c))) (by rw [datR]; exact sc)
  have hm : datL (.dat x.length false 1 (fun i => u8 (c.getD (0 + i) 0))) = mixL k0 i0 x := by
    rw [datC c false (by omega), ← cut_seal, ← hc]
    unfold cutL
    rw [show c.length - 32 = x.length by omega]
  refine of_eq (slk_C4 k0 k1 i0 i1 x c 0 _) ⟨(by first | omega | decide | (unfold I64; omega)), bne_then (by rw [lc]) ⟨(by first | omega | decide | (unfold I64; omega)), (by first | omega | decide | (unfold I64; omega)), (by first | omega | decide | (unfold I64; omega)), rtag_call (B8_row hs0 32) (b8_get sc _ 0) (.inr rfl) (by first | omega | decide | (unfold I64; omega)), fun _ _ => trivial, (by first | omega | decide | (unfold I64; omega)), (by first | omega | decide | (unfold I64; omega)), (by first | omega | decide | (unfold I64; omega)), rtag_call (B8_row hs1 32) (b8_get sc _ 0) (.inr rfl) (by first | omega | decide | (unfold I64; omega)), fun _ _ => trivial,
    fun _ _ => ⟨rfl, rfl⟩, (by first | omega | decide | (unfold I64; omega)), (by first | omega | decide | (unfold I64; omega)), opened_call (B8_row hs1 32) hi1 (B8_row sc _) (.inr rfl) (by first | omega | decide | (unfold I64; omega)), ⟨⟨rfl, rfl⟩, ⟨rfl, rfl⟩, trivial⟩,
    cut_ok (S2 := S_slk9 (openE k1 i1 c) (rightB k1 i1 c) (openL k1 i1 c)) (Ent.trans (ent_freeze _ [52]) (ent_of [(12, 12)] rfl (tm_cons rfl (sm_same rfl) (tm_cons rfl (sm_same rfl) (tm_cons rfl (sm_sb ?_) (tm_cons rfl (sm_ptr rfl) tm_nil)))) (hp_cons rfl rfl (sm_st (sms_cons (sm_dat' ?_ (by simp) fun i hi => ?_) (sms_cons (sm_int ?_) sms_nil))) hp_nil))) ?_⟩⟩
  · rw [all_sum, hm, hc, right_other]
    show decide (sumL (tagB (bytesL 32 (rowL k0)) i0 _) = sumL (tagB (bytesL 32 (rowL k1)) i1 _)) = _
    rw [kyl hk0, kyl hk1]; rfl
  · show (openL (bytesL 32 (rowL k1)) i1 _).length = _
    rw [kyl hk1, datR]
  · show rowL (openL (bytesL 32 (rowL k1)) i1 _) (0 + i) = _
    rw [kyl hk1, datR, Nat.zero_add]
  · show openE (bytesL 32 (rowL k1)) i1 _ = _
    rw [kyl hk1, datR]
  refine of_eq (slk_C9 _ _ _ 0 _) ?_
  cases hr : rightB k1 i1 c with
  | false =>
    rw [(right_no hr).1, (right_no hr).2]
    exact tt_then rfl (ff_then rfl (tt_then rfl (tt_then rfl (post_tmp rfl (sm_same rfl)))))
  | true =>
    rw [(right_yes hr).2]
    exact tt_then rfl (tt_then rfl (post_tmp rfl (sm_same rfl)))
theorem slk_law {x0 x1 x2 : AV} (h0 : Typed C.tt 6 34 x0) (h1 : Typed C.tt 6 35 x1) (h2 : Typed C.tt 6 24 x2) : Fun C P F_slk [x0, x1, x2] [] (.sb true) [] := by
  obtain ⟨k0, k1, hs0, hk0, hs1, hk1, s0⟩ := typed_twoK (s := 23) (e := 5) rfl rfl rfl rfl rfl h0
  obtain ⟨i0, i1, hi0, hi1, s1⟩ := typed_twoI (s := 3) rfl rfl rfl h1
  obtain ⟨b, ex, hb, _, s2⟩ := typed_bytes (e := 5) rfl rfl rfl h2
  exact (slk_fun k0 k1 i0 i1 ex b hk0 hs0 hk1 hs1 hi0 hi1 hb).sim ⟨s0, s1, s2, trivial⟩ trivial
end Go.Bu.W

