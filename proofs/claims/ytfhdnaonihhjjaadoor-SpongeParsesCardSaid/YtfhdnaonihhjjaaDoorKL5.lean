/- A hash is read from its text; two hashes have the same text exactly if they are equal; a text in which a part is replaced is read only if it is the text of the result. -/
import Derived.Test.YtfhdnaonihhjjaaDoorKH2
namespace Go.Bu.W
open Sp
def w_lt : Way := wayH [0, 1, 2, 3, 5, 6, 7, 8, 9, 10, 11, 12, 13, 14, 15, 16, 20, 57, 84] 107 [5,8,12,13]
def S_lt5 (key : List Nat) (put : ByteArray) (w : List Nat) : St := { tm := [(1, .v (.string put)), (3, .ptr 3 []), (5, .ptr 5 []), (6, .sb false), (7, .sb true), (8, .v (.string (hexB key)))], hp := [(3, .c (.arr 32 1 (rowL key))), (5, .c (.arr 3 1 (rowL w)))], seen := [3, 5] }
def S_lt8 (key : List Nat) (put : ByteArray) (w b : List Nat) : St := { tm := [(1, .v (.string put)), (3, .ptr 3 []), (5, .ptr 5 []), (6, .sb false), (7, .sb true), (8, .v (.string (hexB key))), (9, .ptr 9 []), (10, .i 0), (11, .ptr 11 [])], hp := [(3, .c (.arr 32 1 (rowL key))), (5, .c (.arr 3 1 (rowL w))), (9, .c (.arr 32 1 (rowL key))), (11, .c (.arr 32 1 (rowL b)))], seen := [3, 5, 9, 11] }
def S_lt12 (s put : ByteArray) (at' en : Nat) : St := { tm := [(1, .v (.string put)), (6, .sb false), (7, .sb true), (8, .v (.string s)), (12, i64 at'), (13, i64 en)], hp := [], seen := [] }
def S_lt13 (s odd : ByteArray) : St := { tm := [(6, .sb false), (7, .sb true), (8, .v (.string s)), (14, .v (.string odd))], hp := [], seen := [] }

theorem lt_A (key : List Nat) (put : ByteArray) (w : List Nat) (K : Nat) (Φ : Ex → St → Prop) :
  (Holds C P 107 [] K Φ (vc C w_lt b_lt [] (start [.arr 32 1 (rowL key), .v (.string put), .arr 3 1 (rowL w)] []) lf)) =
  (Fun W.C W.P (10 : Nat) [] [] (AV.sb true) [] ∧
 (True ∧
 (((decide ((((ByteArray.size put) : Nat) : Int) > (6 : Int))) = true → 
 (Φ Ex.ret (St.mk [((0 : Nat), (AV.arr (32 : Nat) (1 : Nat) (rowL key))), ((1 : Nat), (AV.v (Value.string put))), ((2 : Nat), (AV.arr (3 : Nat) (1 : Nat) (rowL w))), ((3 : Nat), (AV.ptr (3 : Nat) [])), ((5 : Nat), (AV.ptr (5 : Nat) [])), ((6 : Nat), (AV.sb true)), ((7 : Nat), (AV.sb true)), ((20 : Nat), (AV.v (Value.bool true)))] [((3 : Nat), (Blk.c (AV.arr (32 : Nat) (1 : Nat) (rowL key)))), ((5 : Nat), (Blk.c (AV.arr (3 : Nat) (1 : Nat) (rowL w))))] [(5 : Nat), (3 : Nat)]))) ∧
 ((decide ((((ByteArray.size put) : Nat) : Int) > (6 : Int))) = false → 
 (Fun W.C W.P (13 : Nat) [(AV.arr (32 : Nat) (1 : Nat) (rowL key))] [] (AV.v (Value.string (W.hexB (bytesL (32 : Nat) (rowL key))))) [] ∧
  (True ∧
  (∃ (S2 : St), Ent W.C (107 : Nat) [] K (St.mk [((0 : Nat), (AV.arr (32 : Nat) (1 : Nat) (rowL key))), ((1 : Nat), (AV.v (Value.string put))), ((2 : Nat), (AV.arr (3 : Nat) (1 : Nat) (rowL w))), ((3 : Nat), (AV.ptr (3 : Nat) [])), ((5 : Nat), (AV.ptr (5 : Nat) [])), ((6 : Nat), (AV.v (Value.bool false))), ((7 : Nat), (AV.sb true)), ((8 : Nat), (AV.v (Value.string (W.hexB (bytesL (32 : Nat) (rowL key)))))), ((20 : Nat), (AV.v (Value.bool false)))] [((3 : Nat), (Blk.c (AV.arr (32 : Nat) (1 : Nat) (rowL key)))), ((5 : Nat), (Blk.c (AV.arr (3 : Nat) (1 : Nat) (rowL w))))] [(5 : Nat), (3 : Nat)]) S2 ∧ Holds W.C W.P (107 : Nat) [] K Φ (cutAt W.C w_lt b_lt [1, 1, 1, 1, 0] S2 (after W.C w_lt b_lt [1, 1, 1, 1, 0] [] lf))))))))) := by kernel_rfl
theorem lt_C5 (key : List Nat) (put : ByteArray) (w : List Nat) (K : Nat) (Φ : Ex → St → Prop) :
  (Holds C P 107 [] K Φ (cutAt C w_lt b_lt [1, 1, 1, 1, 0] (S_lt5 key put w) (after C w_lt b_lt [1, 1, 1, 1, 0] [] lf))) =
  (Fun W.C W.P (22 : Nat) [(AV.v (Value.string (W.hexB key)))] [] (AV.tup [(AV.arr (32 : Nat) (1 : Nat) (fun (k : Nat) => (AV.v (Value.int IntKind.u8 (((Sp.sumVal (Array.toList (ByteArray.data (W.hexB key))) k) : Nat) : Int))))), (AV.v (Value.int IntKind.i64 (W.errV (Sp.okL (Array.toList (ByteArray.data (W.hexB key)))))))]) [] ∧
 ((((32 : Nat) = (32 : Nat)) ∧ (((1 : Nat) = (1 : Nat)) ∧ (∀ (i : Nat), ((i < (32 : Nat)) → ((true = true) ∧ (Bool.true = true)))))) ∧
 ((((32 : Nat) = (32 : Nat)) ∧ (((1 : Nat) = (1 : Nat)) ∧ (∀ (i : Nat), ((i < (32 : Nat)) → ((true = true) ∧ (Bool.true = true)))))) ∧
 ((((0 : Int) ≤ (0 : Int)) ∧ ((0 : Int) < (3 : Int))) ∧
 (((32 : Int) ≠ (0 : Int)) ∧
 ((((0 : Int) ≤ (1 : Int)) ∧ ((1 : Int) < (3 : Int))) ∧
 ((((0 : Int) ≤ ((((List.getD w (0 : Nat) (0 : Nat)) % 32) : Nat) : Int)) ∧ (((((List.getD w (0 : Nat) (0 : Nat)) % 32) : Nat) : Int) < (32 : Int))) ∧
 (∃ (S2 : St), Ent W.C (107 : Nat) [] K (St.mk [((1 : Nat), (AV.v (Value.string put))), ((3 : Nat), (AV.ptr (3 : Nat) [])), ((5 : Nat), (AV.ptr (5 : Nat) [])), ((6 : Nat), (AV.sb false)), ((7 : Nat), (AV.sb true)), ((8 : Nat), (AV.v (Value.string (W.hexB key)))), ((9 : Nat), (AV.ptr (9 : Nat) [])), ((10 : Nat), (AV.v (Value.int IntKind.i64 (W.errV (Sp.okL (Array.toList (ByteArray.data (W.hexB key)))))))), ((11 : Nat), (AV.ptr (11 : Nat) []))] [((3 : Nat), (Blk.c (AV.arr (32 : Nat) (1 : Nat) (rowL key)))), ((5 : Nat), (Blk.c (AV.arr (3 : Nat) (1 : Nat) (rowL w)))), ((9 : Nat), (Blk.c (AV.arr (32 : Nat) (1 : Nat) (fun (k : Nat) => (AV.v (Value.int IntKind.u8 (((Sp.sumVal (Array.toList (ByteArray.data (W.hexB key))) k) : Nat) : Int))))))), ((11 : Nat), (Blk.c (AV.arr (32 : Nat) (1 : Nat) (fun (j : Nat) => (if (j = ((List.getD w (0 : Nat) (0 : Nat)) % 32)) then (AV.v (Value.int IntKind.u8 (((List.getD w (1 : Nat) (0 : Nat)) : Nat) : Int))) else (AV.v (Value.int IntKind.u8 (((List.getD key j (0 : Nat)) : Nat) : Int))))))))] [(11 : Nat), (9 : Nat), (3 : Nat), (5 : Nat)]) S2 ∧ Holds W.C W.P (107 : Nat) [] K Φ (cutAt W.C w_lt b_lt [1, 1, 1, 1, 1, 1, 1, 0, 0] S2 (after W.C w_lt b_lt [1, 1, 1, 1, 1, 1, 1, 0, 0] [] lf)))))))))) := by kernel_rfl
theorem lt_C8 (key : List Nat) (put : ByteArray) (w b : List Nat) (K : Nat) (Φ : Ex → St → Prop) :
  (Holds C P 107 [] K Φ (cutAt C w_lt b_lt [1, 1, 1, 1, 1, 1, 1, 0, 0] (S_lt8 key put w b) (after C w_lt b_lt [1, 1, 1, 1, 1, 1, 1, 0, 0] [] lf))) =
  ((((((ByteArray.size (W.hexB key)) : Nat) : Int) != (64 : Int)) = true → 
 (Φ Ex.ret (St.mk [((1 : Nat), (AV.v (Value.string put))), ((3 : Nat), (AV.ptr (3 : Nat) [])), ((5 : Nat), (AV.ptr (5 : Nat) [])), ((6 : Nat), (AV.v (Value.bool false))), ((7 : Nat), (AV.sb true)), ((8 : Nat), (AV.v (Value.string (W.hexB key)))), ((9 : Nat), (AV.ptr (9 : Nat) [])), ((10 : Nat), (AV.v (Value.int IntKind.i64 (0 : Int)))), ((11 : Nat), (AV.ptr (11 : Nat) [])), ((57 : Nat), (AV.v (Value.bool true)))] [((3 : Nat), (Blk.c (AV.arr (32 : Nat) (1 : Nat) (rowL key)))), ((5 : Nat), (Blk.c (AV.arr (3 : Nat) (1 : Nat) (rowL w)))), ((9 : Nat), (Blk.c (AV.arr (32 : Nat) (1 : Nat) (rowL key)))), ((11 : Nat), (Blk.c (AV.arr (32 : Nat) (1 : Nat) (rowL b))))] [(3 : Nat), (5 : Nat), (9 : Nat), (11 : Nat)]))) ∧
 (((((ByteArray.size (W.hexB key)) : Nat) : Int) != (64 : Int)) = false → 
 ((false = true → 
  (Φ Ex.ret (St.mk [((1 : Nat), (AV.v (Value.string put))), ((3 : Nat), (AV.ptr (3 : Nat) [])), ((5 : Nat), (AV.ptr (5 : Nat) [])), ((6 : Nat), (AV.v (Value.bool false))), ((7 : Nat), (AV.sb true)), ((8 : Nat), (AV.v (Value.string (W.hexB key)))), ((9 : Nat), (AV.ptr (9 : Nat) [])), ((10 : Nat), (AV.v (Value.int IntKind.i64 (0 : Int)))), ((11 : Nat), (AV.ptr (11 : Nat) [])), ((57 : Nat), (AV.v (Value.bool true)))] [((3 : Nat), (Blk.c (AV.arr (32 : Nat) (1 : Nat) (rowL key)))), ((5 : Nat), (Blk.c (AV.arr (3 : Nat) (1 : Nat) (rowL w)))), ((9 : Nat), (Blk.c (AV.arr (32 : Nat) (1 : Nat) (rowL key)))), ((11 : Nat), (Blk.c (AV.arr (32 : Nat) (1 : Nat) (rowL b))))] [(3 : Nat), (5 : Nat), (9 : Nat), (11 : Nat)]))) ∧
  (false = false → 
  ((∀ (i : Nat), ((i < (32 : Nat)) → ((IntKind.u8 = IntKind.u8) ∧ (IntKind.u8 = IntKind.u8)))) ∧
   (((!(List.all (List.range (32 : Nat)) (fun (i : Nat) => ((((List.getD key i (0 : Nat)) : Nat) : Int) == (((List.getD key i (0 : Nat)) : Nat) : Int))))) = true → 
   (Φ Ex.ret (St.mk [((1 : Nat), (AV.v (Value.string put))), ((3 : Nat), (AV.ptr (3 : Nat) [])), ((5 : Nat), (AV.ptr (5 : Nat) [])), ((6 : Nat), (AV.v (Value.bool false))), ((7 : Nat), (AV.sb true)), ((8 : Nat), (AV.v (Value.string (W.hexB key)))), ((9 : Nat), (AV.ptr (9 : Nat) [])), ((10 : Nat), (AV.v (Value.int IntKind.i64 (0 : Int)))), ((11 : Nat), (AV.ptr (11 : Nat) [])), ((57 : Nat), (AV.v (Value.bool true)))] [((3 : Nat), (Blk.c (AV.arr (32 : Nat) (1 : Nat) (rowL key)))), ((5 : Nat), (Blk.c (AV.arr (3 : Nat) (1 : Nat) (rowL w)))), ((9 : Nat), (Blk.c (AV.arr (32 : Nat) (1 : Nat) (rowL key)))), ((11 : Nat), (Blk.c (AV.arr (32 : Nat) (1 : Nat) (rowL b))))] [(3 : Nat), (5 : Nat), (9 : Nat), (11 : Nat)]))) ∧
   ((!(List.all (List.range (32 : Nat)) (fun (i : Nat) => ((((List.getD key i (0 : Nat)) : Nat) : Int) == (((List.getD key i (0 : Nat)) : Nat) : Int))))) = false → 
   (Fun W.C W.P (13 : Nat) [(AV.arr (32 : Nat) (1 : Nat) (rowL b))] [] (AV.v (Value.string (W.hexB (bytesL (32 : Nat) (rowL b))))) [] ∧
    (True ∧
    ((∀ (i : Nat), ((i < (32 : Nat)) → ((IntKind.u8 = IntKind.u8) ∧ (IntKind.u8 = IntKind.u8)))) ∧
    (((!(((ByteArray.toList (W.hexB (bytesL (32 : Nat) (rowL b)))) == (ByteArray.toList (W.hexB key))) == (List.all (List.range (32 : Nat)) (fun (i : Nat) => ((((List.getD key i (0 : Nat)) : Nat) : Int) == (((List.getD b i (0 : Nat)) : Nat) : Int)))))) = true → 
    (Φ Ex.ret (St.mk [((1 : Nat), (AV.v (Value.string put))), ((3 : Nat), (AV.ptr (3 : Nat) [])), ((5 : Nat), (AV.ptr (5 : Nat) [])), ((6 : Nat), (AV.v (Value.bool false))), ((7 : Nat), (AV.sb true)), ((8 : Nat), (AV.v (Value.string (W.hexB key)))), ((9 : Nat), (AV.ptr (9 : Nat) [])), ((10 : Nat), (AV.v (Value.int IntKind.i64 (0 : Int)))), ((11 : Nat), (AV.ptr (11 : Nat) [])), ((57 : Nat), (AV.v (Value.bool true)))] [((3 : Nat), (Blk.c (AV.arr (32 : Nat) (1 : Nat) (rowL key)))), ((5 : Nat), (Blk.c (AV.arr (3 : Nat) (1 : Nat) (rowL w)))), ((9 : Nat), (Blk.c (AV.arr (32 : Nat) (1 : Nat) (rowL key)))), ((11 : Nat), (Blk.c (AV.arr (32 : Nat) (1 : Nat) (rowL b))))] [(3 : Nat), (5 : Nat), (9 : Nat), (11 : Nat)]))) ∧
    ((!(((ByteArray.toList (W.hexB (bytesL (32 : Nat) (rowL b)))) == (ByteArray.toList (W.hexB key))) == (List.all (List.range (32 : Nat)) (fun (i : Nat) => ((((List.getD key i (0 : Nat)) : Nat) : Int) == (((List.getD b i (0 : Nat)) : Nat) : Int)))))) = false → 
    ((((0 : Int) ≤ (2 : Int)) ∧ ((2 : Int) < (3 : Int))) ∧
     ((I64 (((List.getD w (2 : Nat) (0 : Nat)) : Nat) : Int)) ∧
     (((65 : Int) ≠ (0 : Int)) ∧
     ((((0 : Int) ≤ (1 : Int)) ∧ ((1 : Int) < (3 : Int))) ∧
     (((5 : Int) ≠ (0 : Int)) ∧
     ((I64 ((((List.getD w (1 : Nat) (0 : Nat)) % 5) : Nat) : Int)) ∧
     ((I64 (((((List.getD w (2 : Nat) (0 : Nat)) % 65) + ((List.getD w (1 : Nat) (0 : Nat)) % 5)) : Nat) : Int)) ∧
     (∃ (S2 : St), Ent W.C (107 : Nat) [] K (St.mk [((1 : Nat), (AV.v (Value.string put))), ((3 : Nat), (AV.ptr (3 : Nat) [])), ((5 : Nat), (AV.ptr (5 : Nat) [])), ((6 : Nat), (AV.sb false)), ((7 : Nat), (AV.sb true)), ((8 : Nat), (AV.v (Value.string (W.hexB key)))), ((9 : Nat), (AV.ptr (9 : Nat) [])), ((10 : Nat), (AV.v (Value.int IntKind.i64 (0 : Int)))), ((11 : Nat), (AV.ptr (11 : Nat) [])), ((12 : Nat), (AV.v (Value.int IntKind.i64 ((((List.getD w (2 : Nat) (0 : Nat)) % 65) : Nat) : Int)))), ((13 : Nat), (AV.v (Value.int IntKind.i64 (Min.min (((((List.getD w (2 : Nat) (0 : Nat)) % 65) + ((List.getD w (1 : Nat) (0 : Nat)) % 5)) : Nat) : Int) (64 : Int))))), ((57 : Nat), (AV.v (Value.bool false)))] [((3 : Nat), (Blk.c (AV.arr (32 : Nat) (1 : Nat) (rowL key)))), ((5 : Nat), (Blk.c (AV.arr (3 : Nat) (1 : Nat) (rowL w)))), ((9 : Nat), (Blk.c (AV.arr (32 : Nat) (1 : Nat) (rowL key)))), ((11 : Nat), (Blk.c (AV.arr (32 : Nat) (1 : Nat) (rowL b))))] [(3 : Nat), (5 : Nat), (9 : Nat), (11 : Nat)]) S2 ∧ Holds W.C W.P (107 : Nat) [] K Φ (cutAt W.C w_lt b_lt [1, 1, 1, 1, 1, 1, 1, 1, 1, 1, 0] S2 (after W.C w_lt b_lt [1, 1, 1, 1, 1, 1, 1, 1, 1, 1, 0] [] lf)))))))))))))))))))))) := by kernel_rfl
theorem lt_C12 (s put : ByteArray) (at' en : Nat) (K : Nat) (Φ : Ex → St → Prop) :
  (Holds C P 107 [] K Φ (cutAt C w_lt b_lt [1, 1, 1, 1, 1, 1, 1, 1, 1, 1, 0] (S_lt12 s put at' en) (after C w_lt b_lt [1, 1, 1, 1, 1, 1, 1, 1, 1, 1, 0] [] lf))) =
  ((((0 : Int) ≤ (0 : Int)) ∧ (((0 : Int) ≤ ((at' : Nat) : Int)) ∧ (((at' : Nat) : Int) ≤ (((ByteArray.size s) : Nat) : Int)))) ∧
 ((((((ByteArray.size (ByteArray.extract s (0 : Nat) at')) + (ByteArray.size put)) : Nat) : Int) ≤ (9223372036854775807 : Int)) ∧
 ((((0 : Int) ≤ ((en : Nat) : Int)) ∧ ((((en : Nat) : Int) ≤ (((ByteArray.size s) : Nat) : Int)) ∧ ((((ByteArray.size s) : Nat) : Int) ≤ (((ByteArray.size s) : Nat) : Int)))) ∧
 ((((((ByteArray.size ((ByteArray.extract s (0 : Nat) at') ++ put)) + (ByteArray.size (ByteArray.extract s en (ByteArray.size s)))) : Nat) : Int) ≤ (9223372036854775807 : Int)) ∧
 (∃ (S2 : St), Ent W.C (107 : Nat) [] K (St.mk [((1 : Nat), (AV.v (Value.string put))), ((6 : Nat), (AV.sb false)), ((7 : Nat), (AV.sb true)), ((8 : Nat), (AV.v (Value.string s))), ((12 : Nat), (AV.v (Value.int IntKind.i64 ((at' : Nat) : Int)))), ((13 : Nat), (AV.v (Value.int IntKind.i64 ((en : Nat) : Int)))), ((14 : Nat), (AV.v (Value.string (((ByteArray.extract s (0 : Nat) at') ++ put) ++ (ByteArray.extract s en (ByteArray.size s))))))] [] []) S2 ∧ Holds W.C W.P (107 : Nat) [] K Φ (cutAt W.C w_lt b_lt [1, 1, 1, 1, 1, 1, 1, 1, 1, 1, 1, 0] S2 (after W.C w_lt b_lt [1, 1, 1, 1, 1, 1, 1, 1, 1, 1, 1, 0] [] lf))))))) := by kernel_rfl
theorem lt_C13 (s odd : ByteArray) (K : Nat) (Φ : Ex → St → Prop) :
  (Holds C P 107 [] K Φ (cutAt C w_lt b_lt [1, 1, 1, 1, 1, 1, 1, 1, 1, 1, 1, 0] (S_lt13 s odd) (after C w_lt b_lt [1, 1, 1, 1, 1, 1, 1, 1, 1, 1, 1, 0] [] lf))) =
  (Fun W.C W.P (22 : Nat) [(AV.v (Value.string odd))] [] (AV.tup [(AV.arr (32 : Nat) (1 : Nat) (fun (k : Nat) => (AV.v (Value.int IntKind.u8 (((Sp.sumVal (Array.toList (ByteArray.data odd)) k) : Nat) : Int))))), (AV.v (Value.int IntKind.i64 (W.errV (Sp.okL (Array.toList (ByteArray.data odd))))))]) [] ∧
 ((((32 : Nat) = (32 : Nat)) ∧ (((1 : Nat) = (1 : Nat)) ∧ (∀ (i : Nat), ((i < (32 : Nat)) → ((true = true) ∧ (Bool.true = true)))))) ∧
 ((((W.errV (Sp.okL (Array.toList (ByteArray.data odd)))) != (0 : Int)) = true → 
 ((true = true → 
  ((((W.errV (Sp.okL (Array.toList (ByteArray.data odd)))) == (3 : Int)) = true → 
   ((∀ (i : Nat), ((i < (32 : Nat)) → ((IntKind.u8 = IntKind.u8) ∧ (IntKind.u8 = IntKind.u8)))) ∧
    (((List.all (List.range (32 : Nat)) (fun (i : Nat) => ((((Sp.sumVal (Array.toList (ByteArray.data odd)) i) : Nat) : Int) == (0 : Int)))) = true → 
    (Φ Ex.ret (St.mk [((6 : Nat), (AV.sb (!((ByteArray.toList odd) == (ByteArray.toList s))))), ((7 : Nat), (AV.sb true)), ((8 : Nat), (AV.v (Value.string s))), ((14 : Nat), (AV.v (Value.string odd))), ((15 : Nat), (AV.ptr (15 : Nat) [])), ((16 : Nat), (AV.v (Value.int IntKind.i64 (W.errV (Sp.okL (Array.toList (ByteArray.data odd))))))), ((84 : Nat), (AV.v (Value.bool true)))] [((15 : Nat), (Blk.c (AV.arr (32 : Nat) (1 : Nat) (fun (k : Nat) => (AV.v (Value.int IntKind.u8 (((Sp.sumVal (Array.toList (ByteArray.data odd)) k) : Nat) : Int)))))))] [(15 : Nat)]))) ∧
    ((List.all (List.range (32 : Nat)) (fun (i : Nat) => ((((Sp.sumVal (Array.toList (ByteArray.data odd)) i) : Nat) : Int) == (0 : Int)))) = false → 
    (Φ Ex.ret (St.mk [((6 : Nat), (AV.v (Value.bool false))), ((7 : Nat), (AV.sb true)), ((8 : Nat), (AV.v (Value.string s))), ((14 : Nat), (AV.v (Value.string odd))), ((15 : Nat), (AV.ptr (15 : Nat) [])), ((16 : Nat), (AV.v (Value.int IntKind.i64 (W.errV (Sp.okL (Array.toList (ByteArray.data odd))))))), ((84 : Nat), (AV.v (Value.bool true)))] [((15 : Nat), (Blk.c (AV.arr (32 : Nat) (1 : Nat) (fun (k : Nat) => (AV.v (Value.int IntKind.u8 (((Sp.sumVal (Array.toList (ByteArray.data odd)) k) : Nat) : Int)))))))] [(15 : Nat)])))))) ∧
   (((W.errV (Sp.okL (Array.toList (ByteArray.data odd)))) == (3 : Int)) = false → 
   (Φ Ex.ret (St.mk [((6 : Nat), (AV.v (Value.bool false))), ((7 : Nat), (AV.sb true)), ((8 : Nat), (AV.v (Value.string s))), ((14 : Nat), (AV.v (Value.string odd))), ((15 : Nat), (AV.ptr (15 : Nat) [])), ((16 : Nat), (AV.v (Value.int IntKind.i64 (W.errV (Sp.okL (Array.toList (ByteArray.data odd))))))), ((84 : Nat), (AV.v (Value.bool true)))] [((15 : Nat), (Blk.c (AV.arr (32 : Nat) (1 : Nat) (fun (k : Nat) => (AV.v (Value.int IntKind.u8 (((Sp.sumVal (Array.toList (ByteArray.data odd)) k) : Nat) : Int)))))))] [(15 : Nat)]))))) ∧
  (true = false → 
  (Φ Ex.ret (St.mk [((6 : Nat), (AV.v (Value.bool false))), ((7 : Nat), (AV.sb true)), ((8 : Nat), (AV.v (Value.string s))), ((14 : Nat), (AV.v (Value.string odd))), ((15 : Nat), (AV.ptr (15 : Nat) [])), ((16 : Nat), (AV.v (Value.int IntKind.i64 (W.errV (Sp.okL (Array.toList (ByteArray.data odd))))))), ((84 : Nat), (AV.v (Value.bool true)))] [((15 : Nat), (Blk.c (AV.arr (32 : Nat) (1 : Nat) (fun (k : Nat) => (AV.v (Value.int IntKind.u8 (((Sp.sumVal (Array.toList (ByteArray.data odd)) k) : Nat) : Int)))))))] [(15 : Nat)]))))) ∧
 (((W.errV (Sp.okL (Array.toList (ByteArray.data odd)))) != (0 : Int)) = false → 
 ((true = true → 
  (Fun W.C W.P (13 : Nat) [(AV.arr (32 : Nat) (1 : Nat) (fun (k : Nat) => (AV.v (Value.int IntKind.u8 (((Sp.sumVal (Array.toList (ByteArray.data odd)) k) : Nat) : Int)))))] [] (AV.v (Value.string (W.hexB (bytesL (32 : Nat) (fun (k : Nat) => (AV.v (Value.int IntKind.u8 (((Sp.sumVal (Array.toList (ByteArray.data odd)) k) : Nat) : Int)))))))) [] ∧
   (True ∧
   (Φ Ex.ret (St.mk [((6 : Nat), (AV.sb ((ByteArray.toList (W.hexB (bytesL (32 : Nat) (fun (k : Nat) => (AV.v (Value.int IntKind.u8 (((Sp.sumVal (Array.toList (ByteArray.data odd)) k) : Nat) : Int))))))) == (ByteArray.toList odd)))), ((7 : Nat), (AV.sb true)), ((8 : Nat), (AV.v (Value.string s))), ((14 : Nat), (AV.v (Value.string odd))), ((15 : Nat), (AV.ptr (15 : Nat) [])), ((16 : Nat), (AV.v (Value.int IntKind.i64 (W.errV (Sp.okL (Array.toList (ByteArray.data odd))))))), ((84 : Nat), (AV.v (Value.bool false)))] [((15 : Nat), (Blk.c (AV.arr (32 : Nat) (1 : Nat) (fun (k : Nat) => (AV.v (Value.int IntKind.u8 (((Sp.sumVal (Array.toList (ByteArray.data odd)) k) : Nat) : Int)))))))] [(15 : Nat)]))))) ∧
  (true = false → 
  (Φ Ex.ret (St.mk [((6 : Nat), (AV.v (Value.bool false))), ((7 : Nat), (AV.sb true)), ((8 : Nat), (AV.v (Value.string s))), ((14 : Nat), (AV.v (Value.string odd))), ((15 : Nat), (AV.ptr (15 : Nat) [])), ((16 : Nat), (AV.v (Value.int IntKind.i64 (W.errV (Sp.okL (Array.toList (ByteArray.data odd))))))), ((84 : Nat), (AV.v (Value.bool false)))] [((15 : Nat), (Blk.c (AV.arr (32 : Nat) (1 : Nat) (fun (k : Nat) => (AV.v (Value.int IntKind.u8 (((Sp.sumVal (Array.toList (ByteArray.data odd)) k) : Nat) : Int)))))))] [(15 : Nat)])))))))) := by kernel_rfl

theorem hexB_list (l : List Nat) : (hexB l).data.toList = printL l := by
  unfold hexB
  rw [hexL_printL]
theorem hexB_size {l : List Nat} (h : l.length = 32) : (hexB l).size = 64 := by
  rw [size_len, hexB_list, printL_len, h]
theorem hexB_inj {l m : List Nat} (hl : l.length = 32) (hm : m.length = 32) (sl : Small l) (sm : Small m) (h : printL l = printL m) : l = m := by
  apply List.ext_getElem (by rw [hl, hm])
  intro i h1 h2
  have e1 := (parse_print sl hl).2 i (by omega)
  have e2 := (parse_print sm hm).2 i (by omega)
  rw [h, e2] at e1
  rw [List.getD_eq_getElem?_getD, List.getD_eq_getElem?_getD, List.getElem?_eq_getElem h1, List.getElem?_eq_getElem h2] at e1
  exact e1.symm
theorem str_list (a b : ByteArray) : (a.toList == b.toList) = decide (a.data.toList = b.data.toList) := by
  rw [ByteArray.toList_eq, ByteArray.toList_eq]
  by_cases e : a.data.toList = b.data.toList
  · rw [e]; simp
  · rw [decide_eq_false e]
    exact beq_eq_false_iff_ne.2 e
theorem str_hex {l m : List Nat} (hl : l.length = 32) (hm : m.length = 32) (sl : Small l) (sm : Small m) : ((hexB l).toList == (hexB m).toList) = decide (l = m) := by
  rw [str_list, hexB_list, hexB_list]
  by_cases e : l = m
  · rw [e]; simp
  · rw [decide_eq_false e, decide_eq_false fun h => e (hexB_inj hl hm sl sm h)]
theorem all_eq {l m : List Nat} {n : Nat} (hl : l.length = n) (hm : m.length = n) : ((List.range n).all fun i => ((l.getD i 0 : Nat) : Int) == ((m.getD i 0 : Nat) : Int)) = decide (l = m) := by
  by_cases e : l = m
  · rw [e]; simp
  · rw [decide_eq_false e]
    cases h : ((List.range n).all fun i => ((l.getD i 0 : Nat) : Int) == ((m.getD i 0 : Nat) : Int)) with
    | false => rfl
    | true =>
      simp only [List.all_eq_true, List.mem_range, beq_iff_eq] at h
      refine absurd (List.ext_getElem (by rw [hl, hm]) fun i h1 h2 => ?_) e
      have := h i (by omega)
      rw [List.getD_eq_getElem?_getD, List.getD_eq_getElem?_getD, List.getElem?_eq_getElem h1, List.getElem?_eq_getElem h2] at this
      exact Int.ofNat_inj.1 this
theorem bytesL_rowL {l : List Nat} {n : Nat} (h : l.length = n) : bytesL n (rowL l) = l := bytesL_of h.symm fun _ _ => rfl

theorem lt_tail (s odd : ByteArray) (hs : okL s.data.toList = true) : Holds C P 107 [] 0 (FunPost C 107 0 [.tmp 6] (.sb true) []) (cutAt C w_lt b_lt [1, 1, 1, 1, 1, 1, 1, 1, 1, 1, 1, 0] (S_lt13 s odd) (after C w_lt b_lt [1, 1, 1, 1, 1, 1, 1, 1, 1, 1, 1, 0] [] lf)) := by
  refine of_eq (lt_C13 s odd 0 _) ?_
  have hp := parse_fun odd
  have hb : B8 32 (fun k => u8 (sumVal odd.data.toList k)) := fun k hk => ⟨rfl, valL_lt _ hk⟩
  cases ho : okL odd.data.toList with
  | false =>
    rw [ho] at hp
    refine ⟨hp, ⟨rfl, rfl, fun _ _ => ⟨rfl, rfl⟩⟩, fun _ => ⟨fun _ => ⟨fun _ => ⟨fun _ _ => ⟨rfl, rfl⟩, fun _ => post_tmp rfl (sm_sb ?_), fun h => ?_⟩, fun h => absurd h (by decide)⟩, nofun⟩, fun h => absurd h (by decide)⟩
    · rw [str_list, decide_eq_false]
      · rfl
      · intro e
        rw [e, hs] at ho
        cases ho
    · simp only [sumVal_not ho] at h
      simp at h
  | true =>
    rw [ho] at hp
    refine ⟨hp, ⟨rfl, rfl, fun _ _ => ⟨rfl, rfl⟩⟩, fun h => absurd h (by decide), fun _ => ⟨fun _ => ⟨print_call hb, trivial, post_tmp rfl (sm_sb ?_)⟩, nofun⟩⟩
    rw [str_list, hexB_list, decide_eq_true]
    refine print_parse ho (bytesL_len _ _) fun k hk => ?_
    rw [bytesL_get hk]
    rfl

theorem lt_fun (key : List Nat) (put : ByteArray) (w : List Nat) (hk : key.length = 32) (hs : Small key) (hw : Small w) :
    Fun C P F_lt [.arr 32 1 (rowL key), .v (.string put), .arr 3 1 (rowL w)] [] (.sb true) [] := by
  refine in_lt (W := w_lt) rfl 0 (by simp) rfl (fun id h => absurd rfl h) ?_
  have hpr := print_call (f := rowL key) (B8_row hs 32)
  have w0 := getD_small hw 0
  have w1 := getD_small hw 1
  have w2 := getD_small hw 2
  refine of_eq (lt_A key put w 0 _) ⟨sanity_fun, trivial, fun _ => post_tmp rfl (sm_same rfl), fun h6 => ⟨hpr, trivial, cut_ok (S2 := S_lt5 key put w) (ent_of [(3, 3), (5, 5)] rfl (tm_cons rfl (sm_same rfl) (tm_cons rfl (sm_ptr rfl) (tm_cons rfl (sm_ptr rfl) (tm_cons rfl (sm_b rfl) (tm_cons rfl (sm_same rfl) (tm_cons rfl (sm_v (by rw [bytesL_rowL hk])) tm_nil)))))) (hp_cons rfl rfl (sm_same rfl) (hp_cons rfl rfl (sm_same rfl) hp_nil))) ?_⟩⟩
  simp only [gt_iff_lt, decide_eq_false_iff_not] at h6
  have hpa := parse_fun (hexB key)
  obtain ⟨ok1, val1⟩ := parse_print hs hk
  have hlist := hexB_list key
  refine of_eq (lt_C5 key put w 0 _) ⟨hpa, ⟨rfl, rfl, fun _ _ => ⟨rfl, rfl⟩⟩, ⟨rfl, rfl, fun _ _ => ⟨rfl, rfl⟩⟩, (by first | omega | decide | (unfold I64; omega)), (by first | omega | decide | (unfold I64; omega)), (by first | omega | decide | (unfold I64; omega)), (by first | omega | decide | (unfold I64; omega)), ?_⟩
  obtain ⟨b, hb, sb, hbk⟩ : ∃ b : List Nat, b.length = 32 ∧ Small b ∧ ∀ i, i < 32 → b.getD i 0 = if i = w.getD 0 0 % 32 then w.getD 1 0 else key.getD i 0 := by
    refine ⟨key.set (w.getD 0 0 % 32) (w.getD 1 0), by rw [List.length_set, hk], fun x hx => ?_, fun i hi => ?_⟩
    · rcases List.mem_or_eq_of_mem_set hx with h | h
      · exact hs x h
      · rw [h]; exact w1
    · simp only [List.getD_eq_getElem?_getD, List.getElem?_set]
      by_cases e : w.getD 0 0 % 32 = i
      · rw [if_pos (by simpa [List.getD_eq_getElem?_getD] using e), if_pos (by rw [hk]; simpa [List.getD_eq_getElem?_getD] using (show w.getD 0 0 % 32 < 32 by omega)), if_pos (by simpa [List.getD_eq_getElem?_getD] using e.symm)]
        rfl
      · rw [if_neg (by simpa [List.getD_eq_getElem?_getD] using e), if_neg (fun h => e (by simpa [List.getD_eq_getElem?_getD] using h.symm))]
  refine cut_ok (S2 := S_lt8 key put w b) (ent_of [(3, 3), (5, 5), (9, 9), (11, 11)] rfl (tm_cons rfl (sm_same rfl) (tm_cons rfl (sm_ptr rfl) (tm_cons rfl (sm_ptr rfl) (tm_cons rfl (sm_same rfl) (tm_cons rfl (sm_same rfl) (tm_cons rfl (sm_same rfl) (tm_cons rfl (sm_ptr rfl) (tm_cons rfl (sm_int (by rw [hlist, ok1]; rfl)) (tm_cons rfl (sm_ptr rfl) tm_nil))))))))) (hp_cons rfl rfl (sm_same rfl) (hp_cons rfl rfl (sm_same rfl) (hp_cons rfl rfl (sm_arr fun i hi => ?_) (hp_cons rfl rfl (sm_arr fun i hi => ?_) hp_nil))))) ?_
  · rw [hlist, val1 i hi]; rfl
  · show _ = u8 (b.getD i 0)
    rw [hbk i hi]
    by_cases e : i = w.getD 0 0 % 32
    · rw [if_pos e, if_pos e]
    · rw [if_neg e, if_neg e]
  have hpb := print_call (f := rowL b) (B8_row sb 32)
  refine of_eq (lt_C8 key put w b 0 _) ?_
  rw [all_eq hk hb, all_eq hk hk, bytesL_rowL hb, str_hex hb hk sb hs]
  rw [bytesL_rowL hb] at hpb
  obtain ⟨en, hen⟩ : ∃ en : Nat, min ((w.getD 2 0 % 65 + w.getD 1 0 % 5 : Nat) : Int) 64 = (en : Int) := ⟨min (w.getD 2 0 % 65 + w.getD 1 0 % 5) 64, by omega⟩
  have hsz := hexB_size hk
  refine bne_then (by rw [hsz]; rfl) ⟨nofun, fun _ => ⟨fun _ _ => ⟨rfl, rfl⟩, not_then (by simp) ⟨hpb, trivial, fun _ _ => ⟨rfl, rfl⟩, not_then ?_ ⟨(by first | omega | decide | (unfold I64; omega)), (by first | omega | decide | (unfold I64; omega)), (by first | omega | decide | (unfold I64; omega)), (by first | omega | decide | (unfold I64; omega)), (by first | omega | decide | (unfold I64; omega)), (by first | omega | decide | (unfold I64; omega)), (by first | omega | decide | (unfold I64; omega)), cut_ok (S2 := S_lt12 (hexB key) put (w.getD 2 0 % 65) en) (ent_of [] rfl (tm_cons rfl (sm_same rfl) (tm_cons rfl (sm_same rfl) (tm_cons rfl (sm_same rfl) (tm_cons rfl (sm_same rfl) (tm_cons rfl (sm_same rfl) (tm_cons rfl (sm_int hen) tm_nil)))))) hp_nil) ?_⟩⟩⟩⟩
  · by_cases e : key = b
    · rw [e]; simp
    · rw [decide_eq_false e, decide_eq_false fun h => e h.symm]; rfl
  refine of_eq (lt_C12 (hexB key) put _ en 0 _) ?_
  refine ⟨(by rw [hsz]; omega), ?_, (by rw [hsz]; omega), ?_, cut_ok (S2 := S_lt13 (hexB key) ((((hexB key).extract 0 (w.getD 2 0 % 65)) ++ put) ++ ((hexB key).extract en (hexB key).size))) (ent_of [] rfl (tm_cons rfl (sm_same rfl) (tm_cons rfl (sm_same rfl) (tm_cons rfl (sm_same rfl) (tm_cons rfl (sm_same rfl) tm_nil)))) hp_nil) (lt_tail _ _ (by rw [hlist]; exact ok1))⟩
  · rw [ByteArray.size_extract, hsz]; omega
  · rw [ByteArray.size_append, ByteArray.size_extract, ByteArray.size_extract, hsz]; omega

theorem lt_law {x0 x1 x2 : AV} (h0 : Typed C.tt 6 27 x0) (h1 : Typed C.tt 6 9 x1) (h2 : Typed C.tt 6 41 x2) : Fun C P F_lt [x0, x1, x2] [] (.sb true) [] := by
  obtain ⟨key, hs, hk, s0⟩ := typed_arrB (e := 5) (m := 32) rfl rfl rfl h0
  obtain ⟨put, rfl, _⟩ : ∃ s : ByteArray, x1 = .v (.string s) ∧ s.size ≤ maxLen := h1
  obtain ⟨w, hws, hw, s2⟩ := typed_arrB (e := 5) (m := 3) rfl rfl rfl h2
  exact (lt_fun key put w hk hs hws).sim ⟨s0, sm_same rfl, s2, trivial⟩ trivial
end Go.Bu.W

