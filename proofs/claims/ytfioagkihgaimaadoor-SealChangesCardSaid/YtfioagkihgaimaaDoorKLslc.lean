/- If a byte of sealed bytes is another one, or some are missing or more, they are refused, unless they have their right tag. -/
import Derived.Test.YtfioagkihgaimaaDoorK17
namespace Go.Bu.W
open Sp
def w_slc : Way := wayU [0, 1, 2, 3, 5, 6, 7, 8, 9, 10, 11, 23, 29, 35, 58] 89 [3,4,7,14]
def S_slc3 (key x w : List Nat) : St := { tm := [(3, .ptr 3 []), (5, .ptr 5 []), (6, .sb false), (7, .sb true), (8, dB false x)], hp := [(3, .c (kyA key)), (5, .c (.arr 3 1 (rowL w)))], seen := [3, 5] }
def S_slc4 (key x c w : List Nat) : St := { tm := [(3, .ptr 3 []), (5, .ptr 5 []), (6, .sb false), (7, .sb true), (8, dB false x), (9, dB false c)], hp := [(3, .c (kyA key)), (5, .c (.arr 3 1 (rowL w)))], seen := [3, 5] }
def S_slc7 (key c w : List Nat) : St := { tm := [(3, .ptr 3 []), (5, .ptr 5 []), (6, .sb false), (7, .sb true), (9, dB false c), (10, .sl 10 [] 0 c.length c.length false 1)], hp := [(3, .c (kyA key)), (5, .c (.arr 3 1 (rowL w))), (10, .c (.arr c.length 1 (rowL c)))], seen := [3, 5, 10] }
def S_slc14 (key c odd : List Nat) : St := { tm := [(3, .ptr 3 []), (7, .sb true), (9, dB false c), (10, dB false odd)], hp := [(3, .c (kyA key))], seen := [3] }

theorem slc_A (key : List Nat) (ex : Bool) (b w : List Nat) (K : Nat) (Φ : Ex → St → Prop) :
  (Holds C P 89 [] K Φ (vc C w_slc b_slc [] (start [kyA key, dB ex b, .arr 3 1 (rowL w)] []) lf)) =
  (Fun W.C W.P (10 : Nat) [] [] (AV.sb true) [] ∧
 (True ∧
 (Fun W.C W.P (11 : Nat) [(AV.dat (List.length b) ex (1 : Nat) (rowL b))] [] (AV.sl (0 : Nat) [] (0 : Nat) (List.length (List.take (200 : Nat) (bytesL (List.length b) (rowL b)))) (List.length (List.take (200 : Nat) (bytesL (List.length b) (rowL b)))) false (1 : Nat)) [((0 : Nat), (Blk.c (AV.arr (List.length (List.take (200 : Nat) (bytesL (List.length b) (rowL b)))) (1 : Nat) (rowL (List.take (200 : Nat) (bytesL (List.length b) (rowL b)))))))] ∧
 (∃ (S2 : St), Ent W.C (89 : Nat) [] K (St.mk [((0 : Nat), (AV.arr (32 : Nat) (1 : Nat) (rowL key))), ((1 : Nat), (AV.dat (List.length b) ex (1 : Nat) (rowL b))), ((2 : Nat), (AV.arr (3 : Nat) (1 : Nat) (rowL w))), ((3 : Nat), (AV.ptr (3 : Nat) [])), ((5 : Nat), (AV.ptr (5 : Nat) [])), ((6 : Nat), (AV.v (Value.bool false))), ((7 : Nat), (AV.sb true)), ((8 : Nat), (AV.sl (14 : Nat) [] (0 : Nat) (List.length (List.take (200 : Nat) (bytesL (List.length b) (rowL b)))) (List.length (List.take (200 : Nat) (bytesL (List.length b) (rowL b)))) false (1 : Nat)))] [((3 : Nat), (Blk.c (AV.arr (32 : Nat) (1 : Nat) (rowL key)))), ((5 : Nat), (Blk.c (AV.arr (3 : Nat) (1 : Nat) (rowL w)))), ((14 : Nat), (Blk.c (AV.arr (List.length (List.take (200 : Nat) (bytesL (List.length b) (rowL b)))) (1 : Nat) (rowL (List.take (200 : Nat) (bytesL (List.length b) (rowL b)))))))] [(14 : Nat), (5 : Nat), (3 : Nat)]) S2 ∧ Holds W.C W.P (89 : Nat) [] K Φ (cutAt W.C w_slc b_slc [1, 1, 1, 0] S2 (after W.C w_slc b_slc [1, 1, 1, 0] [] lf)))))) := by kernel_rfl
theorem slc_C3 (key x w : List Nat) (K : Nat) (Φ : Ex → St → Prop) :
  (Holds C P 89 [] K Φ (cutAt C w_slc b_slc [1, 1, 1, 0] (S_slc3 key x w) (after C w_slc b_slc [1, 1, 1, 0] [] lf))) =
  (Fun W.C W.P (12 : Nat) [(AV.arr (32 : Nat) (1 : Nat) (rowL key)), (AV.v (Value.int IntKind.i64 (9 : Int))), (AV.dat (List.length x) false (1 : Nat) (rowL x))] [] (AV.sl (0 : Nat) [] (0 : Nat) (List.length (W.sealL (bytesL (32 : Nat) (rowL key)) (9 : Int) (datL (AV.dat (List.length x) false (1 : Nat) (rowL x))))) (List.length (W.sealL (bytesL (32 : Nat) (rowL key)) (9 : Int) (datL (AV.dat (List.length x) false (1 : Nat) (rowL x))))) false (1 : Nat)) [((0 : Nat), (Blk.c (AV.arr (List.length (W.sealL (bytesL (32 : Nat) (rowL key)) (9 : Int) (datL (AV.dat (List.length x) false (1 : Nat) (rowL x))))) (1 : Nat) (rowL (W.sealL (bytesL (32 : Nat) (rowL key)) (9 : Int) (datL (AV.dat (List.length x) false (1 : Nat) (rowL x))))))))] ∧
 (∃ (S2 : St), Ent W.C (89 : Nat) [] K (St.mk [((3 : Nat), (AV.ptr (3 : Nat) [])), ((5 : Nat), (AV.ptr (5 : Nat) [])), ((6 : Nat), (AV.sb false)), ((7 : Nat), (AV.sb true)), ((8 : Nat), (AV.dat (List.length x) false (1 : Nat) (rowL x))), ((9 : Nat), (AV.sl (17 : Nat) [] (0 : Nat) (List.length (W.sealL (bytesL (32 : Nat) (rowL key)) (9 : Int) (datL (AV.dat (List.length x) false (1 : Nat) (rowL x))))) (List.length (W.sealL (bytesL (32 : Nat) (rowL key)) (9 : Int) (datL (AV.dat (List.length x) false (1 : Nat) (rowL x))))) false (1 : Nat)))] [((3 : Nat), (Blk.c (AV.arr (32 : Nat) (1 : Nat) (rowL key)))), ((5 : Nat), (Blk.c (AV.arr (3 : Nat) (1 : Nat) (rowL w)))), ((17 : Nat), (Blk.c (AV.arr (List.length (W.sealL (bytesL (32 : Nat) (rowL key)) (9 : Int) (datL (AV.dat (List.length x) false (1 : Nat) (rowL x))))) (1 : Nat) (rowL (W.sealL (bytesL (32 : Nat) (rowL key)) (9 : Int) (datL (AV.dat (List.length x) false (1 : Nat) (rowL x))))))))] [(17 : Nat), (3 : Nat), (5 : Nat)]) S2 ∧ Holds W.C W.P (89 : Nat) [] K Φ (cutAt W.C w_slc b_slc [1, 1, 1, 1, 0, 0] S2 (after W.C w_slc b_slc [1, 1, 1, 1, 0, 0] [] lf)))) := by kernel_rfl
theorem slc_C4 (key x c w : List Nat) (K : Nat) (Φ : Ex → St → Prop) :
  (Holds C P 89 [] K Φ (cutAt C w_slc b_slc [1, 1, 1, 1, 0, 0] (S_slc4 key x c w) (after C w_slc b_slc [1, 1, 1, 1, 0, 0] [] lf))) =
  ((I64 ((((List.length x) + 32) : Nat) : Int)) ∧
 ((((((List.length c) : Nat) : Int) != ((((List.length x) + 32) : Nat) : Int)) = true → 
 (Φ Ex.ret (St.mk [((3 : Nat), (AV.ptr (3 : Nat) [])), ((5 : Nat), (AV.ptr (5 : Nat) [])), ((6 : Nat), (AV.v (Value.bool false))), ((7 : Nat), (AV.sb true)), ((8 : Nat), (AV.dat (List.length x) false (1 : Nat) (rowL x))), ((9 : Nat), (AV.dat (List.length c) false (1 : Nat) (rowL c))), ((23 : Nat), (AV.v (Value.bool true)))] [((3 : Nat), (Blk.c (AV.arr (32 : Nat) (1 : Nat) (rowL key)))), ((5 : Nat), (Blk.c (AV.arr (3 : Nat) (1 : Nat) (rowL w))))] [(3 : Nat), (5 : Nat)]))) ∧
 (((((List.length c) : Nat) : Int) != ((((List.length x) + 32) : Nat) : Int)) = false → 
 (((0 : Nat) = (0 : Nat)) ∧
  ((((0 : Nat) = (0 : Nat)) ∨ ((0 : Nat) < (List.length c))) ∧
  (((((0 : Nat) + (List.length c)) * (1 : Nat)) ≤ (140737488355328 : Nat)) ∧
  (∃ (S2 : St), Ent W.C (89 : Nat) [] K (St.mk [((3 : Nat), (AV.ptr (3 : Nat) [])), ((5 : Nat), (AV.ptr (5 : Nat) [])), ((6 : Nat), (AV.sb false)), ((7 : Nat), (AV.sb true)), ((8 : Nat), (AV.dat (List.length x) false (1 : Nat) (rowL x))), ((9 : Nat), (AV.dat (List.length c) false (1 : Nat) (rowL c))), ((10 : Nat), (AV.sl (26 : Nat) [] (0 : Nat) ((0 : Nat) + (List.length c)) ((0 : Nat) + (List.length c)) false (1 : Nat))), ((23 : Nat), (AV.v (Value.bool false)))] [((3 : Nat), (Blk.c (AV.arr (32 : Nat) (1 : Nat) (rowL key)))), ((5 : Nat), (Blk.c (AV.arr (3 : Nat) (1 : Nat) (rowL w)))), ((24 : Nat), (Blk.c (AV.st []))), ((26 : Nat), (Blk.c (AV.arr ((0 : Nat) + (List.length c)) (1 : Nat) (cat (0 : Nat) (fun (i : Nat) => (AV.v (Value.tuple (List.toArray [])))) (rowL c)))))] [(26 : Nat), (24 : Nat), (3 : Nat), (5 : Nat)]) S2 ∧ Holds W.C W.P (89 : Nat) [] K Φ (cutAt W.C w_slc b_slc [1, 1, 1, 1, 1, 1, 0, 0] S2 (after W.C w_slc b_slc [1, 1, 1, 1, 1, 1, 0, 0] [] lf))))))))) := by kernel_rfl
theorem slc_C7 (key c w : List Nat) (K : Nat) (Φ : Ex → St → Prop) :
  (Holds C P 89 [] K Φ (cutAt C w_slc b_slc [1, 1, 1, 1, 1, 1, 0, 0] (S_slc7 key c w) (after C w_slc b_slc [1, 1, 1, 1, 1, 1, 0, 0] [] lf))) =
  ((((0 : Int) ≤ (0 : Int)) ∧ ((0 : Int) < (3 : Int))) ∧
 (((3 : Int) ≠ (0 : Int)) ∧
 (((((((List.getD w (0 : Nat) (0 : Nat)) % 3) : Nat) : Int) == (0 : Int)) = true → 
 ((((0 : Int) ≤ (1 : Int)) ∧ ((1 : Int) < (3 : Int))) ∧
  ((I64 (((List.getD w (1 : Nat) (0 : Nat)) : Nat) : Int)) ∧
  ((I64 (((256 * (List.getD w (1 : Nat) (0 : Nat))) : Nat) : Int)) ∧
  ((((0 : Int) ≤ (2 : Int)) ∧ ((2 : Int) < (3 : Int))) ∧
  ((I64 (((List.getD w (2 : Nat) (0 : Nat)) : Nat) : Int)) ∧
  ((I64 ((((256 * (List.getD w (1 : Nat) (0 : Nat))) + (List.getD w (2 : Nat) (0 : Nat))) : Nat) : Int)) ∧
  (((((List.length c) : Nat) : Int) ≠ (0 : Int)) ∧
  ((((0 : Int) ≤ (((((256 * (List.getD w (1 : Nat) (0 : Nat))) + (List.getD w (2 : Nat) (0 : Nat))) % (List.length c)) : Nat) : Int)) ∧ ((((((256 * (List.getD w (1 : Nat) (0 : Nat))) + (List.getD w (2 : Nat) (0 : Nat))) % (List.length c)) : Nat) : Int) < (((List.length c) : Nat) : Int))) ∧
  ((((0 : Int) ≤ (2 : Int)) ∧ ((2 : Int) < (3 : Int))) ∧
  (((255 : Int) ≠ (0 : Int)) ∧
  ((((0 : Int) ≤ (((((256 * (List.getD w (1 : Nat) (0 : Nat))) + (List.getD w (2 : Nat) (0 : Nat))) % (List.length c)) : Nat) : Int)) ∧ ((((((256 * (List.getD w (1 : Nat) (0 : Nat))) + (List.getD w (2 : Nat) (0 : Nat))) % (List.length c)) : Nat) : Int) < (((List.length c) : Nat) : Int))) ∧
  (∃ (S2 : St), Ent W.C (89 : Nat) [] K (St.mk [((3 : Nat), (AV.ptr (3 : Nat) [])), ((5 : Nat), (AV.ptr (5 : Nat) [])), ((6 : Nat), (AV.sb false)), ((7 : Nat), (AV.sb true)), ((9 : Nat), (AV.dat (List.length c) false (1 : Nat) (rowL c))), ((10 : Nat), (AV.sl (10 : Nat) [] (0 : Nat) (List.length c) (List.length c) false (1 : Nat))), ((11 : Nat), (AV.v (Value.int IntKind.i64 (((((256 * (List.getD w (1 : Nat) (0 : Nat))) + (List.getD w (2 : Nat) (0 : Nat))) % (List.length c)) : Nat) : Int)))), ((29 : Nat), (AV.v (Value.int IntKind.u8 ((((List.getD w (0 : Nat) (0 : Nat)) % 3) : Nat) : Int)))), ((35 : Nat), (AV.v (Value.bool true)))] [((3 : Nat), (Blk.c (AV.arr (32 : Nat) (1 : Nat) (rowL key)))), ((5 : Nat), (Blk.c (AV.arr (3 : Nat) (1 : Nat) (rowL w)))), ((10 : Nat), (Blk.c (AV.arr (List.length c) (1 : Nat) (fun (j : Nat) => (if (j = ((0 : Nat) + (((256 * (List.getD w (1 : Nat) (0 : Nat))) + (List.getD w (2 : Nat) (0 : Nat))) % (List.length c)))) then (AV.v (Value.int IntKind.u8 (bXor IntKind.u8 (((List.getD c ((0 : Nat) + (((256 * (List.getD w (1 : Nat) (0 : Nat))) + (List.getD w (2 : Nat) (0 : Nat))) % (List.length c))) (0 : Nat)) : Nat) : Int) (IntKind.wrap IntKind.u8 (((1 + ((List.getD w (2 : Nat) (0 : Nat)) % 255)) : Nat) : Int))))) else (AV.v (Value.int IntKind.u8 (((List.getD c j (0 : Nat)) : Nat) : Int))))))))] [(3 : Nat), (5 : Nat), (10 : Nat)]) S2 ∧ Holds W.C W.P (89 : Nat) [] K Φ (cutAt W.C w_slc b_slc [1, 1, 1, 1, 1, 1, 1, 0] S2 (after W.C w_slc b_slc [1, 1, 1, 1, 1, 1, 1, 0] [] lf))))))))))))))) ∧
 ((((((List.getD w (0 : Nat) (0 : Nat)) % 3) : Nat) : Int) == (0 : Int)) = false → 
 (((((((List.getD w (0 : Nat) (0 : Nat)) % 3) : Nat) : Int) == (1 : Int)) = true → 
  ((I64 ((((List.length c) : Nat) : Int) - (1 : Int))) ∧
   ((((0 : Int) ≤ (1 : Int)) ∧ ((1 : Int) < (3 : Int))) ∧
   ((I64 (((List.getD w (1 : Nat) (0 : Nat)) : Nat) : Int)) ∧
   (((32 : Int) ≠ (0 : Int)) ∧
   ((I64 (((((List.length c) : Nat) : Int) - (1 : Int)) - ((((List.getD w (1 : Nat) (0 : Nat)) % 32) : Nat) : Int))) ∧
   ((((0 : Int) ≤ (0 : Int)) ∧ (((0 : Int) ≤ (((((List.length c) : Nat) : Int) - (1 : Int)) - ((((List.getD w (1 : Nat) (0 : Nat)) % 32) : Nat) : Int))) ∧ ((((((List.length c) : Nat) : Int) - (1 : Int)) - ((((List.getD w (1 : Nat) (0 : Nat)) % 32) : Nat) : Int)) ≤ (((List.length c) : Nat) : Int)))) ∧
   (∃ (S2 : St), Ent W.C (89 : Nat) [] K (St.mk [((3 : Nat), (AV.ptr (3 : Nat) [])), ((5 : Nat), (AV.ptr (5 : Nat) [])), ((6 : Nat), (AV.sb false)), ((7 : Nat), (AV.sb true)), ((9 : Nat), (AV.dat (List.length c) false (1 : Nat) (rowL c))), ((10 : Nat), (AV.sl (10 : Nat) [] (0 : Nat) (Int.toNat (((((List.length c) : Nat) : Int) - (1 : Int)) - ((((List.getD w (1 : Nat) (0 : Nat)) % 32) : Nat) : Int))) (List.length c) false (1 : Nat))), ((29 : Nat), (AV.v (Value.int IntKind.u8 ((((List.getD w (0 : Nat) (0 : Nat)) % 3) : Nat) : Int)))), ((35 : Nat), (AV.v (Value.bool false))), ((58 : Nat), (AV.v (Value.bool true)))] [((3 : Nat), (Blk.c (AV.arr (32 : Nat) (1 : Nat) (rowL key)))), ((5 : Nat), (Blk.c (AV.arr (3 : Nat) (1 : Nat) (rowL w)))), ((10 : Nat), (Blk.c (AV.arr (List.length c) (1 : Nat) (rowL c))))] [(3 : Nat), (5 : Nat), (10 : Nat)]) S2 ∧ Holds W.C W.P (89 : Nat) [] K Φ (cutAt W.C w_slc b_slc [1, 1, 1, 1, 1, 1, 1, 0] S2 (after W.C w_slc b_slc [1, 1, 1, 1, 1, 1, 1, 0] [] lf)))))))))) ∧
  ((((((List.getD w (0 : Nat) (0 : Nat)) % 3) : Nat) : Int) == (1 : Int)) = false → 
  ((((0 : Int) ≤ (2 : Int)) ∧ ((2 : Int) < (3 : Int))) ∧
   (((((List.length c) + (1 : Nat)) * (1 : Nat)) ≤ (140737488355328 : Nat)) ∧
   (∃ (S2 : St), Ent W.C (89 : Nat) [] K (St.mk [((3 : Nat), (AV.ptr (3 : Nat) [])), ((5 : Nat), (AV.ptr (5 : Nat) [])), ((6 : Nat), (AV.sb false)), ((7 : Nat), (AV.sb true)), ((9 : Nat), (AV.dat (List.length c) false (1 : Nat) (rowL c))), ((10 : Nat), (AV.sl (34 : Nat) [] (0 : Nat) ((List.length c) + (1 : Nat)) ((List.length c) + (1 : Nat)) false (1 : Nat))), ((29 : Nat), (AV.v (Value.int IntKind.u8 ((((List.getD w (0 : Nat) (0 : Nat)) % 3) : Nat) : Int)))), ((35 : Nat), (AV.v (Value.bool false))), ((58 : Nat), (AV.v (Value.bool false)))] [((3 : Nat), (Blk.c (AV.arr (32 : Nat) (1 : Nat) (rowL key)))), ((5 : Nat), (Blk.c (AV.arr (3 : Nat) (1 : Nat) (rowL w)))), ((33 : Nat), (Blk.c (AV.st [(AV.v (Value.int IntKind.u8 (((List.getD w (2 : Nat) (0 : Nat)) : Nat) : Int)))]))), ((34 : Nat), (Blk.c (AV.arr ((List.length c) + (1 : Nat)) (1 : Nat) (cat (List.length c) (fun (i : Nat) => (AV.v (Value.int IntKind.u8 (((List.getD c ((0 : Nat) + i) (0 : Nat)) : Nat) : Int)))) (fun (i : Nat) => (nthD [(AV.v (Value.int IntKind.u8 (((List.getD w (2 : Nat) (0 : Nat)) : Nat) : Int)))] ((0 : Nat) + i) (AV.v (Value.tuple (List.toArray [])))))))))] [(34 : Nat), (33 : Nat), (3 : Nat), (5 : Nat), (10 : Nat)]) S2 ∧ Holds W.C W.P (89 : Nat) [] K Φ (cutAt W.C w_slc b_slc [1, 1, 1, 1, 1, 1, 1, 0] S2 (after W.C w_slc b_slc [1, 1, 1, 1, 1, 1, 1, 0] [] lf))))))))))) := by kernel_rfl
theorem slc_C14 (key c odd : List Nat) (K : Nat) (Φ : Ex → St → Prop) :
  (Holds C P 89 [] K Φ (cutAt C w_slc b_slc [1, 1, 1, 1, 1, 1, 1, 0] (S_slc14 key c odd) (after C w_slc b_slc [1, 1, 1, 1, 1, 1, 1, 0] [] lf))) =
  (Fun W.C W.P (14 : Nat) [(AV.arr (32 : Nat) (1 : Nat) (rowL key)), (AV.v (Value.int IntKind.i64 (9 : Int))), (AV.dat (List.length odd) false (1 : Nat) (rowL odd))] [] (AV.st [(AV.sl (0 : Nat) [] (0 : Nat) (List.length (W.openL (bytesL (32 : Nat) (rowL key)) (9 : Int) (datL (AV.dat (List.length odd) false (1 : Nat) (rowL odd))))) (List.length (W.openL (bytesL (32 : Nat) (rowL key)) (9 : Int) (datL (AV.dat (List.length odd) false (1 : Nat) (rowL odd))))) false (1 : Nat)), (AV.v (Value.int IntKind.i64 (W.openE (bytesL (32 : Nat) (rowL key)) (9 : Int) (datL (AV.dat (List.length odd) false (1 : Nat) (rowL odd))))))]) [((0 : Nat), (Blk.c (AV.arr (List.length (W.openL (bytesL (32 : Nat) (rowL key)) (9 : Int) (datL (AV.dat (List.length odd) false (1 : Nat) (rowL odd))))) (1 : Nat) (rowL (W.openL (bytesL (32 : Nat) (rowL key)) (9 : Int) (datL (AV.dat (List.length odd) false (1 : Nat) (rowL odd))))))))] ∧
 (Fun W.C W.P (16 : Nat) [(AV.arr (32 : Nat) (1 : Nat) (rowL key)), (AV.v (Value.int IntKind.i64 (9 : Int))), (AV.dat (List.length odd) false (1 : Nat) (rowL odd))] [] (AV.sb (W.rightB (bytesL (32 : Nat) (rowL key)) (9 : Int) (datL (AV.dat (List.length odd) false (1 : Nat) (rowL odd))))) [] ∧
 (True ∧
 (((((W.openE (bytesL (32 : Nat) (rowL key)) (9 : Int) (datL (AV.dat (List.length odd) false (1 : Nat) (rowL odd)))) == (0 : Int)) == (W.rightB (bytesL (32 : Nat) (rowL key)) (9 : Int) (datL (AV.dat (List.length odd) false (1 : Nat) (rowL odd))))) = true → 
 (Fun W.C W.P (14 : Nat) [(AV.arr (32 : Nat) (1 : Nat) (rowL key)), (AV.v (Value.int IntKind.i64 (9 : Int))), (AV.dat (List.length c) false (1 : Nat) (rowL c))] [] (AV.st [(AV.sl (0 : Nat) [] (0 : Nat) (List.length (W.openL (bytesL (32 : Nat) (rowL key)) (9 : Int) (datL (AV.dat (List.length c) false (1 : Nat) (rowL c))))) (List.length (W.openL (bytesL (32 : Nat) (rowL key)) (9 : Int) (datL (AV.dat (List.length c) false (1 : Nat) (rowL c))))) false (1 : Nat)), (AV.v (Value.int IntKind.i64 (W.openE (bytesL (32 : Nat) (rowL key)) (9 : Int) (datL (AV.dat (List.length c) false (1 : Nat) (rowL c))))))]) [((0 : Nat), (Blk.c (AV.arr (List.length (W.openL (bytesL (32 : Nat) (rowL key)) (9 : Int) (datL (AV.dat (List.length c) false (1 : Nat) (rowL c))))) (1 : Nat) (rowL (W.openL (bytesL (32 : Nat) (rowL key)) (9 : Int) (datL (AV.dat (List.length c) false (1 : Nat) (rowL c))))))))] ∧
  ((((W.openE (bytesL (32 : Nat) (rowL key)) (9 : Int) (datL (AV.dat (List.length c) false (1 : Nat) (rowL c)))) == (0 : Int)) = true → 
  (Φ Ex.ret (St.mk [((3 : Nat), (AV.ptr (3 : Nat) [])), ((6 : Nat), (AV.sb true)), ((7 : Nat), (AV.sb true)), ((9 : Nat), (AV.dat (List.length c) false (1 : Nat) (rowL c))), ((10 : Nat), (AV.dat (List.length odd) false (1 : Nat) (rowL odd)))] [((3 : Nat), (Blk.c (AV.arr (32 : Nat) (1 : Nat) (rowL key)))), ((72 : Nat), (Blk.c (AV.arr (List.length (W.openL (bytesL (32 : Nat) (rowL key)) (9 : Int) (datL (AV.dat (List.length odd) false (1 : Nat) (rowL odd))))) (1 : Nat) (rowL (W.openL (bytesL (32 : Nat) (rowL key)) (9 : Int) (datL (AV.dat (List.length odd) false (1 : Nat) (rowL odd)))))))), ((82 : Nat), (Blk.c (AV.arr (List.length (W.openL (bytesL (32 : Nat) (rowL key)) (9 : Int) (datL (AV.dat (List.length c) false (1 : Nat) (rowL c))))) (1 : Nat) (rowL (W.openL (bytesL (32 : Nat) (rowL key)) (9 : Int) (datL (AV.dat (List.length c) false (1 : Nat) (rowL c))))))))] [(82 : Nat), (72 : Nat), (3 : Nat)]))) ∧
  (((W.openE (bytesL (32 : Nat) (rowL key)) (9 : Int) (datL (AV.dat (List.length c) false (1 : Nat) (rowL c)))) == (0 : Int)) = false → 
  (Φ Ex.ret (St.mk [((3 : Nat), (AV.ptr (3 : Nat) [])), ((6 : Nat), (AV.v (Value.bool false))), ((7 : Nat), (AV.sb true)), ((9 : Nat), (AV.dat (List.length c) false (1 : Nat) (rowL c))), ((10 : Nat), (AV.dat (List.length odd) false (1 : Nat) (rowL odd)))] [((3 : Nat), (Blk.c (AV.arr (32 : Nat) (1 : Nat) (rowL key)))), ((72 : Nat), (Blk.c (AV.arr (List.length (W.openL (bytesL (32 : Nat) (rowL key)) (9 : Int) (datL (AV.dat (List.length odd) false (1 : Nat) (rowL odd))))) (1 : Nat) (rowL (W.openL (bytesL (32 : Nat) (rowL key)) (9 : Int) (datL (AV.dat (List.length odd) false (1 : Nat) (rowL odd)))))))), ((82 : Nat), (Blk.c (AV.arr (List.length (W.openL (bytesL (32 : Nat) (rowL key)) (9 : Int) (datL (AV.dat (List.length c) false (1 : Nat) (rowL c))))) (1 : Nat) (rowL (W.openL (bytesL (32 : Nat) (rowL key)) (9 : Int) (datL (AV.dat (List.length c) false (1 : Nat) (rowL c))))))))] [(82 : Nat), (72 : Nat), (3 : Nat)])))))) ∧
 ((((W.openE (bytesL (32 : Nat) (rowL key)) (9 : Int) (datL (AV.dat (List.length odd) false (1 : Nat) (rowL odd)))) == (0 : Int)) == (W.rightB (bytesL (32 : Nat) (rowL key)) (9 : Int) (datL (AV.dat (List.length odd) false (1 : Nat) (rowL odd))))) = false → 
 (Φ Ex.ret (St.mk [((3 : Nat), (AV.ptr (3 : Nat) [])), ((6 : Nat), (AV.v (Value.bool false))), ((7 : Nat), (AV.sb true)), ((9 : Nat), (AV.dat (List.length c) false (1 : Nat) (rowL c))), ((10 : Nat), (AV.dat (List.length odd) false (1 : Nat) (rowL odd)))] [((3 : Nat), (Blk.c (AV.arr (32 : Nat) (1 : Nat) (rowL key)))), ((72 : Nat), (Blk.c (AV.arr (List.length (W.openL (bytesL (32 : Nat) (rowL key)) (9 : Int) (datL (AV.dat (List.length odd) false (1 : Nat) (rowL odd))))) (1 : Nat) (rowL (W.openL (bytesL (32 : Nat) (rowL key)) (9 : Int) (datL (AV.dat (List.length odd) false (1 : Nat) (rowL odd))))))))] [(72 : Nat), (3 : Nat)]))))))) := by kernel_rfl
def setL (c : List Nat) (p v : Nat) : List Nat := (List.range c.length).map fun j => if j = p then c.getD j 0 ^^^ v else c.getD j 0
theorem setL_len (c : List Nat) (p v : Nat) : (setL c p v).length = c.length := by simp [setL]
theorem setL_get (c : List Nat) (p v : Nat) {j : Nat} (h : j < c.length) : (setL c p v).getD j 0 = if j = p then c.getD j 0 ^^^ v else c.getD j 0 := by simp [setL, h]
theorem small_setL {c : List Nat} (h : Small c) (p : Nat) {v : Nat} (hv : v < 256) : Small (setL c p v) := fun z hz => by
  obtain ⟨j, _, rfl⟩ := List.mem_map.1 hz
  split
  · exact Nat.xor_lt_two_pow (n := 8) (getD_small h j) hv
  · exact getD_small h j
theorem slc_fun (key : List Nat) (ex : Bool) (b w : List Nat) (hk : key.length = 32) (hs : Small key) (hb : Small b) (hw : Small w) : Fun C P F_slc [kyA key, dB ex b, .arr 3 1 (rowL w)] [] (.sb true) [] := by
  refine in_slc (W := w_slc) rfl 0 (by simp) rfl (fun id h => absurd rfl h) ?_
  obtain ⟨x, hx⟩ : ∃ x, x = b.take 200 := ⟨_, rfl⟩
  have sx : Small x := hx ▸ small_take hb 200
  have lx : x.length ≤ 200 := by rw [hx]; simp; omega
  have h9 : I64 9 := by unfold I64; decide
  refine of_eq (slc_A key ex b w 0 _) ⟨sanity_fun, trivial, short_call (B8_row hb _) (.inr rfl), cut_ok (S2 := S_slc3 key x w) (Ent.trans (ent_freeze _ [14]) (ent_of [(3, 3), (5, 5)] rfl (tm_cons rfl (sm_ptr rfl) (tm_cons rfl (sm_ptr rfl) (tm_cons rfl (sm_b rfl) (tm_cons rfl (sm_same rfl) (tm_cons rfl (sm_dat' (by rw [bytesL_row, hx]) (by simp) fun i hi => ?_) tm_nil))))) (hp_cons rfl rfl (sm_same rfl) (hp_cons rfl rfl (sm_same rfl) hp_nil)))) ?_⟩
  · rw [bytesL_row, ← hx, Nat.zero_add]
  obtain ⟨c, hc⟩ : ∃ c, c = sealL key 9 x := ⟨_, rfl⟩
  have sc : Small c := hc ▸ small_sealL key 9 sx
  have lc : c.length = x.length + 32 := by rw [hc, sealL_len]
  refine of_eq (slc_C3 key x w 0 _) ⟨seal_call (B8_row hs 32) h9 (B8_row sx _) (.inr rfl) (by first | omega | decide | (unfold I64; omega)), cut_ok (S2 := S_slc4 key x c w) (Ent.trans (ent_freeze _ [17]) (ent_of [(3, 3), (5, 5)] rfl (tm_cons rfl (sm_ptr rfl) (tm_cons rfl (sm_ptr rfl) (tm_cons rfl (sm_same rfl) (tm_cons rfl (sm_same rfl) (tm_cons rfl (sm_same rfl) (tm_cons rfl (sm_dat' (by rw [kyl hk, datR, hc]) (by simp) fun i hi => ?_) tm_nil)))))) (hp_cons rfl rfl (sm_same rfl) (hp_cons rfl rfl (sm_same rfl) hp_nil)))) ?_⟩
  · rw [kyl hk, datR, ← hc, Nat.zero_add]
  refine of_eq (slc_C4 key x c w 0 _) ⟨(by first | omega | decide | (unfold I64; omega)), bne_then (by rw [lc]) ⟨rfl, (by first | omega | decide | (unfold I64; omega)), (by first | omega | decide | (unfold I64; omega)), cut_ok (S2 := S_slc7 key c w) (ent_of [(3, 3), (5, 5), (26, 10)] rfl (tm_cons rfl (sm_ptr rfl) (tm_cons rfl (sm_ptr rfl) (tm_cons rfl (sm_same rfl) (tm_cons rfl (sm_same rfl) (tm_cons rfl (sm_same rfl) (tm_cons rfl (sm_sl rfl (Nat.zero_add _) (by omega) (by omega) (by simp)) tm_nil)))))) (hp_cons rfl rfl (sm_same rfl) (hp_cons rfl rfl (sm_same rfl) (hp_cons rfl rfl (sm_arr' (Nat.zero_add _) fun i hi => ?_) hp_nil)))) ?_⟩⟩
  · simp [cat]
  have hend : ∀ odd, Small odd → odd.length < 2 ^ 40 → Holds C P 89 [] 0 (FunPost C 89 0 [.tmp 6] (.sb true) []) (cutAt C w_slc b_slc [1, 1, 1, 1, 1, 1, 1, 0] (S_slc14 key c odd) (after C w_slc b_slc [1, 1, 1, 1, 1, 1, 1, 0] [] lf)) := fun odd so lo => by
    refine of_eq (slc_C14 key c odd 0 _) ⟨opened_call (B8_row hs 32) h9 (B8_row so _) (.inr rfl) lo, right_call (B8_row hs 32) (B8_row so _) (.inr rfl) lo, trivial, tt_then ?_ ⟨opened_call (B8_row hs 32) h9 (B8_row sc _) (.inr rfl) (by first | omega | decide | (unfold I64; omega)), tt_then ?_ (post_tmp rfl (sm_same rfl))⟩⟩
    · unfold openE
      cases rightB (bytesL 32 (rowL key)) 9 (datL (.dat odd.length false 1 (rowL odd))) <;> rfl
    · rw [kyl hk, datR, hc, (open_seal _ _ _).2]; rfl
  have w0 := getD_small hw 0
  have w1 := getD_small hw 1
  have w2 := getD_small hw 2
  refine of_eq (slc_C7 key c w 0 _) ⟨(by first | omega | decide | (unfold I64; omega)), (by first | omega | decide | (unfold I64; omega)), fun _ => ?_, fun _ => ⟨fun _ => ?_, fun _ => ?_⟩⟩
  · obtain ⟨p, hp⟩ : ∃ p, p = (256 * w.getD 1 0 + w.getD 2 0) % c.length := ⟨_, rfl⟩
    have hpl : p < c.length := by rw [hp]; exact Nat.mod_lt _ (by omega)
    rw [← hp]
    refine ⟨(by first | omega | decide | (unfold I64; omega)), (by first | omega | decide | (unfold I64; omega)), (by first | omega | decide | (unfold I64; omega)), (by first | omega | decide | (unfold I64; omega)), (by first | omega | decide | (unfold I64; omega)), (by first | omega | decide | (unfold I64; omega)), (by first | omega | decide | (unfold I64; omega)), (by first | omega | decide | (unfold I64; omega)), (by first | omega | decide | (unfold I64; omega)), (by first | omega | decide | (unfold I64; omega)), (by first | omega | decide | (unfold I64; omega)), cut_ok (S2 := S_slc14 key c (setL c p (1 + w.getD 2 0 % 255))) (Ent.trans (ent_freeze _ [10]) (ent_of [(3, 3)] rfl (tm_cons rfl (sm_ptr rfl) (tm_cons rfl (sm_same rfl) (tm_cons rfl (sm_same rfl) (tm_cons rfl (sm_dat' (setL_len _ _ _).symm (by simp) fun i hi => ?_) tm_nil)))) (hp_cons rfl rfl (sm_same rfl) hp_nil))) (hend _ (small_setL sc p (by omega)) (by rw [setL_len]; omega))⟩
    simp only [Nat.zero_add]
    show _ = u8 ((setL c p (1 + w.getD 2 0 % 255)).getD i 0)
    rw [setL_get _ _ _ hi, wrap_u8, Nat.mod_eq_of_lt (by omega), xor8 (getD_small sc p) (by omega)]
    by_cases e : i = p
    · rw [if_pos e, if_pos e, e]
    · rw [if_neg e, if_neg e]
  · obtain ⟨q, hq⟩ : ∃ q, q = c.length - 1 - w.getD 1 0 % 32 := ⟨_, rfl⟩
    have e : ((c.length : Int) - 1 - ((w.getD 1 0 % 32 : Nat) : Int)).toNat = q := by omega
    rw [e]
    refine ⟨(by first | omega | decide | (unfold I64; omega)), (by first | omega | decide | (unfold I64; omega)), (by first | omega | decide | (unfold I64; omega)), (by first | omega | decide | (unfold I64; omega)), (by first | omega | decide | (unfold I64; omega)), (by first | omega | decide | (unfold I64; omega)), cut_ok (S2 := S_slc14 key c (c.take q)) (Ent.trans (ent_freeze _ [10]) (ent_of [(3, 3)] rfl (tm_cons rfl (sm_ptr rfl) (tm_cons rfl (sm_same rfl) (tm_cons rfl (sm_same rfl) (tm_cons rfl (sm_dat' (by simp; omega) (by simp) fun i hi => ?_) tm_nil)))) (hp_cons rfl rfl (sm_same rfl) hp_nil))) (hend _ (small_take sc q) (by simp; omega))⟩
    rw [Nat.zero_add]
    show u8 (c.getD i 0) = u8 ((c.take q).getD i 0)
    simp [List.getD_eq_getElem?_getD, hi]
  · refine ⟨(by first | omega | decide | (unfold I64; omega)), (by first | omega | decide | (unfold I64; omega)), cut_ok (S2 := S_slc14 key c (c ++ [w.getD 2 0])) (Ent.trans (ent_freeze _ [34]) (ent_of [(3, 3)] rfl (tm_cons rfl (sm_ptr rfl) (tm_cons rfl (sm_same rfl) (tm_cons rfl (sm_same rfl) (tm_cons rfl (sm_dat' (by simp) (by simp) fun i hi => ?_) tm_nil)))) (hp_cons rfl rfl (sm_same rfl) hp_nil))) (hend _ (small_append sc (small_cons w2 small_nil)) (by simp; omega))⟩
    rw [Nat.zero_add]
    show _ = u8 ((c ++ [w.getD 2 0]).getD i 0)
    rw [getD_append]
    unfold cat
    by_cases e : i < c.length
    · rw [if_pos e, if_pos e]; simp only [Nat.zero_add]
    · obtain rfl : i = c.length := by omega
      rw [if_neg e, if_neg e, Nat.sub_self]; rfl
theorem slc_law {x0 x1 x2 : AV} (h0 : Typed C.tt 6 23 x0) (h1 : Typed C.tt 6 24 x1) (h2 : Typed C.tt 6 38 x2) : Fun C P F_slc [x0, x1, x2] [] (.sb true) [] := by
  obtain ⟨key, hs, hk, s0⟩ := typed_arrB (e := 5) (m := 32) rfl rfl rfl h0
  obtain ⟨b, ex, hb, _, s1⟩ := typed_bytes (e := 5) rfl rfl rfl h1
  obtain ⟨w, hws, hw, s2⟩ := typed_arrB (e := 5) (m := 3) rfl rfl rfl h2
  exact (slc_fun key ex b w hk hs hb hws).sim ⟨s0, s1, s2, trivial⟩ trivial
end Go.Bu.W

