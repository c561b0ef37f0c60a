/- Arbitrary texts, and those of hashes in which a part is replaced, are read as by the reference. -/
import Derived.Test.YtfhdnaonihhjjaaDoorKL5
namespace Go.Bu.W
open Sp
def w_lpa : Way := wayH [0, 1, 2, 4, 5, 6, 7, 8, 9, 10, 11, 12, 13, 14, 15, 19, 54, 89] 91 [7]
def S_lpa7 (s put : ByteArray) (at' en : Nat) : St := { tm := [(0, .v (.string put)), (6, .sb false), (7, .sb true), (8, .v (.string s)), (9, i64 at'), (10, i64 en)], hp := [], seen := [] }
def I_lpa0 (T : Nat → ByteArray) (i : Nat) : St := { tm := [(6, .sb false), (7, .sb true), (11, .sl 11 [] 0 4 4 false 1), (12, i64 i)], hp := [(11, .c (.arr 4 1 (fun j => .v (.string (T j)))))], seen := [11] }

theorem lpa_A (key : List Nat) (put : ByteArray) (w : List Nat) (K : Nat) (Φ : Ex → St → Prop) :
  (Holds C P 91 [] K Φ (vc C w_lpa b_lpa [] (start [.v (.string put), .arr 32 1 (rowL key), .arr 2 1 (rowL w)] []) lf)) =
  (Fun W.C W.P (10 : Nat) [] [] (AV.sb true) [] ∧
 (True ∧
 (((decide ((((ByteArray.size put) : Nat) : Int) > (70 : Int))) = true → 
 (Φ Ex.ret (St.mk [((0 : Nat), (AV.v (Value.string put))), ((1 : Nat), (AV.arr (32 : Nat) (1 : Nat) (rowL key))), ((2 : Nat), (AV.arr (2 : Nat) (1 : Nat) (rowL w))), ((4 : Nat), (AV.ptr (4 : Nat) [])), ((5 : Nat), (AV.ptr (5 : Nat) [])), ((6 : Nat), (AV.sb true)), ((7 : Nat), (AV.sb true)), ((19 : Nat), (AV.v (Value.bool true)))] [((4 : Nat), (Blk.c (AV.arr (32 : Nat) (1 : Nat) (rowL key)))), ((5 : Nat), (Blk.c (AV.arr (2 : Nat) (1 : Nat) (rowL w))))] [(5 : Nat), (4 : Nat)]))) ∧
 ((decide ((((ByteArray.size put) : Nat) : Int) > (70 : Int))) = false → 
 (Fun W.C W.P (14 : Nat) [(AV.arr (32 : Nat) (1 : Nat) (rowL key))] [] (AV.v (Value.string (W.hexB (bytesL (32 : Nat) (rowL key))))) [] ∧
  (True ∧
  ((((0 : Int) ≤ (0 : Int)) ∧ ((0 : Int) < (2 : Int))) ∧
  ((I64 (((List.getD w (0 : Nat) (0 : Nat)) : Nat) : Int)) ∧
  (((65 : Int) ≠ (0 : Int)) ∧
  ((((0 : Int) ≤ (1 : Int)) ∧ ((1 : Int) < (2 : Int))) ∧
  (((5 : Int) ≠ (0 : Int)) ∧
  ((I64 ((((List.getD w (1 : Nat) (0 : Nat)) % 5) : Nat) : Int)) ∧
  ((I64 (((((List.getD w (0 : Nat) (0 : Nat)) % 65) + ((List.getD w (1 : Nat) (0 : Nat)) % 5)) : Nat) : Int)) ∧
  (∃ (S2 : St), Ent W.C (91 : Nat) [] K (St.mk [((0 : Nat), (AV.v (Value.string put))), ((1 : Nat), (AV.arr (32 : Nat) (1 : Nat) (rowL key))), ((2 : Nat), (AV.arr (2 : Nat) (1 : Nat) (rowL w))), ((4 : Nat), (AV.ptr (4 : Nat) [])), ((5 : Nat), (AV.ptr (5 : Nat) [])), ((6 : Nat), (AV.v (Value.bool false))), ((7 : Nat), (AV.sb true)), ((8 : Nat), (AV.v (Value.string (W.hexB (bytesL (32 : Nat) (rowL key)))))), ((9 : Nat), (AV.v (Value.int IntKind.i64 ((((List.getD w (0 : Nat) (0 : Nat)) % 65) : Nat) : Int)))), ((10 : Nat), (AV.v (Value.int IntKind.i64 (Min.min (((((List.getD w (0 : Nat) (0 : Nat)) % 65) + ((List.getD w (1 : Nat) (0 : Nat)) % 5)) : Nat) : Int) (64 : Int))))), ((19 : Nat), (AV.v (Value.bool false)))] [((4 : Nat), (Blk.c (AV.arr (32 : Nat) (1 : Nat) (rowL key)))), ((5 : Nat), (Blk.c (AV.arr (2 : Nat) (1 : Nat) (rowL w))))] [(5 : Nat), (4 : Nat)]) S2 ∧ Holds W.C W.P (91 : Nat) [] K Φ (cutAt W.C w_lpa b_lpa [1, 1, 1, 1, 1, 1, 0] S2 (after W.C w_lpa b_lpa [1, 1, 1, 1, 1, 1, 0] [] lf)))))))))))))))) := by kernel_rfl
theorem lpa_C7 (s put : ByteArray) (at' en : Nat) (K : Nat) (Φ : Ex → St → Prop) :
  (Holds C P 91 [] K Φ (cutAt C w_lpa b_lpa [1, 1, 1, 1, 1, 1, 0] (S_lpa7 s put at' en) (after C w_lpa b_lpa [1, 1, 1, 1, 1, 1, 0] [] lf))) =
  ((((0 : Int) ≤ (0 : Int)) ∧ (((0 : Int) ≤ ((at' : Nat) : Int)) ∧ (((at' : Nat) : Int) ≤ (((ByteArray.size s) : Nat) : Int)))) ∧
 ((((((ByteArray.size (ByteArray.extract s (0 : Nat) at')) + (ByteArray.size put)) : Nat) : Int) ≤ (9223372036854775807 : Int)) ∧
 ((((0 : Int) ≤ ((en : Nat) : Int)) ∧ ((((en : Nat) : Int) ≤ (((ByteArray.size s) : Nat) : Int)) ∧ ((((ByteArray.size s) : Nat) : Int) ≤ (((ByteArray.size s) : Nat) : Int)))) ∧
 ((((((ByteArray.size ((ByteArray.extract s (0 : Nat) at') ++ put)) + (ByteArray.size (ByteArray.extract s en (ByteArray.size s)))) : Nat) : Int) ≤ (9223372036854775807 : Int)) ∧
 ((((0 : Int) ≤ (0 : Int)) ∧ (((0 : Int) ≤ ((at' : Nat) : Int)) ∧ (((at' : Nat) : Int) ≤ (((ByteArray.size s) : Nat) : Int)))) ∧
 ((((((ByteArray.size s) + (ByteArray.size put)) : Nat) : Int) ≤ (9223372036854775807 : Int)) ∧
 (LoopOK W.C W.P (91 : Nat) [] K (bodyAt b_lpa [1, 1, 1, 1, 1, 1, 1, 0, 1, 0]) (St.mk [((0 : Nat), (AV.v (Value.string put))), ((6 : Nat), (AV.sb false)), ((7 : Nat), (AV.sb true)), ((8 : Nat), (AV.v (Value.string s))), ((9 : Nat), (AV.v (Value.int IntKind.i64 ((at' : Nat) : Int)))), ((10 : Nat), (AV.v (Value.int IntKind.i64 ((en : Nat) : Int)))), ((11 : Nat), (AV.sl (50 : Nat) [] (0 : Nat) (4 : Nat) (4 : Nat) true (1 : Nat))), ((12 : Nat), (AV.v (Value.int IntKind.i64 (0 : Int))))] [((50 : Nat), (Blk.c (AV.st [(AV.v (Value.string put)), (AV.v (Value.string (((ByteArray.extract s (0 : Nat) at') ++ put) ++ (ByteArray.extract s en (ByteArray.size s))))), (AV.v (Value.string (ByteArray.extract s (0 : Nat) at'))), (AV.v (Value.string (s ++ put)))])))] [(50 : Nat)]) (fun (e : Ex) (S' : St) => Holds W.C W.P (91 : Nat) [] K Φ (after W.C w_lpa b_lpa [1, 1, 1, 1, 1, 1, 1, 0, 1, 0] [] lf e S'))))))))) := by kernel_rfl
noncomputable abbrev bd_lpa_0 : Code := bodyAt (b_lpa) [1, 1, 1, 1, 1, 1, 1, 0, 1, 0]
theorem ok_lpa_0 : codeOK bd_lpa_0 = true := by kernel_rfl
noncomputable abbrev rest_lpa_0 (K : Nat) (Φ : Ex → St → Prop) : Ex → St → Prop := fun e S' => Holds C P 91 [] K Φ (after C w_lpa (b_lpa) [1, 1, 1, 1, 1, 1, 1, 0, 1, 0] [] lf e S')
theorem lpa_L0 (T : Nat → ByteArray) (i : Nat) (K : Nat) (Φ : Ex → St → Prop) :
  (Holds C P 91 [] K (RoundQ C 91 [] K (I_lpa0 T) (fun i => i ≤ 4) (fun i => 4 - i) ((fun i => 4 - i) (i)) (rest_lpa_0 K Φ)) (vc C w_lpa bd_lpa_0 [] ((I_lpa0 T) (i)) lf)) =
  (((decide (((i : Nat) : Int) < (4 : Int))) = true → 
 ((((0 : Int) ≤ ((i : Nat) : Int)) ∧ (((i : Nat) : Int) < (4 : Int))) ∧
  (Fun W.C W.P (22 : Nat) [(AV.v (Value.string (T ((0 : Nat) + i))))] [] (AV.tup [(AV.arr (32 : Nat) (1 : Nat) (fun (k : Nat) => (AV.v (Value.int IntKind.u8 (((Sp.sumVal (Array.toList (ByteArray.data (T ((0 : Nat) + i)))) k) : Nat) : Int))))), (AV.v (Value.int IntKind.i64 (W.errV (Sp.okL (Array.toList (ByteArray.data (T ((0 : Nat) + i))))))))]) [] ∧
  ((((32 : Nat) = (32 : Nat)) ∧ (((1 : Nat) = (1 : Nat)) ∧ (∀ (i1 : Nat), ((i1 < (32 : Nat)) → ((true = true) ∧ (Bool.true = true)))))) ∧
  ((((0 : Int) ≤ ((i : Nat) : Int)) ∧ (((i : Nat) : Int) < (4 : Int))) ∧
  (Fun W.C W.P (23 : Nat) [(AV.v (Value.string (T ((0 : Nat) + i))))] [] (AV.st [(AV.arr (32 : Nat) (1 : Nat) (fun (k : Nat) => (AV.v (Value.int IntKind.u8 (((Sp.sumVal (Array.toList (ByteArray.data (T ((0 : Nat) + i)))) k) : Nat) : Int))))), (AV.sb (Sp.okL (Array.toList (ByteArray.data (T ((0 : Nat) + i))))))]) [] ∧
  (((∀ (i1 : Nat), ((i1 < (32 : Nat)) → True)) ∧ (True ∧ True)) ∧
  (((((32 : Nat) = (32 : Nat)) ∧ (((1 : Nat) = (1 : Nat)) ∧ (∀ (i1 : Nat), ((i1 < (32 : Nat)) → ((true = true) ∧ (Bool.true = true)))))) ∧ (((true = true) ∧ (Bool.true = true)) ∧ True)) ∧
  ((∀ (i1 : Nat), ((i1 < (32 : Nat)) → ((IntKind.u8 = IntKind.u8) ∧ (IntKind.u8 = IntKind.u8)))) ∧
  (((!(List.all (List.range (32 : Nat)) (fun (i1 : Nat) => ((((Sp.sumVal (Array.toList (ByteArray.data (T ((0 : Nat) + i)))) i1) : Nat) : Int) == (((Sp.sumVal (Array.toList (ByteArray.data (T ((0 : Nat) + i)))) i1) : Nat) : Int))))) = true → 
  (Φ Ex.ret (St.mk [((6 : Nat), (AV.v (Value.bool false))), ((7 : Nat), (AV.sb true)), ((11 : Nat), (AV.sl (11 : Nat) [] (0 : Nat) (4 : Nat) (4 : Nat) false (1 : Nat))), ((12 : Nat), (AV.v (Value.int IntKind.i64 ((i : Nat) : Int)))), ((13 : Nat), (AV.ptr (13 : Nat) [])), ((14 : Nat), (AV.v (Value.int IntKind.i64 (W.errV (Sp.okL (Array.toList (ByteArray.data (T ((0 : Nat) + i))))))))), ((15 : Nat), (AV.ptr (15 : Nat) [])), ((54 : Nat), (AV.v (Value.bool true))), ((89 : Nat), (AV.v (Value.bool true)))] [((11 : Nat), (Blk.c (AV.arr (4 : Nat) (1 : Nat) (fun (j : Nat) => (AV.v (Value.string (T j))))))), ((13 : Nat), (Blk.c (AV.arr (32 : Nat) (1 : Nat) (fun (k : Nat) => (AV.v (Value.int IntKind.u8 (((Sp.sumVal (Array.toList (ByteArray.data (T ((0 : Nat) + i)))) k) : Nat) : Int))))))), ((15 : Nat), (Blk.c (AV.st [(AV.arr (32 : Nat) (1 : Nat) (fun (k : Nat) => (AV.v (Value.int IntKind.u8 (((Sp.sumVal (Array.toList (ByteArray.data (T ((0 : Nat) + i)))) k) : Nat) : Int))))), (AV.sb (Sp.okL (Array.toList (ByteArray.data (T ((0 : Nat) + i))))))])))] [(15 : Nat), (13 : Nat), (11 : Nat)]))) ∧
  ((!(List.all (List.range (32 : Nat)) (fun (i1 : Nat) => ((((Sp.sumVal (Array.toList (ByteArray.data (T ((0 : Nat) + i)))) i1) : Nat) : Int) == (((Sp.sumVal (Array.toList (ByteArray.data (T ((0 : Nat) + i)))) i1) : Nat) : Int))))) = false → 
  (((!(((W.errV (Sp.okL (Array.toList (ByteArray.data (T ((0 : Nat) + i)))))) == (0 : Int)) == (Sp.okL (Array.toList (ByteArray.data (T ((0 : Nat) + i))))))) = true → 
   (Φ Ex.ret (St.mk [((6 : Nat), (AV.v (Value.bool false))), ((7 : Nat), (AV.sb true)), ((11 : Nat), (AV.sl (11 : Nat) [] (0 : Nat) (4 : Nat) (4 : Nat) false (1 : Nat))), ((12 : Nat), (AV.v (Value.int IntKind.i64 ((i : Nat) : Int)))), ((13 : Nat), (AV.ptr (13 : Nat) [])), ((14 : Nat), (AV.v (Value.int IntKind.i64 (W.errV (Sp.okL (Array.toList (ByteArray.data (T ((0 : Nat) + i))))))))), ((15 : Nat), (AV.ptr (15 : Nat) [])), ((54 : Nat), (AV.v (Value.bool true))), ((89 : Nat), (AV.v (Value.bool true)))] [((11 : Nat), (Blk.c (AV.arr (4 : Nat) (1 : Nat) (fun (j : Nat) => (AV.v (Value.string (T j))))))), ((13 : Nat), (Blk.c (AV.arr (32 : Nat) (1 : Nat) (fun (k : Nat) => (AV.v (Value.int IntKind.u8 (((Sp.sumVal (Array.toList (ByteArray.data (T ((0 : Nat) + i)))) k) : Nat) : Int))))))), ((15 : Nat), (Blk.c (AV.st [(AV.arr (32 : Nat) (1 : Nat) (fun (k : Nat) => (AV.v (Value.int IntKind.u8 (((Sp.sumVal (Array.toList (ByteArray.data (T ((0 : Nat) + i)))) k) : Nat) : Int))))), (AV.sb (Sp.okL (Array.toList (ByteArray.data (T ((0 : Nat) + i))))))])))] [(15 : Nat), (13 : Nat), (11 : Nat)]))) ∧
   ((!(((W.errV (Sp.okL (Array.toList (ByteArray.data (T ((0 : Nat) + i)))))) == (0 : Int)) == (Sp.okL (Array.toList (ByteArray.data (T ((0 : Nat) + i))))))) = false → 
   (((!(Sp.okL (Array.toList (ByteArray.data (T ((0 : Nat) + i)))))) = true → 
    ((((W.errV (Sp.okL (Array.toList (ByteArray.data (T ((0 : Nat) + i)))))) != (3 : Int)) = true → 
     (Φ Ex.ret (St.mk [((6 : Nat), (AV.v (Value.bool false))), ((7 : Nat), (AV.sb true)), ((11 : Nat), (AV.sl (11 : Nat) [] (0 : Nat) (4 : Nat) (4 : Nat) false (1 : Nat))), ((12 : Nat), (AV.v (Value.int IntKind.i64 ((i : Nat) : Int)))), ((13 : Nat), (AV.ptr (13 : Nat) [])), ((14 : Nat), (AV.v (Value.int IntKind.i64 (W.errV (Sp.okL (Array.toList (ByteArray.data (T ((0 : Nat) + i))))))))), ((15 : Nat), (AV.ptr (15 : Nat) [])), ((54 : Nat), (AV.v (Value.bool true))), ((89 : Nat), (AV.v (Value.bool true)))] [((11 : Nat), (Blk.c (AV.arr (4 : Nat) (1 : Nat) (fun (j : Nat) => (AV.v (Value.string (T j))))))), ((13 : Nat), (Blk.c (AV.arr (32 : Nat) (1 : Nat) (fun (k : Nat) => (AV.v (Value.int IntKind.u8 (((Sp.sumVal (Array.toList (ByteArray.data (T ((0 : Nat) + i)))) k) : Nat) : Int))))))), ((15 : Nat), (Blk.c (AV.st [(AV.arr (32 : Nat) (1 : Nat) (fun (k : Nat) => (AV.v (Value.int IntKind.u8 (((Sp.sumVal (Array.toList (ByteArray.data (T ((0 : Nat) + i)))) k) : Nat) : Int))))), (AV.sb (Sp.okL (Array.toList (ByteArray.data (T ((0 : Nat) + i))))))])))] [(15 : Nat), (13 : Nat), (11 : Nat)]))) ∧
     (((W.errV (Sp.okL (Array.toList (ByteArray.data (T ((0 : Nat) + i)))))) != (3 : Int)) = false → 
     ((I64 (((i + 1) : Nat) : Int)) ∧
      ((RoundQ C 91 [] K (I_lpa0 T) (fun i => i ≤ 4) (fun i => 4 - i) ((fun i => 4 - i) (i)) (rest_lpa_0 K Φ)) Ex.normal (St.mk [((6 : Nat), (AV.sb false)), ((7 : Nat), (AV.sb true)), ((11 : Nat), (AV.sl (11 : Nat) [] (0 : Nat) (4 : Nat) (4 : Nat) false (1 : Nat))), ((12 : Nat), (AV.v (Value.int IntKind.i64 (((i + 1) : Nat) : Int)))), ((13 : Nat), (AV.ptr (13 : Nat) [])), ((14 : Nat), (AV.v (Value.int IntKind.i64 (W.errV (Sp.okL (Array.toList (ByteArray.data (T ((0 : Nat) + i))))))))), ((15 : Nat), (AV.ptr (15 : Nat) [])), ((54 : Nat), (AV.v (Value.bool true))), ((89 : Nat), (AV.v (Value.bool false)))] [((11 : Nat), (Blk.c (AV.arr (4 : Nat) (1 : Nat) (fun (j : Nat) => (AV.v (Value.string (T j))))))), ((13 : Nat), (Blk.c (AV.arr (32 : Nat) (1 : Nat) (fun (k : Nat) => (AV.v (Value.int IntKind.u8 (((Sp.sumVal (Array.toList (ByteArray.data (T ((0 : Nat) + i)))) k) : Nat) : Int))))))), ((15 : Nat), (Blk.c (AV.st [(AV.arr (32 : Nat) (1 : Nat) (fun (k : Nat) => (AV.v (Value.int IntKind.u8 (((Sp.sumVal (Array.toList (ByteArray.data (T ((0 : Nat) + i)))) k) : Nat) : Int))))), (AV.sb (Sp.okL (Array.toList (ByteArray.data (T ((0 : Nat) + i))))))])))] [(15 : Nat), (13 : Nat), (11 : Nat)])))))) ∧
    ((!(Sp.okL (Array.toList (ByteArray.data (T ((0 : Nat) + i)))))) = false → 
    ((I64 (((i + 1) : Nat) : Int)) ∧
     ((RoundQ C 91 [] K (I_lpa0 T) (fun i => i ≤ 4) (fun i => 4 - i) ((fun i => 4 - i) (i)) (rest_lpa_0 K Φ)) Ex.normal (St.mk [((6 : Nat), (AV.sb false)), ((7 : Nat), (AV.sb true)), ((11 : Nat), (AV.sl (11 : Nat) [] (0 : Nat) (4 : Nat) (4 : Nat) false (1 : Nat))), ((12 : Nat), (AV.v (Value.int IntKind.i64 (((i + 1) : Nat) : Int)))), ((13 : Nat), (AV.ptr (13 : Nat) [])), ((14 : Nat), (AV.v (Value.int IntKind.i64 (W.errV (Sp.okL (Array.toList (ByteArray.data (T ((0 : Nat) + i))))))))), ((15 : Nat), (AV.ptr (15 : Nat) [])), ((54 : Nat), (AV.v (Value.bool true))), ((89 : Nat), (AV.v (Value.bool false)))] [((11 : Nat), (Blk.c (AV.arr (4 : Nat) (1 : Nat) (fun (j : Nat) => (AV.v (Value.string (T j))))))), ((13 : Nat), (Blk.c (AV.arr (32 : Nat) (1 : Nat) (fun (k : Nat) => (AV.v (Value.int IntKind.u8 (((Sp.sumVal (Array.toList (ByteArray.data (T ((0 : Nat) + i)))) k) : Nat) : Int))))))), ((15 : Nat), (Blk.c (AV.st [(AV.arr (32 : Nat) (1 : Nat) (fun (k : Nat) => (AV.v (Value.int IntKind.u8 (((Sp.sumVal (Array.toList (ByteArray.data (T ((0 : Nat) + i)))) k) : Nat) : Int))))), (AV.sb (Sp.okL (Array.toList (ByteArray.data (T ((0 : Nat) + i))))))])))] [(15 : Nat), (13 : Nat), (11 : Nat)])))))))))))))))))) ∧
 ((decide (((i : Nat) : Int) < (4 : Int))) = false → 
 (Φ Ex.ret (St.mk [((6 : Nat), (AV.sb true)), ((7 : Nat), (AV.sb true)), ((11 : Nat), (AV.sl (11 : Nat) [] (0 : Nat) (4 : Nat) (4 : Nat) false (1 : Nat))), ((12 : Nat), (AV.v (Value.int IntKind.i64 ((i : Nat) : Int)))), ((54 : Nat), (AV.v (Value.bool false)))] [((11 : Nat), (Blk.c (AV.arr (4 : Nat) (1 : Nat) (fun (j : Nat) => (AV.v (Value.string (T j)))))))] [(11 : Nat)])))) := by kernel_rfl

def pick4 (a b c d : ByteArray) : Nat → ByteArray
  | 0 => a
  | 1 => b
  | 2 => c
  | _ => d

theorem lpa_round (T : Nat → ByteArray) (i : Nat) (hi : i ≤ 4) : Holds C P 91 [] 0 (RoundQ C 91 [] 0 (I_lpa0 T) (fun i => i ≤ 4) (fun i => 4 - i) ((fun i => 4 - i) (i)) (rest_lpa_0 0 (FunPost C 91 0 [.tmp 6] (.sb true) []))) (vc C w_lpa bd_lpa_0 [] ((I_lpa0 T) (i)) lf) := by
  refine of_eq (lpa_L0 T i 0 _) ⟨fun h => ?_, fun h => post_tmp rfl (sm_same rfl)⟩
  simp only [decide_eq_true_eq] at h
  have hp := parse_fun (T (0 + i))
  have hr := rparse_fun (T (0 + i))
  have hall : (!(List.range 32).all fun i1 => ((sumVal (T (0 + i)).data.toList i1 : Nat) : Int) == ((sumVal (T (0 + i)).data.toList i1 : Nat) : Int)) = false := by simp
  cases ho : okL (T (0 + i)).data.toList with
  | false =>
    rw [ho] at hp hr
    exact ⟨(by first | omega | decide | (unfold I64; omega)), hp, ⟨rfl, rfl, fun _ _ => ⟨rfl, rfl⟩⟩, (by first | omega | decide | (unfold I64; omega)), hr, ⟨fun _ _ => trivial, trivial, trivial⟩, ⟨⟨rfl, rfl, fun _ _ => ⟨rfl, rfl⟩⟩, ⟨rfl, rfl⟩, trivial⟩, fun _ _ => ⟨rfl, rfl⟩, fun h => (by rw [hall] at h; cases h), fun _ => ⟨fun h => absurd h (by decide), fun _ => ⟨fun _ => ⟨fun h => absurd h (by decide), fun _ => ⟨(by first | omega | decide | (unfold I64; omega)), round_end (i + 1) (by omega) (ent_of [(11, 11)] rfl (tm_cons rfl (sm_same rfl) (tm_cons rfl (sm_same rfl) (tm_cons rfl (sm_sl rfl rfl (Nat.le_refl _) (Nat.le_refl _) (by simp)) (tm_cons rfl (sm_same rfl) tm_nil)))) (hp_cons rfl rfl (sm_same rfl) hp_nil)) (by dsimp only; omega)⟩⟩, nofun⟩⟩⟩
  | true =>
    rw [ho] at hp hr
    exact ⟨(by first | omega | decide | (unfold I64; omega)), hp, ⟨rfl, rfl, fun _ _ => ⟨rfl, rfl⟩⟩, (by first | omega | decide | (unfold I64; omega)), hr, ⟨fun _ _ => trivial, trivial, trivial⟩, ⟨⟨rfl, rfl, fun _ _ => ⟨rfl, rfl⟩⟩, ⟨rfl, rfl⟩, trivial⟩, fun _ _ => ⟨rfl, rfl⟩, fun h => (by rw [hall] at h; cases h), fun _ => ⟨fun h => absurd h (by decide), fun _ => ⟨nofun, fun _ => ⟨(by first | omega | decide | (unfold I64; omega)), round_end (i + 1) (by omega) (ent_of [(11, 11)] rfl (tm_cons rfl (sm_same rfl) (tm_cons rfl (sm_same rfl) (tm_cons rfl (sm_sl rfl rfl (Nat.le_refl _) (Nat.le_refl _) (by simp)) (tm_cons rfl (sm_same rfl) tm_nil)))) (hp_cons rfl rfl (sm_same rfl) hp_nil)) (by dsimp only; omega)⟩⟩⟩⟩

theorem lpa_fun (key : List Nat) (put : ByteArray) (w : List Nat) (hk : key.length = 32) (hs : Small key) (hw : Small w) :
    Fun C P F_lpa [.v (.string put), .arr 32 1 (rowL key), .arr 2 1 (rowL w)] [] (.sb true) [] := by
  refine in_lpa (W := w_lpa) rfl 0 (by simp) rfl (fun id h => absurd rfl h) ?_
  have hpr := rprint_call (f := rowL key) (B8_row hs 32)
  have w0 := getD_small hw 0
  have w1 := getD_small hw 1
  rw [bytesL_rowL hk] at hpr
  refine of_eq (lpa_A key put w 0 _) ?_
  rw [bytesL_rowL hk]
  obtain ⟨en, hen⟩ : ∃ en : Nat, min ((w.getD 0 0 % 65 + w.getD 1 0 % 5 : Nat) : Int) 64 = (en : Int) := ⟨min (w.getD 0 0 % 65 + w.getD 1 0 % 5) 64, by omega⟩
  refine ⟨sanity_fun, trivial, fun _ => post_tmp rfl (sm_same rfl), fun h6 => ⟨hpr, trivial, (by first | omega | decide | (unfold I64; omega)), (by first | omega | decide | (unfold I64; omega)), (by first | omega | decide | (unfold I64; omega)), (by first | omega | decide | (unfold I64; omega)), (by first | omega | decide | (unfold I64; omega)), (by first | omega | decide | (unfold I64; omega)), (by first | omega | decide | (unfold I64; omega)), cut_ok (S2 := S_lpa7 (hexB key) put (w.getD 0 0 % 65) en) (ent_of [] rfl (tm_cons rfl (sm_same rfl) (tm_cons rfl (sm_b rfl) (tm_cons rfl (sm_same rfl) (tm_cons rfl (sm_same rfl) (tm_cons rfl (sm_same rfl) (tm_cons rfl (sm_int hen) tm_nil)))))) hp_nil) ?_⟩⟩
  simp only [gt_iff_lt, decide_eq_false_iff_not] at h6
  have hsz := hexB_size hk
  refine of_eq (lpa_C7 (hexB key) put _ en 0 _) ⟨(by rw [hsz]; omega), ?_, (by rw [hsz]; omega), ?_, (by rw [hsz]; omega), (by rw [hsz]; omega), ?_⟩
  · rw [ByteArray.size_extract, hsz]; omega
  · rw [ByteArray.size_append, ByteArray.size_extract, ByteArray.size_extract, hsz]; omega
  refine loop_inv (W := w_lpa) ctx mixed ok_lpa_0 (I_lpa0 (pick4 put (((hexB key).extract 0 (w.getD 0 0 % 65) ++ put) ++ (hexB key).extract en (hexB key).size) ((hexB key).extract 0 (w.getD 0 0 % 65)) (hexB key ++ put))) (fun i => i ≤ 4) (fun i => 4 - i) 0 (by decide) ?_ fun i hi => lpa_round _ i hi
  refine ent_of [(50, 11)] rfl (tm_cons rfl (sm_same rfl) (tm_cons rfl (sm_same rfl) (tm_cons rfl (sm_sl rfl rfl (Nat.le_refl _) (Nat.le_refl _) (by simp)) (tm_cons rfl (sm_same rfl) tm_nil)))) (hp_cons rfl rfl (sm_row rfl rfl rfl fun j x hx => ?_) hp_nil)
  match j, hx with
  | 0, hx => cases hx; rfl
  | 1, hx => cases hx; rfl
  | 2, hx => cases hx; rfl
  | 3, hx => cases hx; rfl

theorem lpa_law {x0 x1 x2 : AV} (h0 : Typed C.tt 6 9 x0) (h1 : Typed C.tt 6 27 x1) (h2 : Typed C.tt 6 34 x2) : Fun C P F_lpa [x0, x1, x2] [] (.sb true) [] := by
  obtain ⟨put, rfl, _⟩ : ∃ s : ByteArray, x0 = .v (.string s) ∧ s.size ≤ maxLen := h0
  obtain ⟨key, hs, hk, s1⟩ := typed_arrB (e := 5) (m := 32) rfl rfl rfl h1
  obtain ⟨w, hws, hw, s2⟩ := typed_arrB (e := 5) (m := 2) rfl rfl rfl h2
  exact (lpa_fun key put w hk hs hws).sim ⟨sm_same rfl, s1, s2, trivial⟩ trivial
end Go.Bu.W

