/- Sum, Of, Stream and Print agree with the reference implementation. -/
import Derived.Test.YtfhdnaonihhjjaaDoorKR4
import Derived.Test.YtfhdnaonihhjjaaDoorKL1
namespace Go.Bu.W
open Sp
def w_lm : Way := wayT [0, 1, 2, 5, 6, 7, 8, 9, 23, 28, 36, 50] 82 [9,12]
abbrev rowI (w : List Int) : Nat → AV := fun i => .i (w.getD i 0)
abbrev db' (ex : Bool) (b : List Nat) : AV := .dat b.length ex 1 (rowL b)
def I_lm0 (eb ex : Bool) (exs : Nat → Bool) (b : List Nat) (ps : List (List Nat)) (w : List Int) (i : Nat) : St := { tm := [(0, db' eb b), (1, dp ex exs ps), (5, .ptr 5 []), (6, .sb false), (7, .sb true), (8, i64 i)], hp := [(5, .c (.arr 3 1 (rowI w)))], seen := [5] }
def S_lm9 (eb ex : Bool) (exs : Nat → Bool) (b : List Nat) (ps : List (List Nat)) (w : List Int) : St := { tm := [(0, db' eb b), (1, dp ex exs ps), (5, .ptr 5 []), (6, .sb false), (7, .sb true)], hp := [(5, .c (.arr 3 1 (rowI w)))], seen := [5] }
def S_lm12 (ex : Bool) (exs : Nat → Bool) (s : List Nat) (ps : List (List Nat)) (w : List Int) : St := { tm := [(1, dp ex exs ps), (5, .ptr 5 []), (6, .sb false), (7, .sb true), (9, .ptr 9 [])], hp := [(5, .c (.arr 3 1 (rowI w))), (9, .c (.arr 32 1 (rowL s)))], seen := [5, 9] }

theorem lm_A (eb ex : Bool) (exs : Nat → Bool) (b : List Nat) (ps : List (List Nat)) (w : List Int) (K : Nat) (Φ : Ex → St → Prop) :
  (Holds C P 82 [] K Φ (vc C w_lm b_lm [] (start [db' eb b, dp ex exs ps, .arr 3 1 (rowI w)] []) lf)) =
  (Fun W.C W.P (10 : Nat) [] [] (AV.sb true) [] ∧
 (True ∧
 (((decide ((((List.length b) : Nat) : Int) > (300 : Int))) = true → 
 (Φ Ex.ret (St.mk [((0 : Nat), (AV.dat (List.length b) eb (1 : Nat) (rowL b))), ((1 : Nat), (AV.dat (List.length ps) ex (1 : Nat) (fun (i : Nat) => (AV.dat (List.length (List.getD ps i [])) (exs i) (1 : Nat) (rowL (List.getD ps i [])))))), ((2 : Nat), (AV.arr (3 : Nat) (1 : Nat) (W.rowI w))), ((5 : Nat), (AV.ptr (5 : Nat) [])), ((6 : Nat), (AV.sb true)), ((7 : Nat), (AV.sb true)), ((23 : Nat), (AV.v (Value.bool true)))] [((5 : Nat), (Blk.c (AV.arr (3 : Nat) (1 : Nat) (W.rowI w))))] [(5 : Nat)]))) ∧
 ((decide ((((List.length b) : Nat) : Int) > (300 : Int))) = false → 
 (((decide ((((List.length ps) : Nat) : Int) > (6 : Int))) = true → 
  (Φ Ex.ret (St.mk [((0 : Nat), (AV.dat (List.length b) eb (1 : Nat) (rowL b))), ((1 : Nat), (AV.dat (List.length ps) ex (1 : Nat) (fun (i : Nat) => (AV.dat (List.length (List.getD ps i [])) (exs i) (1 : Nat) (rowL (List.getD ps i [])))))), ((2 : Nat), (AV.arr (3 : Nat) (1 : Nat) (W.rowI w))), ((5 : Nat), (AV.ptr (5 : Nat) [])), ((6 : Nat), (AV.sb true)), ((7 : Nat), (AV.sb true)), ((23 : Nat), (AV.v (Value.bool true)))] [((5 : Nat), (Blk.c (AV.arr (3 : Nat) (1 : Nat) (W.rowI w))))] [(5 : Nat)]))) ∧
  ((decide ((((List.length ps) : Nat) : Int) > (6 : Int))) = false → 
  ((((0 : Int) ≤ (1 : Int)) ∧ ((1 : Int) < (3 : Int))) ∧
   (((decide ((List.getD w (1 : Nat) (0 : Int)) > (200 : Int))) = true → 
   (Φ Ex.ret (St.mk [((0 : Nat), (AV.dat (List.length b) eb (1 : Nat) (rowL b))), ((1 : Nat), (AV.dat (List.length ps) ex (1 : Nat) (fun (i : Nat) => (AV.dat (List.length (List.getD ps i [])) (exs i) (1 : Nat) (rowL (List.getD ps i [])))))), ((2 : Nat), (AV.arr (3 : Nat) (1 : Nat) (W.rowI w))), ((5 : Nat), (AV.ptr (5 : Nat) [])), ((6 : Nat), (AV.sb true)), ((7 : Nat), (AV.sb true)), ((23 : Nat), (AV.v (Value.bool true)))] [((5 : Nat), (Blk.c (AV.arr (3 : Nat) (1 : Nat) (W.rowI w))))] [(5 : Nat)]))) ∧
   ((decide ((List.getD w (1 : Nat) (0 : Int)) > (200 : Int))) = false → 
   (LoopOK W.C W.P (82 : Nat) [] K (bodyAt b_lm [1, 1, 1, 0, 1, 0]) (St.mk [((0 : Nat), (AV.dat (List.length b) eb (1 : Nat) (rowL b))), ((1 : Nat), (AV.dat (List.length ps) ex (1 : Nat) (fun (i : Nat) => (AV.dat (List.length (List.getD ps i [])) (exs i) (1 : Nat) (rowL (List.getD ps i [])))))), ((2 : Nat), (AV.arr (3 : Nat) (1 : Nat) (W.rowI w))), ((5 : Nat), (AV.ptr (5 : Nat) [])), ((6 : Nat), (AV.v (Value.bool false))), ((7 : Nat), (AV.sb true)), ((8 : Nat), (AV.v (Value.int IntKind.i64 (0 : Int)))), ((23 : Nat), (AV.v (Value.bool false)))] [((5 : Nat), (Blk.c (AV.arr (3 : Nat) (1 : Nat) (W.rowI w))))] [(5 : Nat)]) (fun (e : Ex) (S' : St) => Holds W.C W.P (82 : Nat) [] K Φ (after W.C w_lm b_lm [1, 1, 1, 0, 1, 0] [] lf e S')))))))))))) := by kernel_rfl
noncomputable abbrev bd_lm_0 : Code := bodyAt (b_lm) [1, 1, 1, 0, 1, 0]
theorem ok_lm_0 : codeOK bd_lm_0 = true := by kernel_rfl
noncomputable abbrev rest_lm_0 (K : Nat) (Φ : Ex → St → Prop) : Ex → St → Prop := fun e S' => Holds C P 82 [] K Φ (after C w_lm (b_lm) [1, 1, 1, 0, 1, 0] [] lf e S')
theorem lm_L0 (eb ex : Bool) (exs : Nat → Bool) (b : List Nat) (ps : List (List Nat)) (w : List Int) (i : Nat) (K : Nat) (Φ : Ex → St → Prop) :
  (Holds C P 82 [] K (RoundQ C 82 [] K (I_lm0 eb ex exs b ps w) (fun i => i ≤ ps.length ∧ ∀ j, j < i → (ps.getD j []).length ≤ 100) (fun i => ps.length - i) ((fun i => ps.length - i) (i)) (rest_lm_0 K Φ)) (vc C w_lm bd_lm_0 [] ((I_lm0 eb ex exs b ps w) (i)) lf)) =
  (((decide (((i : Nat) : Int) < (((List.length ps) : Nat) : Int))) = true → 
 ((((0 : Int) ≤ ((i : Nat) : Int)) ∧ (((i : Nat) : Int) < (((List.length ps) : Nat) : Int))) ∧
  (((decide ((((List.length (List.getD ps i [])) : Nat) : Int) > (100 : Int))) = true → 
  (Φ Ex.ret (St.mk [((0 : Nat), (AV.dat (List.length b) eb (1 : Nat) (rowL b))), ((1 : Nat), (AV.dat (List.length ps) ex (1 : Nat) (fun (i1 : Nat) => (AV.dat (List.length (List.getD ps i1 [])) (exs i1) (1 : Nat) (rowL (List.getD ps i1 [])))))), ((5 : Nat), (AV.ptr (5 : Nat) [])), ((6 : Nat), (AV.sb true)), ((7 : Nat), (AV.sb true)), ((8 : Nat), (AV.v (Value.int IntKind.i64 ((i : Nat) : Int)))), ((28 : Nat), (AV.v (Value.bool true))), ((36 : Nat), (AV.v (Value.bool true)))] [((5 : Nat), (Blk.c (AV.arr (3 : Nat) (1 : Nat) (W.rowI w))))] [(5 : Nat)]))) ∧
  ((decide ((((List.length (List.getD ps i [])) : Nat) : Int) > (100 : Int))) = false → 
  ((I64 (((i + 1) : Nat) : Int)) ∧
   ((RoundQ C 82 [] K (I_lm0 eb ex exs b ps w) (fun i => i ≤ ps.length ∧ ∀ j, j < i → (ps.getD j []).length ≤ 100) (fun i => ps.length - i) ((fun i => ps.length - i) (i)) (rest_lm_0 K Φ)) Ex.normal (St.mk [((0 : Nat), (AV.dat (List.length b) eb (1 : Nat) (rowL b))), ((1 : Nat), (AV.dat (List.length ps) ex (1 : Nat) (fun (i1 : Nat) => (AV.dat (List.length (List.getD ps i1 [])) (exs i1) (1 : Nat) (rowL (List.getD ps i1 [])))))), ((5 : Nat), (AV.ptr (5 : Nat) [])), ((6 : Nat), (AV.sb false)), ((7 : Nat), (AV.sb true)), ((8 : Nat), (AV.v (Value.int IntKind.i64 (((i + 1) : Nat) : Int)))), ((28 : Nat), (AV.v (Value.bool true))), ((36 : Nat), (AV.v (Value.bool false)))] [((5 : Nat), (Blk.c (AV.arr (3 : Nat) (1 : Nat) (W.rowI w))))] [(5 : Nat)]))))))) ∧
 ((decide (((i : Nat) : Int) < (((List.length ps) : Nat) : Int))) = false → 
 (∃ (S2 : St), Ent W.C (82 : Nat) [] K (St.mk [((0 : Nat), (AV.dat (List.length b) eb (1 : Nat) (rowL b))), ((1 : Nat), (AV.dat (List.length ps) ex (1 : Nat) (fun (i1 : Nat) => (AV.dat (List.length (List.getD ps i1 [])) (exs i1) (1 : Nat) (rowL (List.getD ps i1 [])))))), ((5 : Nat), (AV.ptr (5 : Nat) [])), ((6 : Nat), (AV.sb false)), ((7 : Nat), (AV.sb true)), ((8 : Nat), (AV.v (Value.int IntKind.i64 ((i : Nat) : Int)))), ((28 : Nat), (AV.v (Value.bool false)))] [((5 : Nat), (Blk.c (AV.arr (3 : Nat) (1 : Nat) (W.rowI w))))] [(5 : Nat)]) S2 ∧ Holds W.C W.P (82 : Nat) [] K Φ (cutAt W.C w_lm b_lm [1, 1, 1, 1, 0] S2 (after W.C w_lm b_lm [1, 1, 1, 1, 0] [] lf))))) := by kernel_rfl
theorem lm_C9 (eb ex : Bool) (exs : Nat → Bool) (b : List Nat) (ps : List (List Nat)) (w : List Int) (K : Nat) (Φ : Ex → St → Prop) :
  (Holds C P 82 [] K Φ (cutAt C w_lm b_lm [1, 1, 1, 1, 0] (S_lm9 eb ex exs b ps w) (after C w_lm b_lm [1, 1, 1, 1, 0] [] lf))) =
  (Fun W.C W.P (11 : Nat) [(AV.dat (List.length b) eb (1 : Nat) (rowL b))] [] (AV.arr (32 : Nat) (1 : Nat) (fun (i : Nat) => (AV.v (Value.int IntKind.u8 (((Sp.sumN (bytesL (List.length b) (rowL b)) i) : Nat) : Int))))) [] ∧
 ((∀ (i : Nat), ((i < (32 : Nat)) → True)) ∧
 ((((32 : Nat) = (32 : Nat)) ∧ (((1 : Nat) = (1 : Nat)) ∧ (∀ (i : Nat), ((i < (32 : Nat)) → ((true = true) ∧ (Bool.true = true)))))) ∧
 (Fun W.C W.P (12 : Nat) [(AV.dat (List.length b) eb (1 : Nat) (rowL b))] [] (AV.arr (32 : Nat) (1 : Nat) (fun (i : Nat) => (AV.v (Value.int IntKind.u8 (((Sp.sumN (bytesL (List.length b) (rowL b)) i) : Nat) : Int))))) [] ∧
 ((∀ (i : Nat), ((i < (32 : Nat)) → True)) ∧
 ((∀ (i : Nat), ((i < (32 : Nat)) → ((IntKind.u8 = IntKind.u8) ∧ (IntKind.u8 = IntKind.u8)))) ∧
 (((!(List.all (List.range (32 : Nat)) (fun (i : Nat) => ((((Sp.sumN (bytesL (List.length b) (rowL b)) i) : Nat) : Int) == (((Sp.sumN (bytesL (List.length b) (rowL b)) i) : Nat) : Int))))) = true → 
 (Φ Ex.ret (St.mk [((0 : Nat), (AV.dat (List.length b) eb (1 : Nat) (rowL b))), ((1 : Nat), (AV.dat (List.length ps) ex (1 : Nat) (fun (i : Nat) => (AV.dat (List.length (List.getD ps i [])) (exs i) (1 : Nat) (rowL (List.getD ps i [])))))), ((5 : Nat), (AV.ptr (5 : Nat) [])), ((6 : Nat), (AV.v (Value.bool false))), ((7 : Nat), (AV.sb true)), ((9 : Nat), (AV.ptr (9 : Nat) [])), ((50 : Nat), (AV.v (Value.bool true)))] [((5 : Nat), (Blk.c (AV.arr (3 : Nat) (1 : Nat) (W.rowI w)))), ((9 : Nat), (Blk.c (AV.arr (32 : Nat) (1 : Nat) (fun (i : Nat) => (AV.v (Value.int IntKind.u8 (((Sp.sumN (bytesL (List.length b) (rowL b)) i) : Nat) : Int)))))))] [(9 : Nat), (5 : Nat)]))) ∧
 ((!(List.all (List.range (32 : Nat)) (fun (i : Nat) => ((((Sp.sumN (bytesL (List.length b) (rowL b)) i) : Nat) : Int) == (((Sp.sumN (bytesL (List.length b) (rowL b)) i) : Nat) : Int))))) = false → 
 (Fun W.C W.P (13 : Nat) [(AV.arr (32 : Nat) (1 : Nat) (fun (i : Nat) => (AV.v (Value.int IntKind.u8 (((Sp.sumN (bytesL (List.length b) (rowL b)) i) : Nat) : Int)))))] [] (AV.v (Value.string (W.hexB (bytesL (32 : Nat) (fun (i : Nat) => (AV.v (Value.int IntKind.u8 (((Sp.sumN (bytesL (List.length b) (rowL b)) i) : Nat) : Int)))))))) [] ∧
  (True ∧
  (Fun W.C W.P (14 : Nat) [(AV.arr (32 : Nat) (1 : Nat) (fun (i : Nat) => (AV.v (Value.int IntKind.u8 (((Sp.sumN (bytesL (List.length b) (rowL b)) i) : Nat) : Int)))))] [] (AV.v (Value.string (W.hexB (bytesL (32 : Nat) (fun (i : Nat) => (AV.v (Value.int IntKind.u8 (((Sp.sumN (bytesL (List.length b) (rowL b)) i) : Nat) : Int)))))))) [] ∧
  (True ∧
  (((!((ByteArray.toList (W.hexB (bytesL (32 : Nat) (fun (i : Nat) => (AV.v (Value.int IntKind.u8 (((Sp.sumN (bytesL (List.length b) (rowL b)) i) : Nat) : Int))))))) == (ByteArray.toList (W.hexB (bytesL (32 : Nat) (fun (i : Nat) => (AV.v (Value.int IntKind.u8 (((Sp.sumN (bytesL (List.length b) (rowL b)) i) : Nat) : Int))))))))) = true → 
  (Φ Ex.ret (St.mk [((0 : Nat), (AV.dat (List.length b) eb (1 : Nat) (rowL b))), ((1 : Nat), (AV.dat (List.length ps) ex (1 : Nat) (fun (i : Nat) => (AV.dat (List.length (List.getD ps i [])) (exs i) (1 : Nat) (rowL (List.getD ps i [])))))), ((5 : Nat), (AV.ptr (5 : Nat) [])), ((6 : Nat), (AV.v (Value.bool false))), ((7 : Nat), (AV.sb true)), ((9 : Nat), (AV.ptr (9 : Nat) [])), ((50 : Nat), (AV.v (Value.bool true)))] [((5 : Nat), (Blk.c (AV.arr (3 : Nat) (1 : Nat) (W.rowI w)))), ((9 : Nat), (Blk.c (AV.arr (32 : Nat) (1 : Nat) (fun (i : Nat) => (AV.v (Value.int IntKind.u8 (((Sp.sumN (bytesL (List.length b) (rowL b)) i) : Nat) : Int)))))))] [(9 : Nat), (5 : Nat)]))) ∧
  ((!((ByteArray.toList (W.hexB (bytesL (32 : Nat) (fun (i : Nat) => (AV.v (Value.int IntKind.u8 (((Sp.sumN (bytesL (List.length b) (rowL b)) i) : Nat) : Int))))))) == (ByteArray.toList (W.hexB (bytesL (32 : Nat) (fun (i : Nat) => (AV.v (Value.int IntKind.u8 (((Sp.sumN (bytesL (List.length b) (rowL b)) i) : Nat) : Int))))))))) = false → 
  (∃ (S2 : St), Ent W.C (82 : Nat) [] K (St.mk [((0 : Nat), (AV.dat (List.length b) eb (1 : Nat) (rowL b))), ((1 : Nat), (AV.dat (List.length ps) ex (1 : Nat) (fun (i : Nat) => (AV.dat (List.length (List.getD ps i [])) (exs i) (1 : Nat) (rowL (List.getD ps i [])))))), ((5 : Nat), (AV.ptr (5 : Nat) [])), ((6 : Nat), (AV.sb false)), ((7 : Nat), (AV.sb true)), ((9 : Nat), (AV.ptr (9 : Nat) [])), ((50 : Nat), (AV.v (Value.bool false)))] [((5 : Nat), (Blk.c (AV.arr (3 : Nat) (1 : Nat) (W.rowI w)))), ((9 : Nat), (Blk.c (AV.arr (32 : Nat) (1 : Nat) (fun (i : Nat) => (AV.v (Value.int IntKind.u8 (((Sp.sumN (bytesL (List.length b) (rowL b)) i) : Nat) : Int)))))))] [(9 : Nat), (5 : Nat)]) S2 ∧ Holds W.C W.P (82 : Nat) [] K Φ (cutAt W.C w_lm b_lm [1, 1, 1, 1, 1, 1, 0] S2 (after W.C w_lm b_lm [1, 1, 1, 1, 1, 1, 0] [] lf))))))))))))))))) := by kernel_rfl
theorem lm_C12 (ex : Bool) (exs : Nat → Bool) (s : List Nat) (ps : List (List Nat)) (w : List Int) (K : Nat) (Φ : Ex → St → Prop) :
  (Holds C P 82 [] K Φ (cutAt C w_lm b_lm [1, 1, 1, 1, 1, 1, 0] (S_lm12 ex exs s ps w) (after C w_lm b_lm [1, 1, 1, 1, 1, 1, 0] [] lf))) =
  ((true = true → 
 ((((0 : Int) ≤ (2 : Int)) ∧ ((2 : Int) < (3 : Int))) ∧
  (Fun W.C W.P (15 : Nat) [(AV.v (Value.int IntKind.u8 (IntKind.wrap IntKind.u8 (List.getD w (2 : Nat) (0 : Int))))), (AV.dat (List.length ps) ex (1 : Nat) (fun (i : Nat) => (AV.dat (List.length (List.getD ps i [])) (exs i) (1 : Nat) (rowL (List.getD ps i [])))))] [] (AV.arr (32 : Nat) (1 : Nat) (fun (i : Nat) => (AV.v (Value.int IntKind.u8 (((Sp.sumN (Sp.ofBytes (Int.toNat (IntKind.wrap IntKind.u8 (List.getD w (2 : Nat) (0 : Int)))) (partsL (List.length ps) (fun (i1 : Nat) => (AV.dat (List.length (List.getD ps i1 [])) (exs i1) (1 : Nat) (rowL (List.getD ps i1 [])))))) i) : Nat) : Int))))) [] ∧
  ((∀ (i : Nat), ((i < (32 : Nat)) → True)) ∧
  ((((0 : Int) ≤ (2 : Int)) ∧ ((2 : Int) < (3 : Int))) ∧
  (Fun W.C W.P (16 : Nat) [(AV.v (Value.int IntKind.u8 (IntKind.wrap IntKind.u8 (List.getD w (2 : Nat) (0 : Int))))), (AV.dat (List.length ps) ex (1 : Nat) (fun (i : Nat) => (AV.dat (List.length (List.getD ps i [])) (exs i) (1 : Nat) (rowL (List.getD ps i [])))))] [] (AV.arr (32 : Nat) (1 : Nat) (fun (i : Nat) => (AV.v (Value.int IntKind.u8 (((Sp.sumN (Sp.ofBytes (Int.toNat (IntKind.wrap IntKind.u8 (List.getD w (2 : Nat) (0 : Int)))) (partsL (List.length ps) (fun (i1 : Nat) => (AV.dat (List.length (List.getD ps i1 [])) (exs i1) (1 : Nat) (rowL (List.getD ps i1 [])))))) i) : Nat) : Int))))) [] ∧
  ((∀ (i : Nat), ((i < (32 : Nat)) → True)) ∧
  ((∀ (i : Nat), ((i < (32 : Nat)) → ((IntKind.u8 = IntKind.u8) ∧ (IntKind.u8 = IntKind.u8)))) ∧
  (((List.all (List.range (32 : Nat)) (fun (i : Nat) => ((((Sp.sumN (Sp.ofBytes (Int.toNat (IntKind.wrap IntKind.u8 (List.getD w (2 : Nat) (0 : Int)))) (partsL (List.length ps) (fun (i1 : Nat) => (AV.dat (List.length (List.getD ps i1 [])) (exs i1) (1 : Nat) (rowL (List.getD ps i1 [])))))) i) : Nat) : Int) == (((Sp.sumN (Sp.ofBytes (Int.toNat (IntKind.wrap IntKind.u8 (List.getD w (2 : Nat) (0 : Int)))) (partsL (List.length ps) (fun (i1 : Nat) => (AV.dat (List.length (List.getD ps i1 [])) (exs i1) (1 : Nat) (rowL (List.getD ps i1 [])))))) i) : Nat) : Int)))) = true → 
  ((((0 : Int) ≤ (0 : Int)) ∧ ((0 : Int) < (3 : Int))) ∧
   ((((0 : Int) ≤ (1 : Int)) ∧ ((1 : Int) < (3 : Int))) ∧
   (Fun W.C W.P (17 : Nat) [(AV.arr (32 : Nat) (1 : Nat) (rowL s)), (AV.v (Value.int IntKind.i64 (List.getD w (0 : Nat) (0 : Int)))), (AV.v (Value.int IntKind.i64 (List.getD w (1 : Nat) (0 : Int))))] [] (AV.sl (0 : Nat) [] (0 : Nat) (Int.toNat (List.getD w (1 : Nat) (0 : Int))) (Int.toNat (List.getD w (1 : Nat) (0 : Int))) false (1 : Nat)) [((0 : Nat), (Blk.c (AV.arr (Int.toNat (List.getD w (1 : Nat) (0 : Int))) (1 : Nat) (fun (i : Nat) => (AV.v (Value.int IntKind.u8 (((W.streamN (bytesL (32 : Nat) (rowL s)) (List.getD w (0 : Nat) (0 : Int)) (Int.toNat (List.getD w (1 : Nat) (0 : Int))) i) : Nat) : Int)))))))] ∧
   ((∀ (i : Nat), ((i < (Int.toNat (List.getD w (1 : Nat) (0 : Int)))) → (((0 : Int) ≤ (((W.streamN (bytesL (32 : Nat) (rowL s)) (List.getD w (0 : Nat) (0 : Int)) (Int.toNat (List.getD w (1 : Nat) (0 : Int))) ((0 : Nat) + i)) : Nat) : Int)) ∧ ((((W.streamN (bytesL (32 : Nat) (rowL s)) (List.getD w (0 : Nat) (0 : Int)) (Int.toNat (List.getD w (1 : Nat) (0 : Int))) ((0 : Nat) + i)) : Nat) : Int) < (256 : Int))))) ∧
   ((((0 : Int) ≤ (0 : Int)) ∧ ((0 : Int) < (3 : Int))) ∧
   ((((0 : Int) ≤ (1 : Int)) ∧ ((1 : Int) < (3 : Int))) ∧
   (Fun W.C W.P (18 : Nat) [(AV.arr (32 : Nat) (1 : Nat) (rowL s)), (AV.v (Value.int IntKind.i64 (List.getD w (0 : Nat) (0 : Int)))), (AV.v (Value.int IntKind.i64 (List.getD w (1 : Nat) (0 : Int))))] [] (AV.sl (0 : Nat) [] (0 : Nat) (Int.toNat (List.getD w (1 : Nat) (0 : Int))) (W.upN (List.getD w (1 : Nat) (0 : Int))) false (1 : Nat)) [((0 : Nat), (Blk.c (AV.arr (W.upN (List.getD w (1 : Nat) (0 : Int))) (1 : Nat) (fun (i : Nat) => (AV.v (Value.int IntKind.u8 (((W.streamN (bytesL (32 : Nat) (rowL s)) (List.getD w (0 : Nat) (0 : Int)) (W.upN (List.getD w (1 : Nat) (0 : Int))) i) : Nat) : Int)))))))] ∧
   ((∀ (i : Nat), ((i < (Int.toNat (List.getD w (1 : Nat) (0 : Int)))) → (((0 : Int) ≤ (((W.streamN (bytesL (32 : Nat) (rowL s)) (List.getD w (0 : Nat) (0 : Int)) (W.upN (List.getD w (1 : Nat) (0 : Int))) ((0 : Nat) + i)) : Nat) : Int)) ∧ ((((W.streamN (bytesL (32 : Nat) (rowL s)) (List.getD w (0 : Nat) (0 : Int)) (W.upN (List.getD w (1 : Nat) (0 : Int))) ((0 : Nat) + i)) : Nat) : Int) < (256 : Int))))) ∧
   (Φ Ex.ret (St.mk [((1 : Nat), (AV.dat (List.length ps) ex (1 : Nat) (fun (i : Nat) => (AV.dat (List.length (List.getD ps i [])) (exs i) (1 : Nat) (rowL (List.getD ps i [])))))), ((5 : Nat), (AV.ptr (5 : Nat) [])), ((6 : Nat), (AV.sb ((ByteArray.toList (bytesOf (Int.toNat (List.getD w (1 : Nat) (0 : Int))) (fun (i : Nat) => (AV.v (Value.int IntKind.u8 (((W.streamN (bytesL (32 : Nat) (rowL s)) (List.getD w (0 : Nat) (0 : Int)) (Int.toNat (List.getD w (1 : Nat) (0 : Int))) ((0 : Nat) + i)) : Nat) : Int)))))) == (ByteArray.toList (bytesOf (Int.toNat (List.getD w (1 : Nat) (0 : Int))) (fun (i : Nat) => (AV.v (Value.int IntKind.u8 (((W.streamN (bytesL (32 : Nat) (rowL s)) (List.getD w (0 : Nat) (0 : Int)) (W.upN (List.getD w (1 : Nat) (0 : Int))) ((0 : Nat) + i)) : Nat) : Int))))))))), ((7 : Nat), (AV.sb true)), ((9 : Nat), (AV.ptr (9 : Nat) []))] [((5 : Nat), (Blk.c (AV.arr (3 : Nat) (1 : Nat) (W.rowI w)))), ((9 : Nat), (Blk.c (AV.arr (32 : Nat) (1 : Nat) (rowL s)))), ((71 : Nat), (Blk.c (AV.arr (Int.toNat (List.getD w (1 : Nat) (0 : Int))) (1 : Nat) (fun (i : Nat) => (AV.v (Value.int IntKind.u8 (((W.streamN (bytesL (32 : Nat) (rowL s)) (List.getD w (0 : Nat) (0 : Int)) (Int.toNat (List.getD w (1 : Nat) (0 : Int))) i) : Nat) : Int))))))), ((78 : Nat), (Blk.c (AV.arr (W.upN (List.getD w (1 : Nat) (0 : Int))) (1 : Nat) (fun (i : Nat) => (AV.v (Value.int IntKind.u8 (((W.streamN (bytesL (32 : Nat) (rowL s)) (List.getD w (0 : Nat) (0 : Int)) (W.upN (List.getD w (1 : Nat) (0 : Int))) i) : Nat) : Int)))))))] [(78 : Nat), (71 : Nat), (5 : Nat), (9 : Nat)]))))))))))) ∧
  ((List.all (List.range (32 : Nat)) (fun (i : Nat) => ((((Sp.sumN (Sp.ofBytes (Int.toNat (IntKind.wrap IntKind.u8 (List.getD w (2 : Nat) (0 : Int)))) (partsL (List.length ps) (fun (i1 : Nat) => (AV.dat (List.length (List.getD ps i1 [])) (exs i1) (1 : Nat) (rowL (List.getD ps i1 [])))))) i) : Nat) : Int) == (((Sp.sumN (Sp.ofBytes (Int.toNat (IntKind.wrap IntKind.u8 (List.getD w (2 : Nat) (0 : Int)))) (partsL (List.length ps) (fun (i1 : Nat) => (AV.dat (List.length (List.getD ps i1 [])) (exs i1) (1 : Nat) (rowL (List.getD ps i1 [])))))) i) : Nat) : Int)))) = false → 
  (Φ Ex.ret (St.mk [((1 : Nat), (AV.dat (List.length ps) ex (1 : Nat) (fun (i : Nat) => (AV.dat (List.length (List.getD ps i [])) (exs i) (1 : Nat) (rowL (List.getD ps i [])))))), ((5 : Nat), (AV.ptr (5 : Nat) [])), ((6 : Nat), (AV.v (Value.bool false))), ((7 : Nat), (AV.sb true)), ((9 : Nat), (AV.ptr (9 : Nat) []))] [((5 : Nat), (Blk.c (AV.arr (3 : Nat) (1 : Nat) (W.rowI w)))), ((9 : Nat), (Blk.c (AV.arr (32 : Nat) (1 : Nat) (rowL s))))] [(5 : Nat), (9 : Nat)])))))))))))) ∧
 (true = false → 
 (Φ Ex.ret (St.mk [((1 : Nat), (AV.dat (List.length ps) ex (1 : Nat) (fun (i : Nat) => (AV.dat (List.length (List.getD ps i [])) (exs i) (1 : Nat) (rowL (List.getD ps i [])))))), ((5 : Nat), (AV.ptr (5 : Nat) [])), ((6 : Nat), (AV.v (Value.bool false))), ((7 : Nat), (AV.sb true)), ((9 : Nat), (AV.ptr (9 : Nat) []))] [((5 : Nat), (Blk.c (AV.arr (3 : Nat) (1 : Nat) (W.rowI w)))), ((9 : Nat), (Blk.c (AV.arr (32 : Nat) (1 : Nat) (rowL s))))] [(5 : Nat), (9 : Nat)])))) := by kernel_rfl

theorem wrap8 (z : Int) : ∃ t : Nat, IntKind.wrap IntKind.u8 z = (t : Int) ∧ t < 256 := by
  have h0 : 0 ≤ z % 256 := Int.emod_nonneg _ (by decide)
  have h1 : z % 256 < 256 := Int.emod_lt_of_pos _ (by decide)
  refine ⟨(z % 256).toNat, ?_, by omega⟩
  rw [Int.toNat_of_nonneg h0]
  simp [IntKind.wrap, IntKind.bits, IntKind.signed]

theorem lm_tail (ex : Bool) (exs : Nat → Bool) (s : List Nat) (ps : List (List Nat)) (w : List Int) (hs : Small s) (hk : s.length = 32) (hp : ∀ p ∈ ps, Small p) (hn : ∀ t, (ofBytes t ps).length < 2 ^ 46) (hid : I64 (w.getD 0 0)) (h200 : w.getD 1 0 ≤ 200) :
    Holds C P 82 [] 0 (FunPost C 82 0 [.tmp 6] (.sb true) []) (cutAt C w_lm b_lm [1, 1, 1, 1, 1, 1, 0] (S_lm12 ex exs s ps w) (after C w_lm b_lm [1, 1, 1, 1, 1, 1, 0] [] lf)) := by
  refine of_eq (lm_C12 ex exs s ps w 0 _) ⟨fun _ => ?_, nofun⟩
  obtain ⟨t, ht, hlt⟩ := wrap8 (w.getD 2 0)
  have hb1 : bytesL 32 (rowL s) = s := bytesL_of hk.symm fun _ _ => rfl
  have ho := of_call (tag := t) (ex := ex) (e := 1) hlt (parts_dp (exs := exs) hp) (.inr rfl) (by rw [partsL_dp]; exact hn t)
  have hr := rof_fun t ex exs ps hlt hp (hn t)
  rw [partsL_dp] at ho
  rw [ht, Int.toNat_natCast, partsL_dp exs ps, hb1]
  have hN : (w.getD 1 0).toNat < 2 ^ 40 := by omega
  have hc1 := stream_fun s (w.getD 0 0) (w.getD 1 0) hk hs hid hN
  have hc2 := rstream_fun s (w.getD 0 0) (w.getD 1 0) hk hs hid hN
  refine ⟨(by first | omega | decide | (unfold I64; omega)), ho, fun _ _ => trivial, (by first | omega | decide | (unfold I64; omega)), hr, fun _ _ => trivial, fun _ _ => ⟨rfl, rfl⟩, fun _ => ⟨(by first | omega | decide | (unfold I64; omega)), (by first | omega | decide | (unfold I64; omega)), hc1, fun i1 _ => u8_in (streamN_lt ..), (by first | omega | decide | (unfold I64; omega)), (by first | omega | decide | (unfold I64; omega)), hc2, fun i1 _ => u8_in (streamN_lt ..), post_tmp rfl (sm_sb ?_)⟩, fun h => ?_⟩
  · refine str_eq (b8_stream _ _ _ _ _) (b8_stream _ _ _ _ _) (bytesL_congr fun i hi => ?_)
    have hup : (w.getD 1 0).toNat ≤ upN (w.getD 1 0) := by unfold upN; omega
    unfold streamN
    rw [Nat.zero_add, streamL_get _ _ hi, streamL_get _ _ (by omega)]
  · rw [show ((List.range 32).all fun i => ((sumN (ofBytes t ps) i : Nat) : Int) == ((sumN (ofBytes t ps) i : Nat) : Int)) = true by simp] at h
    cases h

theorem lm_fun (eb ex : Bool) (exs : Nat → Bool) (b : List Nat) (ps : List (List Nat)) (w : List Int) (hb : Small b) (hp : ∀ p ∈ ps, Small p) (hid : I64 (w.getD 0 0)) :
    Fun C P F_lm [db' eb b, dp ex exs ps, .arr 3 1 (rowI w)] [] (.sb true) [] := by
  refine in_lm (W := w_lm) rfl 0 (by simp) rfl (fun id h => absurd rfl h) ?_
  refine of_eq (lm_A eb ex exs b ps w 0 _) ⟨sanity_fun, trivial, fun _ => post_tmp rfl (sm_same rfl), fun h1 => ⟨fun _ => post_tmp rfl (sm_same rfl), fun h2 => ⟨(by first | omega | decide | (unfold I64; omega)), fun _ => post_tmp rfl (sm_same rfl), fun h3 => ?_⟩⟩⟩
  simp only [gt_iff_lt, decide_eq_false_iff_not] at h1 h2 h3
  refine loop_inv (W := w_lm) ctx mixed ok_lm_0 (I_lm0 eb ex exs b ps w) (fun i => i ≤ ps.length ∧ ∀ j, j < i → (ps.getD j []).length ≤ 100) (fun i => ps.length - i) 0 ⟨Nat.zero_le _, fun j hj => absurd hj (Nat.not_lt_zero j)⟩ ?_ fun i hi => ?_
  · exact ent_of [(5, 5)] rfl (tm_cons rfl (sm_same rfl) (tm_cons rfl (sm_same rfl) (tm_cons rfl (sm_ptr rfl) (tm_cons rfl (sm_b rfl) (tm_cons rfl (sm_same rfl) (tm_cons rfl (sm_same rfl) tm_nil)))))) (hp_cons rfl rfl (sm_same rfl) hp_nil)
  obtain ⟨hi, hall⟩ := hi
  refine of_eq (lm_L0 eb ex exs b ps w i 0 _) ⟨fun h => ?_, fun h => ?_⟩
  · simp only [decide_eq_true_eq] at h
    refine ⟨(by first | omega | decide | (unfold I64; omega)), fun _ => post_tmp rfl (sm_same rfl), fun h4 => ?_⟩
    simp only [gt_iff_lt, decide_eq_false_iff_not] at h4
    refine ⟨(by first | omega | decide | (unfold I64; omega)), round_end (i + 1) ⟨by omega, fun j hj => ?_⟩ (ent_of [(5, 5)] rfl (tm_cons rfl (sm_same rfl) (tm_cons rfl (sm_same rfl) (tm_cons rfl (sm_ptr rfl) (tm_cons rfl (sm_same rfl) (tm_cons rfl (sm_same rfl) (tm_cons rfl (sm_same rfl) tm_nil)))))) (hp_cons rfl rfl (sm_same rfl) hp_nil)) (by dsimp only; omega)⟩
    by_cases e : j = i
    · subst e; omega
    · exact hall j (by omega)
  simp only [decide_eq_false_iff_not] at h
  obtain rfl : i = ps.length := by omega
  have hn : ∀ t, (ofBytes t ps).length < 2 ^ 46 := fun t => by
    have := allN_bound (tag := t) ps.length (Nat.le_refl _) hall
    rw [allN_all] at this
    omega
  refine cut_ok (S2 := S_lm9 eb ex exs b ps w) (ent_of [(5, 5)] rfl (tm_cons rfl (sm_same rfl) (tm_cons rfl (sm_same rfl) (tm_cons rfl (sm_ptr rfl) (tm_cons rfl (sm_same rfl) (tm_cons rfl (sm_same rfl) tm_nil))))) (hp_cons rfl rfl (sm_same rfl) hp_nil)) ?_
  refine of_eq (lm_C9 eb ex exs b ps w 0 _) ?_
  have hs1 := sum_call (ex := eb) (e := 1) (B8_row hb b.length) (.inr rfl) (by omega)
  have hs2 := rsum_call (ex := eb) (e := 1) (B8_row hb b.length) (.inr rfl) (by omega)
  rw [bytesL_row] at hs1 hs2 ⊢
  refine ⟨hs1, fun _ _ => trivial, ⟨rfl, rfl, fun _ _ => ⟨rfl, rfl⟩⟩, hs2, fun _ _ => trivial, fun _ _ => ⟨rfl, rfl⟩, not_then (by simp) ⟨print_call (b8_sum b), trivial, rprint_call (b8_sum b), trivial, not_then (by simp) ?_⟩⟩
  refine cut_ok (S2 := S_lm12 ex exs (sumL b) ps w) (ent_of [(5, 5), (9, 9)] rfl (tm_cons rfl (sm_same rfl) (tm_cons rfl (sm_ptr rfl) (tm_cons rfl (sm_same rfl) (tm_cons rfl (sm_same rfl) (tm_cons rfl (sm_ptr rfl) tm_nil))))) (hp_cons rfl rfl (sm_same rfl) (hp_cons rfl rfl (sm_arr fun j hj => ?_) hp_nil))) (lm_tail ex exs (sumL b) ps w (small_sumL b) (by simp [sumL]) hp hn hid (by omega))
  exact congrArg (fun z : Nat => u8 z) (sumL_get b hj).symm

theorem lm_law {x0 x1 x2 : AV} (h0 : Typed C.tt 6 22 x0) (h1 : Typed C.tt 6 23 x1) (h2 : Typed C.tt 6 24 x2) : Fun C P F_lm [x0, x1, x2] [] (.sb true) [] := by
  obtain ⟨b, eb, hb, nb, s0⟩ := typed_bytes (e := 5) rfl rfl rfl h0
  obtain ⟨ps, ex, exs, hp, _, s1⟩ := typed_parts (s := 22) (e := 5) rfl rfl rfl rfl rfl h1
  obtain ⟨f, rfl, hf⟩ : ∃ f, x2 = .arr 3 1 f ∧ ∀ i, i < 3 → Typed C.tt 5 3 (f i) := h2
  obtain ⟨z0, e0, b0⟩ := typed_i64 rfl (hf 0 (by decide))
  obtain ⟨z1, e1, b1⟩ := typed_i64 rfl (hf 1 (by decide))
  obtain ⟨z2, e2, b2⟩ := typed_i64 rfl (hf 2 (by decide))
  refine (lm_fun eb ex exs b ps [z0, z1, z2] hb (fun p hm => (hp p hm).1) b0).sim ⟨s0, s1, sm_arr fun i hi => ?_, trivial⟩ trivial
  match i, hi with
  | 0, _ => exact e0
  | 1, _ => exact e1
  | 2, _ => exact e2
end Go.Bu.W

