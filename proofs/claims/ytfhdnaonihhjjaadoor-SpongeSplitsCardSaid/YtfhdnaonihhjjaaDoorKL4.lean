/- Different lists of parts, or tags, have different bytes; the hash of parts is the hash of these bytes. -/
import Derived.Test.YtfhdnaonihhjjaaDoorKR1
import Derived.Test.YtfhdnaonihhjjaaDoorKL1
namespace Go.Bu.W
open Sp
def w_lsp : Way := wayR [0, 1, 2, 5, 6, 7, 8, 9, 10, 11, 12, 13, 22, 27, 35, 40, 48, 67] 102 [14,16,18,20]
def I_sp0 (ex ex' : Bool) (exs exs' : Nat → Bool) (ps qs : List (List Nat)) (w : List Nat) (i : Nat) : St := { tm := [(0, dp ex exs ps), (1, dp ex' exs' qs), (5, .ptr 5 []), (6, .sb false), (7, .sb true), (8, i64 i)], hp := [(5, .c (.arr 2 1 (rowL w)))], seen := [5] }
def I_sp1 (ex ex' : Bool) (exs exs' : Nat → Bool) (ps qs : List (List Nat)) (w : List Nat) (i : Nat) : St := { tm := [(0, dp ex exs ps), (1, dp ex' exs' qs), (5, .ptr 5 []), (6, .sb false), (7, .sb true), (9, i64 i)], hp := [(5, .c (.arr 2 1 (rowL w)))], seen := [5] }
def S_sp14 (ex ex' : Bool) (exs exs' : Nat → Bool) (ps qs : List (List Nat)) (w : List Nat) : St := { tm := [(0, dp ex exs ps), (1, dp ex' exs' qs), (5, .ptr 5 []), (6, .sb false), (7, .sb true)], hp := [(5, .c (.arr 2 1 (rowL w)))], seen := [5] }
def S_sp16 (ex ex' : Bool) (exs exs' : Nat → Bool) (ps qs : List (List Nat)) (w : List Nat) (l m : List Nat) : St := { tm := [(0, dp ex exs ps), (1, dp ex' exs' qs), (5, .ptr 5 []), (6, .sb false), (7, .sb true), (10, .ptr 10 []), (11, .ptr 11 [])], hp := [(5, .c (.arr 2 1 (rowL w))), (10, .c (sumAV l)), (11, .c (sumAV m))], seen := [5, 10, 11] }
def S_sp20 (l m : List Nat) : St := { tm := [(6, .sb false), (7, .sb true), (10, .ptr 10 []), (11, .ptr 11 []), (12, .sl 12 [] 0 l.length l.length false 1), (13, .sl 13 [] 0 m.length m.length false 1)], hp := [(10, .c (sumAV l)), (11, .c (sumAV m)), (12, .c (.arr l.length 1 (rowL l))), (13, .c (.arr m.length 1 (rowL m)))], seen := [10, 11, 12, 13] }

theorem lsp_A (ex ex' : Bool) (exs exs' : Nat → Bool) (ps qs : List (List Nat)) (w : List Nat) (K : Nat) (Φ : Ex → St → Prop) :
  (Holds C P 102 [] K Φ (vc C w_lsp b_lsp [] (start [dp ex exs ps, dp ex' exs' qs, .arr 2 1 (rowL w)] []) lf)) =
  (Fun W.C W.P (10 : Nat) [] [] (AV.sb true) [] ∧
 (True ∧
 (((decide ((((List.length ps) : Nat) : Int) > (6 : Int))) = true → 
 (Φ Ex.ret (St.mk [((0 : Nat), (AV.dat (List.length ps) ex (1 : Nat) (fun (i : Nat) => (AV.dat (List.length (List.getD ps i [])) (exs i) (1 : Nat) (rowL (List.getD ps i [])))))), ((1 : Nat), (AV.dat (List.length qs) ex' (1 : Nat) (fun (i : Nat) => (AV.dat (List.length (List.getD qs i [])) (exs' i) (1 : Nat) (rowL (List.getD qs i [])))))), ((2 : Nat), (AV.arr (2 : Nat) (1 : Nat) (rowL w))), ((5 : Nat), (AV.ptr (5 : Nat) [])), ((6 : Nat), (AV.sb true)), ((7 : Nat), (AV.sb true)), ((22 : Nat), (AV.v (Value.bool true)))] [((5 : Nat), (Blk.c (AV.arr (2 : Nat) (1 : Nat) (rowL w))))] [(5 : Nat)]))) ∧
 ((decide ((((List.length ps) : Nat) : Int) > (6 : Int))) = false → 
 (((decide ((((List.length qs) : Nat) : Int) > (6 : Int))) = true → 
  (Φ Ex.ret (St.mk [((0 : Nat), (AV.dat (List.length ps) ex (1 : Nat) (fun (i : Nat) => (AV.dat (List.length (List.getD ps i [])) (exs i) (1 : Nat) (rowL (List.getD ps i [])))))), ((1 : Nat), (AV.dat (List.length qs) ex' (1 : Nat) (fun (i : Nat) => (AV.dat (List.length (List.getD qs i [])) (exs' i) (1 : Nat) (rowL (List.getD qs i [])))))), ((2 : Nat), (AV.arr (2 : Nat) (1 : Nat) (rowL w))), ((5 : Nat), (AV.ptr (5 : Nat) [])), ((6 : Nat), (AV.sb true)), ((7 : Nat), (AV.sb true)), ((22 : Nat), (AV.v (Value.bool true)))] [((5 : Nat), (Blk.c (AV.arr (2 : Nat) (1 : Nat) (rowL w))))] [(5 : Nat)]))) ∧
  ((decide ((((List.length qs) : Nat) : Int) > (6 : Int))) = false → 
  (LoopOK W.C W.P (102 : Nat) [] K (bodyAt b_lsp [1, 1, 1, 0, 1, 0]) (St.mk [((0 : Nat), (AV.dat (List.length ps) ex (1 : Nat) (fun (i : Nat) => (AV.dat (List.length (List.getD ps i [])) (exs i) (1 : Nat) (rowL (List.getD ps i [])))))), ((1 : Nat), (AV.dat (List.length qs) ex' (1 : Nat) (fun (i : Nat) => (AV.dat (List.length (List.getD qs i [])) (exs' i) (1 : Nat) (rowL (List.getD qs i [])))))), ((2 : Nat), (AV.arr (2 : Nat) (1 : Nat) (rowL w))), ((5 : Nat), (AV.ptr (5 : Nat) [])), ((6 : Nat), (AV.v (Value.bool false))), ((7 : Nat), (AV.sb true)), ((8 : Nat), (AV.v (Value.int IntKind.i64 (0 : Int)))), ((22 : Nat), (AV.v (Value.bool false)))] [((5 : Nat), (Blk.c (AV.arr (2 : Nat) (1 : Nat) (rowL w))))] [(5 : Nat)]) (fun (e : Ex) (S' : St) => Holds W.C W.P (102 : Nat) [] K Φ (after W.C w_lsp b_lsp [1, 1, 1, 0, 1, 0] [] lf e S'))))))))) := by kernel_rfl
noncomputable abbrev bd_lsp_0 : Code := bodyAt (b_lsp) [1, 1, 1, 0, 1, 0]
theorem ok_lsp_0 : codeOK bd_lsp_0 = true := by kernel_rfl
noncomputable abbrev rest_lsp_0 (K : Nat) (Φ : Ex → St → Prop) : Ex → St → Prop := fun e S' => Holds C P 102 [] K Φ (after C w_lsp (b_lsp) [1, 1, 1, 0, 1, 0] [] lf e S')
theorem lsp_L0 (ex ex' : Bool) (exs exs' : Nat → Bool) (ps qs : List (List Nat)) (w : List Nat) (i : Nat) (K : Nat) (Φ : Ex → St → Prop) :
  (Holds C P 102 [] K (RoundQ C 102 [] K (I_sp0 ex ex' exs exs' ps qs w) (fun i => i ≤ ps.length ∧ ∀ j, j < i → (ps.getD j []).length ≤ 40) (fun i => ps.length - i) ((fun i => ps.length - i) (i)) (rest_lsp_0 K Φ)) (vc C w_lsp bd_lsp_0 [] ((I_sp0 ex ex' exs exs' ps qs w) (i)) lf)) =
  (((decide (((i : Nat) : Int) < (((List.length ps) : Nat) : Int))) = true → 
 ((((0 : Int) ≤ ((i : Nat) : Int)) ∧ (((i : Nat) : Int) < (((List.length ps) : Nat) : Int))) ∧
  (((decide ((((List.length (List.getD ps i [])) : Nat) : Int) > (40 : Int))) = true → 
  (Φ Ex.ret (St.mk [((0 : Nat), (AV.dat (List.length ps) ex (1 : Nat) (fun (i1 : Nat) => (AV.dat (List.length (List.getD ps i1 [])) (exs i1) (1 : Nat) (rowL (List.getD ps i1 [])))))), ((1 : Nat), (AV.dat (List.length qs) ex' (1 : Nat) (fun (i1 : Nat) => (AV.dat (List.length (List.getD qs i1 [])) (exs' i1) (1 : Nat) (rowL (List.getD qs i1 [])))))), ((5 : Nat), (AV.ptr (5 : Nat) [])), ((6 : Nat), (AV.sb true)), ((7 : Nat), (AV.sb true)), ((8 : Nat), (AV.v (Value.int IntKind.i64 ((i : Nat) : Int)))), ((27 : Nat), (AV.v (Value.bool true))), ((35 : Nat), (AV.v (Value.bool true)))] [((5 : Nat), (Blk.c (AV.arr (2 : Nat) (1 : Nat) (rowL w))))] [(5 : Nat)]))) ∧
  ((decide ((((List.length (List.getD ps i [])) : Nat) : Int) > (40 : Int))) = false → 
  ((I64 (((i + 1) : Nat) : Int)) ∧
   ((RoundQ C 102 [] K (I_sp0 ex ex' exs exs' ps qs w) (fun i => i ≤ ps.length ∧ ∀ j, j < i → (ps.getD j []).length ≤ 40) (fun i => ps.length - i) ((fun i => ps.length - i) (i)) (rest_lsp_0 K Φ)) Ex.normal (St.mk [((0 : Nat), (AV.dat (List.length ps) ex (1 : Nat) (fun (i1 : Nat) => (AV.dat (List.length (List.getD ps i1 [])) (exs i1) (1 : Nat) (rowL (List.getD ps i1 [])))))), ((1 : Nat), (AV.dat (List.length qs) ex' (1 : Nat) (fun (i1 : Nat) => (AV.dat (List.length (List.getD qs i1 [])) (exs' i1) (1 : Nat) (rowL (List.getD qs i1 [])))))), ((5 : Nat), (AV.ptr (5 : Nat) [])), ((6 : Nat), (AV.sb false)), ((7 : Nat), (AV.sb true)), ((8 : Nat), (AV.v (Value.int IntKind.i64 (((i + 1) : Nat) : Int)))), ((27 : Nat), (AV.v (Value.bool true))), ((35 : Nat), (AV.v (Value.bool false)))] [((5 : Nat), (Blk.c (AV.arr (2 : Nat) (1 : Nat) (rowL w))))] [(5 : Nat)]))))))) ∧
 ((decide (((i : Nat) : Int) < (((List.length ps) : Nat) : Int))) = false → 
 (LoopOK W.C W.P (102 : Nat) [] K (bodyAt b_lsp [1, 1, 1, 1, 0, 1, 0]) (St.mk [((0 : Nat), (AV.dat (List.length ps) ex (1 : Nat) (fun (i1 : Nat) => (AV.dat (List.length (List.getD ps i1 [])) (exs i1) (1 : Nat) (rowL (List.getD ps i1 [])))))), ((1 : Nat), (AV.dat (List.length qs) ex' (1 : Nat) (fun (i1 : Nat) => (AV.dat (List.length (List.getD qs i1 [])) (exs' i1) (1 : Nat) (rowL (List.getD qs i1 [])))))), ((5 : Nat), (AV.ptr (5 : Nat) [])), ((6 : Nat), (AV.sb false)), ((7 : Nat), (AV.sb true)), ((8 : Nat), (AV.v (Value.int IntKind.i64 ((i : Nat) : Int)))), ((9 : Nat), (AV.v (Value.int IntKind.i64 (0 : Int)))), ((27 : Nat), (AV.v (Value.bool false)))] [((5 : Nat), (Blk.c (AV.arr (2 : Nat) (1 : Nat) (rowL w))))] [(5 : Nat)]) (fun (e : Ex) (S' : St) => Holds W.C W.P (102 : Nat) [] K Φ (after W.C w_lsp b_lsp [1, 1, 1, 1, 0, 1, 0] [] lf e S'))))) := by kernel_rfl
noncomputable abbrev bd_lsp_1 : Code := bodyAt (b_lsp) [1, 1, 1, 1, 0, 1, 0]
theorem ok_lsp_1 : codeOK bd_lsp_1 = true := by kernel_rfl
noncomputable abbrev rest_lsp_1 (K : Nat) (Φ : Ex → St → Prop) : Ex → St → Prop := fun e S' => Holds C P 102 [] K Φ (after C w_lsp (b_lsp) [1, 1, 1, 1, 0, 1, 0] [] lf e S')
theorem lsp_L1 (ex ex' : Bool) (exs exs' : Nat → Bool) (ps qs : List (List Nat)) (w : List Nat) (i : Nat) (K : Nat) (Φ : Ex → St → Prop) :
  (Holds C P 102 [] K (RoundQ C 102 [] K (I_sp1 ex ex' exs exs' ps qs w) (fun i => i ≤ qs.length ∧ ∀ j, j < i → (qs.getD j []).length ≤ 40) (fun i => qs.length - i) ((fun i => qs.length - i) (i)) (rest_lsp_1 K Φ)) (vc C w_lsp bd_lsp_1 [] ((I_sp1 ex ex' exs exs' ps qs w) (i)) lf)) =
  (((decide (((i : Nat) : Int) < (((List.length qs) : Nat) : Int))) = true → 
 ((((0 : Int) ≤ ((i : Nat) : Int)) ∧ (((i : Nat) : Int) < (((List.length qs) : Nat) : Int))) ∧
  (((decide ((((List.length (List.getD qs i [])) : Nat) : Int) > (40 : Int))) = true → 
  (Φ Ex.ret (St.mk [((0 : Nat), (AV.dat (List.length ps) ex (1 : Nat) (fun (i1 : Nat) => (AV.dat (List.length (List.getD ps i1 [])) (exs i1) (1 : Nat) (rowL (List.getD ps i1 [])))))), ((1 : Nat), (AV.dat (List.length qs) ex' (1 : Nat) (fun (i1 : Nat) => (AV.dat (List.length (List.getD qs i1 [])) (exs' i1) (1 : Nat) (rowL (List.getD qs i1 [])))))), ((5 : Nat), (AV.ptr (5 : Nat) [])), ((6 : Nat), (AV.sb true)), ((7 : Nat), (AV.sb true)), ((9 : Nat), (AV.v (Value.int IntKind.i64 ((i : Nat) : Int)))), ((40 : Nat), (AV.v (Value.bool true))), ((48 : Nat), (AV.v (Value.bool true)))] [((5 : Nat), (Blk.c (AV.arr (2 : Nat) (1 : Nat) (rowL w))))] [(5 : Nat)]))) ∧
  ((decide ((((List.length (List.getD qs i [])) : Nat) : Int) > (40 : Int))) = false → 
  ((I64 (((i + 1) : Nat) : Int)) ∧
   ((RoundQ C 102 [] K (I_sp1 ex ex' exs exs' ps qs w) (fun i => i ≤ qs.length ∧ ∀ j, j < i → (qs.getD j []).length ≤ 40) (fun i => qs.length - i) ((fun i => qs.length - i) (i)) (rest_lsp_1 K Φ)) Ex.normal (St.mk [((0 : Nat), (AV.dat (List.length ps) ex (1 : Nat) (fun (i1 : Nat) => (AV.dat (List.length (List.getD ps i1 [])) (exs i1) (1 : Nat) (rowL (List.getD ps i1 [])))))), ((1 : Nat), (AV.dat (List.length qs) ex' (1 : Nat) (fun (i1 : Nat) => (AV.dat (List.length (List.getD qs i1 [])) (exs' i1) (1 : Nat) (rowL (List.getD qs i1 [])))))), ((5 : Nat), (AV.ptr (5 : Nat) [])), ((6 : Nat), (AV.sb false)), ((7 : Nat), (AV.sb true)), ((9 : Nat), (AV.v (Value.int IntKind.i64 (((i + 1) : Nat) : Int)))), ((40 : Nat), (AV.v (Value.bool true))), ((48 : Nat), (AV.v (Value.bool false)))] [((5 : Nat), (Blk.c (AV.arr (2 : Nat) (1 : Nat) (rowL w))))] [(5 : Nat)]))))))) ∧
 ((decide (((i : Nat) : Int) < (((List.length qs) : Nat) : Int))) = false → 
 (∃ (S2 : St), Ent W.C (102 : Nat) [] K (St.mk [((0 : Nat), (AV.dat (List.length ps) ex (1 : Nat) (fun (i1 : Nat) => (AV.dat (List.length (List.getD ps i1 [])) (exs i1) (1 : Nat) (rowL (List.getD ps i1 [])))))), ((1 : Nat), (AV.dat (List.length qs) ex' (1 : Nat) (fun (i1 : Nat) => (AV.dat (List.length (List.getD qs i1 [])) (exs' i1) (1 : Nat) (rowL (List.getD qs i1 [])))))), ((5 : Nat), (AV.ptr (5 : Nat) [])), ((6 : Nat), (AV.sb false)), ((7 : Nat), (AV.sb true)), ((9 : Nat), (AV.v (Value.int IntKind.i64 ((i : Nat) : Int)))), ((40 : Nat), (AV.v (Value.bool false)))] [((5 : Nat), (Blk.c (AV.arr (2 : Nat) (1 : Nat) (rowL w))))] [(5 : Nat)]) S2 ∧ Holds W.C W.P (102 : Nat) [] K Φ (cutAt W.C w_lsp b_lsp [1, 1, 1, 1, 1, 0] S2 (after W.C w_lsp b_lsp [1, 1, 1, 1, 1, 0] [] lf))))) := by kernel_rfl
theorem lsp_C14 (ex ex' : Bool) (exs exs' : Nat → Bool) (ps qs : List (List Nat)) (w : List Nat) (K : Nat) (Φ : Ex → St → Prop) :
  (Holds C P 102 [] K Φ (cutAt C w_lsp b_lsp [1, 1, 1, 1, 1, 0] (S_sp14 ex ex' exs exs' ps qs w) (after C w_lsp b_lsp [1, 1, 1, 1, 1, 0] [] lf))) =
  ((((0 : Int) ≤ (0 : Int)) ∧ ((0 : Int) < (2 : Int))) ∧
 (Fun W.C W.P (15 : Nat) [(AV.v (Value.int IntKind.u8 (((List.getD w (0 : Nat) (0 : Nat)) : Nat) : Int))), (AV.dat (List.length ps) ex (1 : Nat) (fun (i : Nat) => (AV.dat (List.length (List.getD ps i [])) (exs i) (1 : Nat) (rowL (List.getD ps i [])))))] [] (AV.arr (32 : Nat) (1 : Nat) (fun (i : Nat) => (AV.v (Value.int IntKind.u8 (((Sp.sumN (Sp.ofBytes (List.getD w (0 : Nat) (0 : Nat)) (partsL (List.length ps) (fun (i1 : Nat) => (AV.dat (List.length (List.getD ps i1 [])) (exs i1) (1 : Nat) (rowL (List.getD ps i1 [])))))) i) : Nat) : Int))))) [] ∧
 ((∀ (i : Nat), ((i < (32 : Nat)) → True)) ∧
 ((((32 : Nat) = (32 : Nat)) ∧ (((1 : Nat) = (1 : Nat)) ∧ (∀ (i : Nat), ((i < (32 : Nat)) → ((fun (x : AV) => ((true = true) ∧ ((leaf x) = true))) (AV.v (Value.int IntKind.u8 (((Sp.sumN (Sp.ofBytes (List.getD w (0 : Nat) (0 : Nat)) (partsL (List.length ps) (fun (i1 : Nat) => (AV.dat (List.length (List.getD ps i1 [])) (exs i1) (1 : Nat) (rowL (List.getD ps i1 [])))))) i) : Nat) : Int)))))))) ∧
 ((((0 : Int) ≤ (1 : Int)) ∧ ((1 : Int) < (2 : Int))) ∧
 (Fun W.C W.P (15 : Nat) [(AV.v (Value.int IntKind.u8 (((List.getD w (1 : Nat) (0 : Nat)) : Nat) : Int))), (AV.dat (List.length qs) ex' (1 : Nat) (fun (i : Nat) => (AV.dat (List.length (List.getD qs i [])) (exs' i) (1 : Nat) (rowL (List.getD qs i [])))))] [] (AV.arr (32 : Nat) (1 : Nat) (fun (i : Nat) => (AV.v (Value.int IntKind.u8 (((Sp.sumN (Sp.ofBytes (List.getD w (1 : Nat) (0 : Nat)) (partsL (List.length qs) (fun (i1 : Nat) => (AV.dat (List.length (List.getD qs i1 [])) (exs' i1) (1 : Nat) (rowL (List.getD qs i1 [])))))) i) : Nat) : Int))))) [] ∧
 ((∀ (i : Nat), ((i < (32 : Nat)) → True)) ∧
 ((((32 : Nat) = (32 : Nat)) ∧ (((1 : Nat) = (1 : Nat)) ∧ (∀ (i : Nat), ((i < (32 : Nat)) → ((fun (x : AV) => ((true = true) ∧ ((leaf x) = true))) (AV.v (Value.int IntKind.u8 (((Sp.sumN (Sp.ofBytes (List.getD w (1 : Nat) (0 : Nat)) (partsL (List.length qs) (fun (i1 : Nat) => (AV.dat (List.length (List.getD qs i1 [])) (exs' i1) (1 : Nat) (rowL (List.getD qs i1 [])))))) i) : Nat) : Int)))))))) ∧
 (∃ (S2 : St), Ent W.C (102 : Nat) [] K (St.mk [((0 : Nat), (AV.dat (List.length ps) ex (1 : Nat) (fun (i : Nat) => (AV.dat (List.length (List.getD ps i [])) (exs i) (1 : Nat) (rowL (List.getD ps i [])))))), ((1 : Nat), (AV.dat (List.length qs) ex' (1 : Nat) (fun (i : Nat) => (AV.dat (List.length (List.getD qs i [])) (exs' i) (1 : Nat) (rowL (List.getD qs i [])))))), ((5 : Nat), (AV.ptr (5 : Nat) [])), ((6 : Nat), (AV.sb false)), ((7 : Nat), (AV.sb true)), ((10 : Nat), (AV.ptr (10 : Nat) [])), ((11 : Nat), (AV.ptr (11 : Nat) []))] [((5 : Nat), (Blk.c (AV.arr (2 : Nat) (1 : Nat) (rowL w)))), ((10 : Nat), (Blk.c (AV.arr (32 : Nat) (1 : Nat) (fun (i : Nat) => (AV.v (Value.int IntKind.u8 (((Sp.sumN (Sp.ofBytes (List.getD w (0 : Nat) (0 : Nat)) (partsL (List.length ps) (fun (i1 : Nat) => (AV.dat (List.length (List.getD ps i1 [])) (exs i1) (1 : Nat) (rowL (List.getD ps i1 [])))))) i) : Nat) : Int))))))), ((11 : Nat), (Blk.c (AV.arr (32 : Nat) (1 : Nat) (fun (i : Nat) => (AV.v (Value.int IntKind.u8 (((Sp.sumN (Sp.ofBytes (List.getD w (1 : Nat) (0 : Nat)) (partsL (List.length qs) (fun (i1 : Nat) => (AV.dat (List.length (List.getD qs i1 [])) (exs' i1) (1 : Nat) (rowL (List.getD qs i1 [])))))) i) : Nat) : Int)))))))] [(11 : Nat), (10 : Nat), (5 : Nat)]) S2 ∧ Holds W.C W.P (102 : Nat) [] K Φ (cutAt W.C w_lsp b_lsp [1, 1, 1, 1, 1, 1, 1, 0, 0] S2 (after W.C w_lsp b_lsp [1, 1, 1, 1, 1, 1, 1, 0, 0] [] lf))))))))))) := by kernel_rfl
theorem lsp_C16 (ex ex' : Bool) (exs exs' : Nat → Bool) (ps qs : List (List Nat)) (w : List Nat) (l m : List Nat) (K : Nat) (Φ : Ex → St → Prop) :
  (Holds C P 102 [] K Φ (cutAt C w_lsp b_lsp [1, 1, 1, 1, 1, 1, 1, 0, 0] (S_sp16 ex ex' exs exs' ps qs w l m) (after C w_lsp b_lsp [1, 1, 1, 1, 1, 1, 1, 0, 0] [] lf))) =
  ((((0 : Int) ≤ (0 : Int)) ∧ ((0 : Int) < (2 : Int))) ∧
 ((((0 : Int) ≤ (1 : Int)) ∧ ((1 : Int) < (2 : Int))) ∧
 ((((((List.getD w (0 : Nat) (0 : Nat)) : Nat) : Int) == (((List.getD w (1 : Nat) (0 : Nat)) : Nat) : Int)) = true → 
 (Fun W.C W.P (19 : Nat) [(AV.dat (List.length ps) ex (1 : Nat) (fun (i : Nat) => (AV.dat (List.length (List.getD ps i [])) (exs i) (1 : Nat) (rowL (List.getD ps i []))))), (AV.dat (List.length qs) ex' (1 : Nat) (fun (i : Nat) => (AV.dat (List.length (List.getD qs i [])) (exs' i) (1 : Nat) (rowL (List.getD qs i [])))))] [] (AV.sb (decide ((partsL (List.length ps) (fun (i : Nat) => (AV.dat (List.length (List.getD ps i [])) (exs i) (1 : Nat) (rowL (List.getD ps i []))))) = (partsL (List.length qs) (fun (i : Nat) => (AV.dat (List.length (List.getD qs i [])) (exs' i) (1 : Nat) (rowL (List.getD qs i [])))))))) [] ∧
  (True ∧
  (((decide ((partsL (List.length ps) (fun (i : Nat) => (AV.dat (List.length (List.getD ps i [])) (exs i) (1 : Nat) (rowL (List.getD ps i []))))) = (partsL (List.length qs) (fun (i : Nat) => (AV.dat (List.length (List.getD qs i [])) (exs' i) (1 : Nat) (rowL (List.getD qs i []))))))) = true → 
  ((true = true → 
   ((∀ (i : Nat), ((i < (32 : Nat)) → ((IntKind.u8 = IntKind.u8) ∧ (IntKind.u8 = IntKind.u8)))) ∧
    (Φ Ex.ret (St.mk [((0 : Nat), (AV.dat (List.length ps) ex (1 : Nat) (fun (i : Nat) => (AV.dat (List.length (List.getD ps i [])) (exs i) (1 : Nat) (rowL (List.getD ps i [])))))), ((1 : Nat), (AV.dat (List.length qs) ex' (1 : Nat) (fun (i : Nat) => (AV.dat (List.length (List.getD qs i [])) (exs' i) (1 : Nat) (rowL (List.getD qs i [])))))), ((5 : Nat), (AV.ptr (5 : Nat) [])), ((6 : Nat), (AV.sb (List.all (List.range (32 : Nat)) (fun (i : Nat) => ((((Sp.sumN l i) : Nat) : Int) == (((Sp.sumN m i) : Nat) : Int)))))), ((7 : Nat), (AV.sb true)), ((10 : Nat), (AV.ptr (10 : Nat) [])), ((11 : Nat), (AV.ptr (11 : Nat) [])), ((67 : Nat), (AV.v (Value.bool true)))] [((5 : Nat), (Blk.c (AV.arr (2 : Nat) (1 : Nat) (rowL w)))), ((10 : Nat), (Blk.c (AV.arr (32 : Nat) (1 : Nat) (fun (i : Nat) => (AV.v (Value.int IntKind.u8 (((Sp.sumN l i) : Nat) : Int))))))), ((11 : Nat), (Blk.c (AV.arr (32 : Nat) (1 : Nat) (fun (i : Nat) => (AV.v (Value.int IntKind.u8 (((Sp.sumN m i) : Nat) : Int)))))))] [(5 : Nat), (10 : Nat), (11 : Nat)])))) ∧
   (true = false → 
   (Φ Ex.ret (St.mk [((0 : Nat), (AV.dat (List.length ps) ex (1 : Nat) (fun (i : Nat) => (AV.dat (List.length (List.getD ps i [])) (exs i) (1 : Nat) (rowL (List.getD ps i [])))))), ((1 : Nat), (AV.dat (List.length qs) ex' (1 : Nat) (fun (i : Nat) => (AV.dat (List.length (List.getD qs i [])) (exs' i) (1 : Nat) (rowL (List.getD qs i [])))))), ((5 : Nat), (AV.ptr (5 : Nat) [])), ((6 : Nat), (AV.v (Value.bool false))), ((7 : Nat), (AV.sb true)), ((10 : Nat), (AV.ptr (10 : Nat) [])), ((11 : Nat), (AV.ptr (11 : Nat) [])), ((67 : Nat), (AV.v (Value.bool true)))] [((5 : Nat), (Blk.c (AV.arr (2 : Nat) (1 : Nat) (rowL w)))), ((10 : Nat), (Blk.c (AV.arr (32 : Nat) (1 : Nat) (fun (i : Nat) => (AV.v (Value.int IntKind.u8 (((Sp.sumN l i) : Nat) : Int))))))), ((11 : Nat), (Blk.c (AV.arr (32 : Nat) (1 : Nat) (fun (i : Nat) => (AV.v (Value.int IntKind.u8 (((Sp.sumN m i) : Nat) : Int)))))))] [(5 : Nat), (10 : Nat), (11 : Nat)]))))) ∧
  ((decide ((partsL (List.length ps) (fun (i : Nat) => (AV.dat (List.length (List.getD ps i [])) (exs i) (1 : Nat) (rowL (List.getD ps i []))))) = (partsL (List.length qs) (fun (i : Nat) => (AV.dat (List.length (List.getD qs i [])) (exs' i) (1 : Nat) (rowL (List.getD qs i []))))))) = false → 
  (∃ (S2 : St), Ent W.C (102 : Nat) [] K (St.mk [((0 : Nat), (AV.dat (List.length ps) ex (1 : Nat) (fun (i : Nat) => (AV.dat (List.length (List.getD ps i [])) (exs i) (1 : Nat) (rowL (List.getD ps i [])))))), ((1 : Nat), (AV.dat (List.length qs) ex' (1 : Nat) (fun (i : Nat) => (AV.dat (List.length (List.getD qs i [])) (exs' i) (1 : Nat) (rowL (List.getD qs i [])))))), ((5 : Nat), (AV.ptr (5 : Nat) [])), ((6 : Nat), (AV.sb false)), ((7 : Nat), (AV.sb true)), ((10 : Nat), (AV.ptr (10 : Nat) [])), ((11 : Nat), (AV.ptr (11 : Nat) [])), ((67 : Nat), (AV.v (Value.bool false)))] [((5 : Nat), (Blk.c (AV.arr (2 : Nat) (1 : Nat) (rowL w)))), ((10 : Nat), (Blk.c (AV.arr (32 : Nat) (1 : Nat) (fun (i : Nat) => (AV.v (Value.int IntKind.u8 (((Sp.sumN l i) : Nat) : Int))))))), ((11 : Nat), (Blk.c (AV.arr (32 : Nat) (1 : Nat) (fun (i : Nat) => (AV.v (Value.int IntKind.u8 (((Sp.sumN m i) : Nat) : Int)))))))] [(5 : Nat), (10 : Nat), (11 : Nat)]) S2 ∧ Holds W.C W.P (102 : Nat) [] K Φ (cutAt W.C w_lsp b_lsp [1, 1, 1, 1, 1, 1, 1, 1, 0] S2 (after W.C w_lsp b_lsp [1, 1, 1, 1, 1, 1, 1, 1, 0] [] lf)))))))) ∧
 (((((List.getD w (0 : Nat) (0 : Nat)) : Nat) : Int) == (((List.getD w (1 : Nat) (0 : Nat)) : Nat) : Int)) = false → 
 (∃ (S2 : St), Ent W.C (102 : Nat) [] K (St.mk [((0 : Nat), (AV.dat (List.length ps) ex (1 : Nat) (fun (i : Nat) => (AV.dat (List.length (List.getD ps i [])) (exs i) (1 : Nat) (rowL (List.getD ps i [])))))), ((1 : Nat), (AV.dat (List.length qs) ex' (1 : Nat) (fun (i : Nat) => (AV.dat (List.length (List.getD qs i [])) (exs' i) (1 : Nat) (rowL (List.getD qs i [])))))), ((5 : Nat), (AV.ptr (5 : Nat) [])), ((6 : Nat), (AV.sb false)), ((7 : Nat), (AV.sb true)), ((10 : Nat), (AV.ptr (10 : Nat) [])), ((11 : Nat), (AV.ptr (11 : Nat) [])), ((67 : Nat), (AV.v (Value.bool false)))] [((5 : Nat), (Blk.c (AV.arr (2 : Nat) (1 : Nat) (rowL w)))), ((10 : Nat), (Blk.c (AV.arr (32 : Nat) (1 : Nat) (fun (i : Nat) => (AV.v (Value.int IntKind.u8 (((Sp.sumN l i) : Nat) : Int))))))), ((11 : Nat), (Blk.c (AV.arr (32 : Nat) (1 : Nat) (fun (i : Nat) => (AV.v (Value.int IntKind.u8 (((Sp.sumN m i) : Nat) : Int)))))))] [(5 : Nat), (10 : Nat), (11 : Nat)]) S2 ∧ Holds W.C W.P (102 : Nat) [] K Φ (cutAt W.C w_lsp b_lsp [1, 1, 1, 1, 1, 1, 1, 1, 0] S2 (after W.C w_lsp b_lsp [1, 1, 1, 1, 1, 1, 1, 1, 0] [] lf))))))) := by kernel_rfl
theorem lsp_C18 (ex ex' : Bool) (exs exs' : Nat → Bool) (ps qs : List (List Nat)) (w : List Nat) (l m : List Nat) (K : Nat) (Φ : Ex → St → Prop) :
  (Holds C P 102 [] K Φ (cutAt C w_lsp b_lsp [1, 1, 1, 1, 1, 1, 1, 1, 0] (S_sp16 ex ex' exs exs' ps qs w l m) (after C w_lsp b_lsp [1, 1, 1, 1, 1, 1, 1, 1, 0] [] lf))) =
  ((((0 : Int) ≤ (0 : Int)) ∧ ((0 : Int) < (2 : Int))) ∧
 (Fun W.C W.P (20 : Nat) [(AV.v (Value.int IntKind.u8 (((List.getD w (0 : Nat) (0 : Nat)) : Nat) : Int))), (AV.dat (List.length ps) ex (1 : Nat) (fun (i : Nat) => (AV.dat (List.length (List.getD ps i [])) (exs i) (1 : Nat) (rowL (List.getD ps i [])))))] [] (AV.sl (0 : Nat) [] (0 : Nat) (List.length (Sp.ofBytes (List.getD w (0 : Nat) (0 : Nat)) (partsL (List.length ps) (fun (i : Nat) => (AV.dat (List.length (List.getD ps i [])) (exs i) (1 : Nat) (rowL (List.getD ps i []))))))) (List.length (Sp.ofBytes (List.getD w (0 : Nat) (0 : Nat)) (partsL (List.length ps) (fun (i : Nat) => (AV.dat (List.length (List.getD ps i [])) (exs i) (1 : Nat) (rowL (List.getD ps i []))))))) false (1 : Nat)) [((0 : Nat), (Blk.c (AV.arr (List.length (Sp.ofBytes (List.getD w (0 : Nat) (0 : Nat)) (partsL (List.length ps) (fun (i : Nat) => (AV.dat (List.length (List.getD ps i [])) (exs i) (1 : Nat) (rowL (List.getD ps i []))))))) (1 : Nat) (rowL (Sp.ofBytes (List.getD w (0 : Nat) (0 : Nat)) (partsL (List.length ps) (fun (i : Nat) => (AV.dat (List.length (List.getD ps i [])) (exs i) (1 : Nat) (rowL (List.getD ps i []))))))))))] ∧
 ((((0 : Int) ≤ (1 : Int)) ∧ ((1 : Int) < (2 : Int))) ∧
 (Fun W.C W.P (20 : Nat) [(AV.v (Value.int IntKind.u8 (((List.getD w (1 : Nat) (0 : Nat)) : Nat) : Int))), (AV.dat (List.length qs) ex' (1 : Nat) (fun (i : Nat) => (AV.dat (List.length (List.getD qs i [])) (exs' i) (1 : Nat) (rowL (List.getD qs i [])))))] [] (AV.sl (0 : Nat) [] (0 : Nat) (List.length (Sp.ofBytes (List.getD w (1 : Nat) (0 : Nat)) (partsL (List.length qs) (fun (i : Nat) => (AV.dat (List.length (List.getD qs i [])) (exs' i) (1 : Nat) (rowL (List.getD qs i []))))))) (List.length (Sp.ofBytes (List.getD w (1 : Nat) (0 : Nat)) (partsL (List.length qs) (fun (i : Nat) => (AV.dat (List.length (List.getD qs i [])) (exs' i) (1 : Nat) (rowL (List.getD qs i []))))))) false (1 : Nat)) [((0 : Nat), (Blk.c (AV.arr (List.length (Sp.ofBytes (List.getD w (1 : Nat) (0 : Nat)) (partsL (List.length qs) (fun (i : Nat) => (AV.dat (List.length (List.getD qs i [])) (exs' i) (1 : Nat) (rowL (List.getD qs i []))))))) (1 : Nat) (rowL (Sp.ofBytes (List.getD w (1 : Nat) (0 : Nat)) (partsL (List.length qs) (fun (i : Nat) => (AV.dat (List.length (List.getD qs i [])) (exs' i) (1 : Nat) (rowL (List.getD qs i []))))))))))] ∧
 (∃ (S2 : St), Ent W.C (102 : Nat) [] K (St.mk [((0 : Nat), (AV.dat (List.length ps) ex (1 : Nat) (fun (i : Nat) => (AV.dat (List.length (List.getD ps i [])) (exs i) (1 : Nat) (rowL (List.getD ps i [])))))), ((1 : Nat), (AV.dat (List.length qs) ex' (1 : Nat) (fun (i : Nat) => (AV.dat (List.length (List.getD qs i [])) (exs' i) (1 : Nat) (rowL (List.getD qs i [])))))), ((5 : Nat), (AV.ptr (5 : Nat) [])), ((6 : Nat), (AV.sb false)), ((7 : Nat), (AV.sb true)), ((10 : Nat), (AV.ptr (10 : Nat) [])), ((11 : Nat), (AV.ptr (11 : Nat) [])), ((12 : Nat), (AV.sl (77 : Nat) [] (0 : Nat) (List.length (Sp.ofBytes (List.getD w (0 : Nat) (0 : Nat)) (partsL (List.length ps) (fun (i : Nat) => (AV.dat (List.length (List.getD ps i [])) (exs i) (1 : Nat) (rowL (List.getD ps i []))))))) (List.length (Sp.ofBytes (List.getD w (0 : Nat) (0 : Nat)) (partsL (List.length ps) (fun (i : Nat) => (AV.dat (List.length (List.getD ps i [])) (exs i) (1 : Nat) (rowL (List.getD ps i []))))))) false (1 : Nat))), ((13 : Nat), (AV.sl (81 : Nat) [] (0 : Nat) (List.length (Sp.ofBytes (List.getD w (1 : Nat) (0 : Nat)) (partsL (List.length qs) (fun (i : Nat) => (AV.dat (List.length (List.getD qs i [])) (exs' i) (1 : Nat) (rowL (List.getD qs i []))))))) (List.length (Sp.ofBytes (List.getD w (1 : Nat) (0 : Nat)) (partsL (List.length qs) (fun (i : Nat) => (AV.dat (List.length (List.getD qs i [])) (exs' i) (1 : Nat) (rowL (List.getD qs i []))))))) false (1 : Nat)))] [((5 : Nat), (Blk.c (AV.arr (2 : Nat) (1 : Nat) (rowL w)))), ((10 : Nat), (Blk.c (AV.arr (32 : Nat) (1 : Nat) (fun (i : Nat) => (AV.v (Value.int IntKind.u8 (((Sp.sumN l i) : Nat) : Int))))))), ((11 : Nat), (Blk.c (AV.arr (32 : Nat) (1 : Nat) (fun (i : Nat) => (AV.v (Value.int IntKind.u8 (((Sp.sumN m i) : Nat) : Int))))))), ((77 : Nat), (Blk.c (AV.arr (List.length (Sp.ofBytes (List.getD w (0 : Nat) (0 : Nat)) (partsL (List.length ps) (fun (i : Nat) => (AV.dat (List.length (List.getD ps i [])) (exs i) (1 : Nat) (rowL (List.getD ps i []))))))) (1 : Nat) (rowL (Sp.ofBytes (List.getD w (0 : Nat) (0 : Nat)) (partsL (List.length ps) (fun (i : Nat) => (AV.dat (List.length (List.getD ps i [])) (exs i) (1 : Nat) (rowL (List.getD ps i [])))))))))), ((81 : Nat), (Blk.c (AV.arr (List.length (Sp.ofBytes (List.getD w (1 : Nat) (0 : Nat)) (partsL (List.length qs) (fun (i : Nat) => (AV.dat (List.length (List.getD qs i [])) (exs' i) (1 : Nat) (rowL (List.getD qs i []))))))) (1 : Nat) (rowL (Sp.ofBytes (List.getD w (1 : Nat) (0 : Nat)) (partsL (List.length qs) (fun (i : Nat) => (AV.dat (List.length (List.getD qs i [])) (exs' i) (1 : Nat) (rowL (List.getD qs i []))))))))))] [(81 : Nat), (77 : Nat), (5 : Nat), (10 : Nat), (11 : Nat)]) S2 ∧ Holds W.C W.P (102 : Nat) [] K Φ (cutAt W.C w_lsp b_lsp [1, 1, 1, 1, 1, 1, 1, 1, 1, 1, 0] S2 (after W.C w_lsp b_lsp [1, 1, 1, 1, 1, 1, 1, 1, 1, 1, 0] [] lf))))))) := by kernel_rfl
theorem lsp_C20 (l m : List Nat) (K : Nat) (Φ : Ex → St → Prop) :
  (Holds C P 102 [] K Φ (cutAt C w_lsp b_lsp [1, 1, 1, 1, 1, 1, 1, 1, 1, 1, 0] (S_sp20 l m) (after C w_lsp b_lsp [1, 1, 1, 1, 1, 1, 1, 1, 1, 1, 0] [] lf))) =
  ((true = true → 
 ((∀ (i : Nat), ((i < (List.length l)) → (((0 : Int) ≤ (((List.getD l ((0 : Nat) + i) (0 : Nat)) : Nat) : Int)) ∧ ((((List.getD l ((0 : Nat) + i) (0 : Nat)) : Nat) : Int) < (256 : Int))))) ∧
  ((∀ (i : Nat), ((i < (List.length m)) → (((0 : Int) ≤ (((List.getD m ((0 : Nat) + i) (0 : Nat)) : Nat) : Int)) ∧ ((((List.getD m ((0 : Nat) + i) (0 : Nat)) : Nat) : Int) < (256 : Int))))) ∧
  (((!((ByteArray.toList (bytesOf (List.length l) (fun (i : Nat) => (AV.v (Value.int IntKind.u8 (((List.getD l ((0 : Nat) + i) (0 : Nat)) : Nat) : Int)))))) == (ByteArray.toList (bytesOf (List.length m) (fun (i : Nat) => (AV.v (Value.int IntKind.u8 (((List.getD m ((0 : Nat) + i) (0 : Nat)) : Nat) : Int)))))))) = true → 
  ((∀ (i : Nat), ((i < (32 : Nat)) → ((IntKind.u8 = IntKind.u8) ∧ (IntKind.u8 = IntKind.u8)))) ∧
   (((!(List.all (List.range (32 : Nat)) (fun (i : Nat) => ((((Sp.sumN l i) : Nat) : Int) == (((Sp.sumN m i) : Nat) : Int))))) = true → 
   (Φ Ex.ret (St.mk [((6 : Nat), (AV.v (Value.bool true))), ((7 : Nat), (AV.sb true)), ((10 : Nat), (AV.ptr (10 : Nat) [])), ((11 : Nat), (AV.ptr (11 : Nat) [])), ((12 : Nat), (AV.sl (12 : Nat) [] (0 : Nat) (List.length l) (List.length l) false (1 : Nat))), ((13 : Nat), (AV.sl (13 : Nat) [] (0 : Nat) (List.length m) (List.length m) false (1 : Nat)))] [((10 : Nat), (Blk.c (AV.arr (32 : Nat) (1 : Nat) (fun (i : Nat) => (AV.v (Value.int IntKind.u8 (((Sp.sumN l i) : Nat) : Int))))))), ((11 : Nat), (Blk.c (AV.arr (32 : Nat) (1 : Nat) (fun (i : Nat) => (AV.v (Value.int IntKind.u8 (((Sp.sumN m i) : Nat) : Int))))))), ((12 : Nat), (Blk.c (AV.arr (List.length l) (1 : Nat) (rowL l)))), ((13 : Nat), (Blk.c (AV.arr (List.length m) (1 : Nat) (rowL m))))] [(10 : Nat), (11 : Nat), (12 : Nat), (13 : Nat)]))) ∧
   ((!(List.all (List.range (32 : Nat)) (fun (i : Nat) => ((((Sp.sumN l i) : Nat) : Int) == (((Sp.sumN m i) : Nat) : Int))))) = false → 
   (Fun W.C W.P (11 : Nat) [(AV.dat (List.length l) false (1 : Nat) (fun (i : Nat) => (AV.v (Value.int IntKind.u8 (((List.getD l ((0 : Nat) + i) (0 : Nat)) : Nat) : Int)))))] [] (AV.arr (32 : Nat) (1 : Nat) (fun (i : Nat) => (AV.v (Value.int IntKind.u8 (((Sp.sumN (bytesL (List.length l) (fun (i1 : Nat) => (AV.v (Value.int IntKind.u8 (((List.getD l ((0 : Nat) + i1) (0 : Nat)) : Nat) : Int))))) i) : Nat) : Int))))) [] ∧
    ((∀ (i : Nat), ((i < (32 : Nat)) → True)) ∧
    (Fun W.C W.P (11 : Nat) [(AV.dat (List.length m) false (1 : Nat) (fun (i : Nat) => (AV.v (Value.int IntKind.u8 (((List.getD m ((0 : Nat) + i) (0 : Nat)) : Nat) : Int)))))] [] (AV.arr (32 : Nat) (1 : Nat) (fun (i : Nat) => (AV.v (Value.int IntKind.u8 (((Sp.sumN (bytesL (List.length m) (fun (i1 : Nat) => (AV.v (Value.int IntKind.u8 (((List.getD m ((0 : Nat) + i1) (0 : Nat)) : Nat) : Int))))) i) : Nat) : Int))))) [] ∧
    ((∀ (i : Nat), ((i < (32 : Nat)) → True)) ∧
    ((∀ (i : Nat), ((i < (32 : Nat)) → ((IntKind.u8 = IntKind.u8) ∧ (IntKind.u8 = IntKind.u8)))) ∧
    (Φ Ex.ret (St.mk [((6 : Nat), (AV.sb (List.all (List.range (32 : Nat)) (fun (i : Nat) => ((((Sp.sumN (bytesL (List.length l) (fun (i1 : Nat) => (AV.v (Value.int IntKind.u8 (((List.getD l ((0 : Nat) + i1) (0 : Nat)) : Nat) : Int))))) i) : Nat) : Int) == (((Sp.sumN (bytesL (List.length m) (fun (i1 : Nat) => (AV.v (Value.int IntKind.u8 (((List.getD m ((0 : Nat) + i1) (0 : Nat)) : Nat) : Int))))) i) : Nat) : Int)))))), ((7 : Nat), (AV.sb true)), ((10 : Nat), (AV.ptr (10 : Nat) [])), ((11 : Nat), (AV.ptr (11 : Nat) [])), ((12 : Nat), (AV.sl (12 : Nat) [] (0 : Nat) (List.length l) (List.length l) false (1 : Nat))), ((13 : Nat), (AV.sl (13 : Nat) [] (0 : Nat) (List.length m) (List.length m) false (1 : Nat)))] [((10 : Nat), (Blk.c (AV.arr (32 : Nat) (1 : Nat) (fun (i : Nat) => (AV.v (Value.int IntKind.u8 (((Sp.sumN l i) : Nat) : Int))))))), ((11 : Nat), (Blk.c (AV.arr (32 : Nat) (1 : Nat) (fun (i : Nat) => (AV.v (Value.int IntKind.u8 (((Sp.sumN m i) : Nat) : Int))))))), ((12 : Nat), (Blk.c (AV.arr (List.length l) (1 : Nat) (rowL l)))), ((13 : Nat), (Blk.c (AV.arr (List.length m) (1 : Nat) (rowL m))))] [(10 : Nat), (11 : Nat), (12 : Nat), (13 : Nat)]))))))))))) ∧
  ((!((ByteArray.toList (bytesOf (List.length l) (fun (i : Nat) => (AV.v (Value.int IntKind.u8 (((List.getD l ((0 : Nat) + i) (0 : Nat)) : Nat) : Int)))))) == (ByteArray.toList (bytesOf (List.length m) (fun (i : Nat) => (AV.v (Value.int IntKind.u8 (((List.getD m ((0 : Nat) + i) (0 : Nat)) : Nat) : Int)))))))) = false → 
  (Φ Ex.ret (St.mk [((6 : Nat), (AV.v (Value.bool false))), ((7 : Nat), (AV.sb true)), ((10 : Nat), (AV.ptr (10 : Nat) [])), ((11 : Nat), (AV.ptr (11 : Nat) [])), ((12 : Nat), (AV.sl (12 : Nat) [] (0 : Nat) (List.length l) (List.length l) false (1 : Nat))), ((13 : Nat), (AV.sl (13 : Nat) [] (0 : Nat) (List.length m) (List.length m) false (1 : Nat)))] [((10 : Nat), (Blk.c (AV.arr (32 : Nat) (1 : Nat) (fun (i : Nat) => (AV.v (Value.int IntKind.u8 (((Sp.sumN l i) : Nat) : Int))))))), ((11 : Nat), (Blk.c (AV.arr (32 : Nat) (1 : Nat) (fun (i : Nat) => (AV.v (Value.int IntKind.u8 (((Sp.sumN m i) : Nat) : Int))))))), ((12 : Nat), (Blk.c (AV.arr (List.length l) (1 : Nat) (rowL l)))), ((13 : Nat), (Blk.c (AV.arr (List.length m) (1 : Nat) (rowL m))))] [(10 : Nat), (11 : Nat), (12 : Nat), (13 : Nat)]))))))) ∧
 (true = false → 
 (Φ Ex.ret (St.mk [((6 : Nat), (AV.v (Value.bool false))), ((7 : Nat), (AV.sb true)), ((10 : Nat), (AV.ptr (10 : Nat) [])), ((11 : Nat), (AV.ptr (11 : Nat) [])), ((12 : Nat), (AV.sl (12 : Nat) [] (0 : Nat) (List.length l) (List.length l) false (1 : Nat))), ((13 : Nat), (AV.sl (13 : Nat) [] (0 : Nat) (List.length m) (List.length m) false (1 : Nat)))] [((10 : Nat), (Blk.c (AV.arr (32 : Nat) (1 : Nat) (fun (i : Nat) => (AV.v (Value.int IntKind.u8 (((Sp.sumN l i) : Nat) : Int))))))), ((11 : Nat), (Blk.c (AV.arr (32 : Nat) (1 : Nat) (fun (i : Nat) => (AV.v (Value.int IntKind.u8 (((Sp.sumN m i) : Nat) : Int))))))), ((12 : Nat), (Blk.c (AV.arr (List.length l) (1 : Nat) (rowL l)))), ((13 : Nat), (Blk.c (AV.arr (List.length m) (1 : Nat) (rowL m))))] [(10 : Nat), (11 : Nat), (12 : Nat), (13 : Nat)])))) := by kernel_rfl

theorem eight7 (n : Nat) (h : n < 256) : (eightL n).getD 7 0 = n := by
  have e : (eightL n).getD 7 0 = eightN n 7 := by simp [eightL, List.getD_eq_getElem?_getD]
  rw [e]
  unfold eightN
  rw [show 56 - 8 * 7 = 0 by rfl, Nat.shiftRight_zero]
  omega
theorem eightL_length (n : Int) : (eightL n).length = 8 := by simp [eightL]
theorem flat_inj : ∀ {ps qs : List (List Nat)}, (∀ p ∈ ps, p.length < 256) → (∀ p ∈ qs, p.length < 256) → (ps.flatMap fun p => eightL p.length ++ p) = (qs.flatMap fun p => eightL p.length ++ p) → ps = qs
  | [], [], _, _, _ => rfl
  | [], q :: r, _, _, h => by
    have := congrArg List.length h
    simp [eightL] at this
    omega
  | p :: r, [], _, _, h => by
    have := congrArg List.length h
    simp [eightL] at this
  | p :: r, q :: t, hp, hq, h => by
    simp only [List.flatMap_cons, List.append_assoc] at h
    obtain ⟨h1, h2⟩ := List.append_inj h (by rw [eightL_length, eightL_length])
    have hl : p.length = q.length := by
      rw [← eight7 p.length (hp p (List.mem_cons_self ..)), ← eight7 q.length (hq q (List.mem_cons_self ..)), h1]
    obtain ⟨h3, h4⟩ := List.append_inj h2 hl
    rw [h3, flat_inj (fun x hx => hp x (List.mem_cons_of_mem _ hx)) (fun x hx => hq x (List.mem_cons_of_mem _ hx)) h4]
theorem ofBytes_inj {t u : Nat} {ps qs : List (List Nat)} (hp : ∀ p ∈ ps, p.length < 256) (hq : ∀ p ∈ qs, p.length < 256) (h : ofBytes t ps = ofBytes u qs) : t = u ∧ ps = qs := by
  unfold ofBytes at h
  injection h with h1 h2
  exact ⟨h1, flat_inj hp hq h2⟩
theorem all_len {ps : List (List Nat)} {b : Nat} (h : ∀ j, j < ps.length → (ps.getD j []).length ≤ b) : ∀ p ∈ ps, p.length ≤ b := fun p hp => by
  obtain ⟨i, hi, rfl⟩ := List.getElem_of_mem hp
  have := h i hi
  rwa [List.getD_eq_getElem?_getD, List.getElem?_eq_getElem hi] at this
theorem len_bound {t b : Nat} {ps : List (List Nat)} (h : ∀ p ∈ ps, p.length ≤ b) (hb : b ≤ 1000) (hn : ps.length ≤ 6) : (ofBytes t ps).length < 2 ^ 46 := by
  have : ∀ qs : List (List Nat), (∀ p ∈ qs, p.length ≤ b) → (qs.flatMap fun p => eightL p.length ++ p).length ≤ (8 + b) * qs.length := by
    intro qs
    induction qs with
    | nil => intro _; simp
    | cons q r ih =>
      intro h
      have h1 := h q (List.mem_cons_self ..)
      have h2 := ih fun x hx => h x (List.mem_cons_of_mem _ hx)
      simp only [List.flatMap_cons, List.length_append, eightL_length, List.length_cons, Nat.mul_add] at h2 ⊢
      omega
  have h1 := this ps h
  have h2 : (8 + b) * ps.length ≤ 1008 * 6 := Nat.mul_le_mul (by omega) hn
  simp only [ofBytes, List.length_cons]
  omega
theorem all_beq (f : Nat → Nat) (n : Nat) : ((List.range n).all fun i => ((f i : Nat) : Int) == ((f i : Nat) : Int)) = true := by simp

theorem lsp_tail (l m : List Nat) (hl : Small l) (hm : Small m) (nl : l.length < 2 ^ 46) (nm : m.length < 2 ^ 46) (hne : l ≠ m) :
    Holds C P 102 [] 0 (FunPost C 102 0 [.tmp 6] (.sb true) []) (cutAt C w_lsp b_lsp [1, 1, 1, 1, 1, 1, 1, 1, 1, 1, 0] (S_sp20 l m) (after C w_lsp b_lsp [1, 1, 1, 1, 1, 1, 1, 1, 1, 1, 0] [] lf)) := by
  refine of_eq (lsp_C20 l m 0 _) ⟨fun _ => ?_, nofun⟩
  have hr : ∀ q : List Nat, bytesL q.length (fun i1 => u8 (q.getD (0 + i1) 0)) = q := fun q => bytesL_of rfl fun i _ => by rw [Nat.zero_add]
  have hb : ∀ {q : List Nat}, Small q → B8 q.length (fun i1 => u8 (q.getD (0 + i1) 0)) := fun hq i _ => ⟨rfl, getD_small hq _⟩
  have hs1 := sum_call (ex := false) (e := 1) (hb hl) (.inr rfl) (by omega)
  have hs2 := sum_call (ex := false) (e := 1) (hb hm) (.inr rfl) (by omega)
  have hstr := str_beq (hb hl) (hb hm)
  rw [hr l, hr m, decide_eq_false hne] at hstr
  rw [hr l] at hs1 ⊢
  rw [hr m] at hs2 ⊢
  rw [hstr]
  refine ⟨fun i _ => u8_in (getD_small hl _), fun i _ => u8_in (getD_small hm _), fun _ => ⟨fun _ _ => ⟨rfl, rfl⟩, fun _ => post_tmp rfl (sm_b rfl), fun h => ?_⟩, nofun⟩
  refine ⟨hs1, fun _ _ => trivial, hs2, fun _ _ => trivial, fun _ _ => ⟨rfl, rfl⟩, post_tmp rfl (sm_sb ?_)⟩
  simpa using h

theorem lsp_fun (ex ex' : Bool) (exs exs' : Nat → Bool) (ps qs : List (List Nat)) (w : List Nat) (hp : ∀ p ∈ ps, Small p) (hq : ∀ p ∈ qs, Small p) (hw : Small w) :
    Fun C P F_lsp [dp ex exs ps, dp ex' exs' qs, .arr 2 1 (rowL w)] [] (.sb true) [] := by
  refine in_lsp (W := w_lsp) rfl 0 (by simp) rfl (fun id h => absurd rfl h) ?_
  refine of_eq (lsp_A ex ex' exs exs' ps qs w 0 _) ⟨sanity_fun, trivial, fun _ => post_tmp rfl (sm_same rfl), fun h1 => ⟨fun _ => post_tmp rfl (sm_same rfl), fun h2 => ?_⟩⟩
  simp only [gt_iff_lt, decide_eq_false_iff_not] at h1 h2
  refine loop_inv (W := w_lsp) ctx mixed ok_lsp_0 (I_sp0 ex ex' exs exs' ps qs w) (fun i => i ≤ ps.length ∧ ∀ j, j < i → (ps.getD j []).length ≤ 40) (fun i => ps.length - i) 0 ⟨Nat.zero_le _, fun j hj => absurd hj (Nat.not_lt_zero j)⟩ ?_ fun i hi => ?_
  · exact ent_of [(5, 5)] rfl (tm_cons rfl (sm_same rfl) (tm_cons rfl (sm_same rfl) (tm_cons rfl (sm_ptr rfl) (tm_cons rfl (sm_b rfl) (tm_cons rfl (sm_same rfl) (tm_cons rfl (sm_same rfl) tm_nil)))))) (hp_cons rfl rfl (sm_same rfl) hp_nil)
  obtain ⟨hi, hall⟩ := hi
  refine of_eq (lsp_L0 ex ex' exs exs' ps qs w i 0 _) ⟨fun h => ?_, fun h => ?_⟩
  · simp only [decide_eq_true_eq] at h
    refine ⟨(by first | omega | decide | (unfold I64; omega)), fun _ => post_tmp rfl (sm_same rfl), fun h3 => ?_⟩
    simp only [gt_iff_lt, decide_eq_false_iff_not] at h3
    refine ⟨(by first | omega | decide | (unfold I64; omega)), round_end (i + 1) ⟨by omega, fun j hj => ?_⟩ (ent_of [(5, 5)] rfl (tm_cons rfl (sm_same rfl) (tm_cons rfl (sm_same rfl) (tm_cons rfl (sm_ptr rfl) (tm_cons rfl (sm_same rfl) (tm_cons rfl (sm_same rfl) (tm_cons rfl (sm_same rfl) tm_nil)))))) (hp_cons rfl rfl (sm_same rfl) hp_nil)) (by dsimp only; omega)⟩
    by_cases e : j = i
    · subst e; omega
    · exact hall j (by omega)
  simp only [decide_eq_false_iff_not] at h
  obtain rfl : i = ps.length := by omega
  refine loop_inv (W := w_lsp) ctx mixed ok_lsp_1 (I_sp1 ex ex' exs exs' ps qs w) (fun i => i ≤ qs.length ∧ ∀ j, j < i → (qs.getD j []).length ≤ 40) (fun i => qs.length - i) 0 ⟨Nat.zero_le _, fun j hj => absurd hj (Nat.not_lt_zero j)⟩ ?_ fun k hk => ?_
  · exact ent_of [(5, 5)] rfl (tm_cons rfl (sm_same rfl) (tm_cons rfl (sm_same rfl) (tm_cons rfl (sm_ptr rfl) (tm_cons rfl (sm_same rfl) (tm_cons rfl (sm_same rfl) (tm_cons rfl (sm_same rfl) tm_nil)))))) (hp_cons rfl rfl (sm_same rfl) hp_nil)
  obtain ⟨hk, hall2⟩ := hk
  refine of_eq (lsp_L1 ex ex' exs exs' ps qs w k 0 _) ⟨fun h => ?_, fun h => ?_⟩
  · simp only [decide_eq_true_eq] at h
    refine ⟨(by first | omega | decide | (unfold I64; omega)), fun _ => post_tmp rfl (sm_same rfl), fun h3 => ?_⟩
    simp only [gt_iff_lt, decide_eq_false_iff_not] at h3
    refine ⟨(by first | omega | decide | (unfold I64; omega)), round_end (k + 1) ⟨by omega, fun j hj => ?_⟩ (ent_of [(5, 5)] rfl (tm_cons rfl (sm_same rfl) (tm_cons rfl (sm_same rfl) (tm_cons rfl (sm_ptr rfl) (tm_cons rfl (sm_same rfl) (tm_cons rfl (sm_same rfl) (tm_cons rfl (sm_same rfl) tm_nil)))))) (hp_cons rfl rfl (sm_same rfl) hp_nil)) (by dsimp only; omega)⟩
    by_cases e : j = k
    · subst e; omega
    · exact hall2 j (by omega)
  simp only [decide_eq_false_iff_not] at h
  obtain rfl : k = qs.length := by omega
  have a1 := all_len hall
  have a2 := all_len hall2
  have n1 := len_bound (t := w.getD 0 0) a1 (by decide) (by omega)
  have n2 := len_bound (t := w.getD 1 0) a2 (by decide) (by omega)
  refine cut_ok (S2 := S_sp14 ex ex' exs exs' ps qs w) (ent_of [(5, 5)] rfl (tm_cons rfl (sm_same rfl) (tm_cons rfl (sm_same rfl) (tm_cons rfl (sm_ptr rfl) (tm_cons rfl (sm_same rfl) (tm_cons rfl (sm_same rfl) tm_nil))))) (hp_cons rfl rfl (sm_same rfl) hp_nil)) ?_
  refine of_eq (lsp_C14 ex ex' exs exs' ps qs w 0 _) ?_
  have ho1 := of_call (tag := w.getD 0 0) (ex := ex) (e := 1) (getD_small hw 0) (parts_dp (exs := exs) hp) (.inr rfl) (by rw [partsL_dp]; exact n1)
  have ho2 := of_call (tag := w.getD 1 0) (ex := ex') (e := 1) (getD_small hw 1) (parts_dp (exs := exs') hq) (.inr rfl) (by rw [partsL_dp]; exact n2)
  rw [partsL_dp exs ps] at ho1 ⊢
  rw [partsL_dp exs' qs] at ho2 ⊢
  refine ⟨(by first | omega | decide | (unfold I64; omega)), ho1, fun _ _ => trivial, ⟨rfl, rfl, fun _ _ => ⟨rfl, rfl⟩⟩, (by first | omega | decide | (unfold I64; omega)), ho2, fun _ _ => trivial, ⟨rfl, rfl, fun _ _ => ⟨rfl, rfl⟩⟩, cut_ok (S2 := S_sp16 ex ex' exs exs' ps qs w (ofBytes (w.getD 0 0) ps) (ofBytes (w.getD 1 0) qs)) (ent_of [(5, 5), (10, 10), (11, 11)] rfl (tm_cons rfl (sm_same rfl) (tm_cons rfl (sm_same rfl) (tm_cons rfl (sm_ptr rfl) (tm_cons rfl (sm_same rfl) (tm_cons rfl (sm_same rfl) (tm_cons rfl (sm_ptr rfl) (tm_cons rfl (sm_ptr rfl) tm_nil))))))) (hp_cons rfl rfl (sm_same rfl) (hp_cons rfl rfl (sm_same rfl) (hp_cons rfl rfl (sm_same rfl) hp_nil)))) ?_⟩
  have rest : (w.getD 0 0 ≠ w.getD 1 0 ∨ ps ≠ qs) → Holds C P 102 [] 0 (FunPost C 102 0 [.tmp 6] (.sb true) []) (cutAt C w_lsp b_lsp [1, 1, 1, 1, 1, 1, 1, 1, 0] (S_sp16 ex ex' exs exs' ps qs w (ofBytes (w.getD 0 0) ps) (ofBytes (w.getD 1 0) qs)) (after C w_lsp b_lsp [1, 1, 1, 1, 1, 1, 1, 1, 0] [] lf)) := by
    intro hd
    have hne : ofBytes (w.getD 0 0) ps ≠ ofBytes (w.getD 1 0) qs := fun e => by
      obtain ⟨e1, e2⟩ := ofBytes_inj (fun p hp => Nat.lt_of_le_of_lt (a1 p hp) (by decide)) (fun p hp => Nat.lt_of_le_of_lt (a2 p hp) (by decide)) e
      exact hd.elim (fun h => h e1) (fun h => h e2)
    refine of_eq (lsp_C18 ex ex' exs exs' ps qs w _ _ 0 _) ?_
    have hy1 := bytes_fun (w.getD 0 0) ex exs ps n1
    have hy2 := bytes_fun (w.getD 1 0) ex' exs' qs n2
    rw [partsL_dp exs ps, partsL_dp exs' qs]
    exact ⟨(by first | omega | decide | (unfold I64; omega)), hy1, (by first | omega | decide | (unfold I64; omega)), hy2, cut_ok (S2 := S_sp20 (ofBytes (w.getD 0 0) ps) (ofBytes (w.getD 1 0) qs)) (ent_of [(10, 10), (11, 11), (77, 12), (81, 13)] rfl (tm_cons rfl (sm_same rfl) (tm_cons rfl (sm_same rfl) (tm_cons rfl (sm_ptr rfl) (tm_cons rfl (sm_ptr rfl) (tm_cons rfl (sm_sl rfl rfl (Nat.le_refl _) (Nat.le_refl _) (by simp)) (tm_cons rfl (sm_sl rfl rfl (Nat.le_refl _) (Nat.le_refl _) (by simp)) tm_nil)))))) (hp_cons rfl rfl (sm_same rfl) (hp_cons rfl rfl (sm_same rfl) (hp_cons rfl rfl (sm_same rfl) (hp_cons rfl rfl (sm_same rfl) hp_nil)))))
      (lsp_tail _ _ (small_ofBytes (getD_small hw 0) hp) (small_ofBytes (getD_small hw 1) hq) n1 n2 hne)⟩
  refine of_eq (lsp_C16 ex ex' exs exs' ps qs w _ _ 0 _) ?_
  rw [partsL_dp exs ps, partsL_dp exs' qs]
  refine ⟨(by first | omega | decide | (unfold I64; omega)), (by first | omega | decide | (unfold I64; omega)), fun h3 => ⟨samebytes_fun ex ex' exs exs' ps qs hp hq (by omega), trivial, fun h4 => ⟨fun _ => ⟨fun _ _ => ⟨rfl, rfl⟩, post_tmp rfl (sm_sb ?_)⟩, nofun⟩, fun h4 => ?_⟩, fun h3 => ?_⟩
  · have e1 : w.getD 0 0 = w.getD 1 0 := by
      have := eq_of_beq h3
      omega
    have e2 := of_decide_eq_true h4
    subst e2
    rw [e1]
    exact all_beq _ _
  · exact cut_ok (S2 := S_sp16 ex ex' exs exs' ps qs w (ofBytes (w.getD 0 0) ps) (ofBytes (w.getD 1 0) qs)) (ent_of [(5, 5), (10, 10), (11, 11)] rfl (tm_cons rfl (sm_same rfl) (tm_cons rfl (sm_same rfl) (tm_cons rfl (sm_ptr rfl) (tm_cons rfl (sm_same rfl) (tm_cons rfl (sm_same rfl) (tm_cons rfl (sm_ptr rfl) (tm_cons rfl (sm_ptr rfl) tm_nil))))))) (hp_cons rfl rfl (sm_same rfl) (hp_cons rfl rfl (sm_same rfl) (hp_cons rfl rfl (sm_same rfl) hp_nil)))) (rest (.inr (of_decide_eq_false h4)))
  · refine cut_ok (S2 := S_sp16 ex ex' exs exs' ps qs w (ofBytes (w.getD 0 0) ps) (ofBytes (w.getD 1 0) qs)) (ent_of [(5, 5), (10, 10), (11, 11)] rfl (tm_cons rfl (sm_same rfl) (tm_cons rfl (sm_same rfl) (tm_cons rfl (sm_ptr rfl) (tm_cons rfl (sm_same rfl) (tm_cons rfl (sm_same rfl) (tm_cons rfl (sm_ptr rfl) (tm_cons rfl (sm_ptr rfl) tm_nil))))))) (hp_cons rfl rfl (sm_same rfl) (hp_cons rfl rfl (sm_same rfl) (hp_cons rfl rfl (sm_same rfl) hp_nil)))) (rest (.inl fun e => ?_))
    rw [e] at h3
    simp at h3

theorem lsp_law {x0 x1 x2 : AV} (h0 : Typed C.tt 6 23 x0) (h1 : Typed C.tt 6 23 x1) (h2 : Typed C.tt 6 34 x2) : Fun C P F_lsp [x0, x1, x2] [] (.sb true) [] := by
  obtain ⟨ps, ex, exs, hp, _, s0⟩ := typed_parts (s := 22) (e := 5) rfl rfl rfl rfl rfl h0
  obtain ⟨qs, ex', exs', hq, _, s1⟩ := typed_parts (s := 22) (e := 5) rfl rfl rfl rfl rfl h1
  obtain ⟨w, hws, hw, s2⟩ := typed_arrB (e := 5) (m := 2) rfl rfl rfl h2
  exact (lsp_fun ex ex' exs exs' ps qs w (fun p hm => (hp p hm).1) (fun p hm => (hq p hm).1) hws).sim ⟨s0, s1, s2, trivial⟩ trivial
end Go.Bu.W

