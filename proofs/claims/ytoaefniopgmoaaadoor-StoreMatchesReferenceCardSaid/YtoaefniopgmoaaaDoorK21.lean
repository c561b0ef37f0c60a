/- What a disk holds; synced, crashed, read. -/
import Derived.Test.YtoaefniopgmoaaaDoorK20
namespace Go.Bu.W
open Sp
def crContents : List AV → Option (AV × List (Nat × Blk))
 | [x] => (fun l => some (slC 0 l, [(0, .c (arC l))])) (cont (toDk x))
 | _ => none
def gotT (l : List Cl) (i s : Int) : AV := .tup [.dat (gotB l i s).length false 1 (rowL (gotB l i s)), .i (gotE l i s)]
def crGetT : List AV → Option (AV × List (Nat × Blk))
 | [x, i, s] => some (.tup [.dat (gotB (cont (toDk x)) (asI i) (asI s)).length false 1 (rowL (gotB (cont (toDk x)) (asI i) (asI s))), .i (gotE (cont (toDk x)) (asI i) (asI s))], [])
 | _ => none
def crT4 (g : Nat) (args : List AV) (H : List (Nat × Blk)) : Option (AV × List (Nat × Blk)) :=
 sel (Nat.beq g F_contents) (crContents args) <| sel (Nat.beq g F_get) (crGetT args) <| sel (Nat.beq g F_sync) (crSync args) <| sel (Nat.beq g F_crash) (crCrash args) <| sel (Nat.beq g F_bad) (crBad args) <| sel (Nat.beq g F_list) (crList args) <| sel (Nat.beq g F_lget) (crGet args) <| crT3 g args H
def byrefB (g : Nat) : Bool := Nat.beq g F_delf
def wayX (keep : List Nat) (nt : Nat) (cuts : List Nat) : Way := ⟨crT4, byrefB, keep, [], nt, cuts, []⟩
def w_contents : Way := wayX [0, 1, 2] 8 []
def w_sync : Way := wayX [0, 1, 2] 6 []
def w_crash : Way := wayX [0, 1, 2, 3, 4, 5] 14 []
def w_lget : Way := wayX [0, 1, 2, 3, 6, 7, 8] 19 []
def w_bad : Way := wayX [0, 1, 2] 6 []
def w_get : Way := wayX [0, 1, 2, 3, 6, 7, 9, 11, 12, 13, 14, 22, 25] 29 []
def w_list : Way := wayX [0, 1, 2, 3, 5, 7, 8, 9, 10] 20 []
def I_ge (l : List Cl) (i s : Int) (k : Nat) : St := { tm := [(1, .i i), (2, .i s), (11, csA false l), (12, .i l.length), (13, .i k)], hp := [], seen := [] }
def I_li (l : List Cl) (k : Nat) : St := { tm := [(3, .sl 3 [] 0 k k false 2), (7, csA false l), (8, .i l.length), (9, .i k)], hp := [(3, .c (anC l k))], seen := [3] }
theorem contents_A (ex ey : Bool) (d : Dk) {D : Dom} (K : Nat) (Φ : Ex → St → Prop) :
 (Holds C P 8 D K Φ (vc C w_contents b_contents [] (start [dkA ex ey d] []) lf)) =
 (Fun C P 46 [(dkA ex ey d), (AV.fn (Fn.func 65) [])] [] (AV.fn (Fn.func (70 : FuncId)) [(AV.ptr 0 []), (AV.ptr 1 [])]) [(0, (Blk.c (dkA ex ey d))), (1, (Blk.c (AV.fn (Fn.func 65) [])))] ∧
 (Fun C P 45 [(csA ex (Dk.l d)), (AV.fn (Fn.func (70 : FuncId)) [(AV.pd (dkA ex ey d)), (AV.pd (AV.fn (Fn.func 65) []))])] [] (AV.sl 0 [] 0 (List.length (prN (doneF (AV.fn (Fn.func 65) [])) (toCls (csA ex (Dk.l d))) (Dk.q (toDk (dkA ex ey d))) (List.length (Dk.q (toDk (dkA ex ey d)))))) (List.length (prN (doneF (AV.fn (Fn.func 65) [])) (toCls (csA ex (Dk.l d))) (Dk.q (toDk (dkA ex ey d))) (List.length (Dk.q (toDk (dkA ex ey d)))))) false 35) [(0, (Blk.c (AV.arr (List.length (prN (doneF (AV.fn (Fn.func 65) [])) (toCls (csA ex (Dk.l d))) (Dk.q (toDk (dkA ex ey d))) (List.length (Dk.q (toDk (dkA ex ey d)))))) 35 (rowC (prN (doneF (AV.fn (Fn.func 65) [])) (toCls (csA ex (Dk.l d))) (Dk.q (toDk (dkA ex ey d))) (List.length (Dk.q (toDk (dkA ex ey d)))))))))] ∧
 (Φ Ex.ret (St.mk [(0, (dkA ex ey d)), (1, (AV.ptr 1 [])), (2, (AV.sl 7 [] 0 (List.length (prN (doneF (AV.fn (Fn.func 65) [])) (toCls (csA ex (Dk.l d))) (Dk.q (toDk (dkA ex ey d))) (List.length (Dk.q (toDk (dkA ex ey d)))))) (List.length (prN (doneF (AV.fn (Fn.func 65) [])) (toCls (csA ex (Dk.l d))) (Dk.q (toDk (dkA ex ey d))) (List.length (Dk.q (toDk (dkA ex ey d)))))) false 35))] [(1, (Blk.c (dkA ex ey d))), (7, (Blk.c (AV.arr (List.length (prN (doneF (AV.fn (Fn.func 65) [])) (toCls (csA ex (Dk.l d))) (Dk.q (toDk (dkA ex ey d))) (List.length (Dk.q (toDk (dkA ex ey d)))))) 35 (rowC (prN (doneF (AV.fn (Fn.func 65) [])) (toCls (csA ex (Dk.l d))) (Dk.q (toDk (dkA ex ey d))) (List.length (Dk.q (toDk (dkA ex ey d)))))))))] [7, 1006, 6, 1])))) := by kernel_rfl
theorem sync_A (ex ey : Bool) (d : Dk) {D : Dom} (K : Nat) (Φ : Ex → St → Prop) :
 (Holds C P 6 D K Φ (vc C w_sync b_sync [] (start [dkA ex ey d] []) lf)) =
 (Fun C P 42 [(dkA ex ey d)] [] (AV.sl 0 [] 0 (List.length (cont (toDk (dkA ex ey d)))) (List.length (cont (toDk (dkA ex ey d)))) false 35) [(0, (Blk.c (AV.arr (List.length (cont (toDk (dkA ex ey d)))) 35 (rowC (cont (toDk (dkA ex ey d)))))))] ∧
 ((((true = true) ∧ (true = true)) ∧ (((true = true) ∧ (true = true)) ∧ True)) ∧
 (Φ Ex.ret (St.mk [(0, (dkA ex ey d)), (1, (AV.ptr 1 [])), (2, (AV.ptr 2 []))] [(1, (Blk.c (dkA ex ey d))), (2, (Blk.c (AV.st [(AV.sl 4 [] 0 (List.length (cont (toDk (dkA ex ey d)))) (List.length (cont (toDk (dkA ex ey d)))) false 35), (AV.dat 0 true 0 (fun (x : Nat) => (AV.v (Value.tuple #[]))))]))), (4, (Blk.c (AV.arr (List.length (cont (toDk (dkA ex ey d)))) 35 (rowC (cont (toDk (dkA ex ey d)))))))] [4, 2, 1])))) := by kernel_rfl
theorem crash_A (ex ey : Bool) (d : Dk) (ez : Bool) (l : List Bool) {D : Dom} (K : Nat) (Φ : Ex → St → Prop) :
 (Holds C P 14 D K Φ (vc C w_crash b_crash [] (start [dkA ex ey d, bA ez l] []) lf)) =
 (Fun C P 46 [(dkA ex ey d), (AV.fn (Fn.func 44) [(AV.pd (AV.dat (List.length l) ez 1 (fun (i : Nat) => (AV.sb (List.getD l i false)))))])] [] (AV.fn (Fn.func (70 : FuncId)) [(AV.ptr 0 []), (AV.ptr 1 [])]) [(0, (Blk.c (dkA ex ey d))), (1, (Blk.c (AV.fn (Fn.func 44) [(AV.pd (AV.dat (List.length l) ez 1 (fun (i : Nat) => (AV.sb (List.getD l i false)))))])))] ∧
 (Fun C P 45 [(csA ex (Dk.l d)), (AV.fn (Fn.func (70 : FuncId)) [(AV.pd (dkA ex ey d)), (AV.pd (AV.fn (Fn.func 44) [(AV.pd (AV.dat (List.length l) ez 1 (fun (i : Nat) => (AV.sb (List.getD l i false)))))]))])] [] (AV.sl 0 [] 0 (List.length (prN (doneF (AV.fn (Fn.func 44) [(AV.pd (AV.dat (List.length l) ez 1 (fun (i : Nat) => (AV.sb (List.getD l i false)))))])) (toCls (csA ex (Dk.l d))) (Dk.q (toDk (dkA ex ey d))) (List.length (Dk.q (toDk (dkA ex ey d)))))) (List.length (prN (doneF (AV.fn (Fn.func 44) [(AV.pd (AV.dat (List.length l) ez 1 (fun (i : Nat) => (AV.sb (List.getD l i false)))))])) (toCls (csA ex (Dk.l d))) (Dk.q (toDk (dkA ex ey d))) (List.length (Dk.q (toDk (dkA ex ey d)))))) false 35) [(0, (Blk.c (AV.arr (List.length (prN (doneF (AV.fn (Fn.func 44) [(AV.pd (AV.dat (List.length l) ez 1 (fun (i : Nat) => (AV.sb (List.getD l i false)))))])) (toCls (csA ex (Dk.l d))) (Dk.q (toDk (dkA ex ey d))) (List.length (Dk.q (toDk (dkA ex ey d)))))) 35 (rowC (prN (doneF (AV.fn (Fn.func 44) [(AV.pd (AV.dat (List.length l) ez 1 (fun (i : Nat) => (AV.sb (List.getD l i false)))))])) (toCls (csA ex (Dk.l d))) (Dk.q (toDk (dkA ex ey d))) (List.length (Dk.q (toDk (dkA ex ey d)))))))))] ∧
 ((((true = true) ∧ (true = true)) ∧ (((true = true) ∧ (true = true)) ∧ True)) ∧
 (Φ Ex.ret (St.mk [(0, (dkA ex ey d)), (1, (AV.dat (List.length l) ez 1 (fun (i : Nat) => (AV.sb (List.getD l i false))))), (2, (AV.ptr 2 [])), (3, (AV.ptr 3 [])), (4, (AV.ptr 4 [])), (5, (AV.fn (Fn.func 44) [(AV.ptr 3 [])]))] [(2, (Blk.c (dkA ex ey d))), (4, (Blk.c (AV.st [(AV.sl 12 [] 0 (List.length (prN (doneF (AV.fn (Fn.func 44) [(AV.pd (AV.dat (List.length l) ez 1 (fun (i : Nat) => (AV.sb (List.getD l i false)))))])) (toCls (csA ex (Dk.l d))) (Dk.q (toDk (dkA ex ey d))) (List.length (Dk.q (toDk (dkA ex ey d)))))) (List.length (prN (doneF (AV.fn (Fn.func 44) [(AV.pd (AV.dat (List.length l) ez 1 (fun (i : Nat) => (AV.sb (List.getD l i false)))))])) (toCls (csA ex (Dk.l d))) (Dk.q (toDk (dkA ex ey d))) (List.length (Dk.q (toDk (dkA ex ey d)))))) false 35), (AV.dat 0 true 0 (fun (x : Nat) => (AV.v (Value.tuple #[]))))]))), (12, (Blk.c (AV.arr (List.length (prN (doneF (AV.fn (Fn.func 44) [(AV.pd (AV.dat (List.length l) ez 1 (fun (i : Nat) => (AV.sb (List.getD l i false)))))])) (toCls (csA ex (Dk.l d))) (Dk.q (toDk (dkA ex ey d))) (List.length (Dk.q (toDk (dkA ex ey d)))))) 35 (rowC (prN (doneF (AV.fn (Fn.func 44) [(AV.pd (AV.dat (List.length l) ez 1 (fun (i : Nat) => (AV.sb (List.getD l i false)))))])) (toCls (csA ex (Dk.l d))) (Dk.q (toDk (dkA ex ey d))) (List.length (Dk.q (toDk (dkA ex ey d)))))))))] [12, 1011, 11, 4, 3, 2]))))) := by kernel_rfl
theorem bad_A (ex ey : Bool) (d : Dk) {D : Dom} (K : Nat) (Φ : Ex → St → Prop) :
 (Holds C P 6 D K Φ (vc C w_bad b_bad [] (start [dkA ex ey d] []) lf)) =
 (Fun C P 42 [(dkA ex ey d)] [] (AV.sl 0 [] 0 (List.length (cont (toDk (dkA ex ey d)))) (List.length (cont (toDk (dkA ex ey d)))) false 35) [(0, (Blk.c (AV.arr (List.length (cont (toDk (dkA ex ey d)))) 35 (rowC (cont (toDk (dkA ex ey d)))))))] ∧
 (Fun C P 58 [(AV.sl 0 [] 0 (List.length (cont (toDk (dkA ex ey d)))) (List.length (cont (toDk (dkA ex ey d)))) false 35), (AV.fn (Fn.func 51) [])] [(0, (Blk.c (AV.arr (List.length (cont (toDk (dkA ex ey d)))) 35 (rowC (cont (toDk (dkA ex ey d)))))))] (AV.sl 2 [] 0 (List.length (delL whC (rowCls (List.length (cont (toDk (dkA ex ey d)))) (rowC (cont (toDk (dkA ex ey d))))))) (List.length (delL whC (rowCls (List.length (cont (toDk (dkA ex ey d)))) (rowC (cont (toDk (dkA ex ey d))))))) false 35) [(2, (Blk.c (AV.arr (List.length (delL whC (rowCls (List.length (cont (toDk (dkA ex ey d)))) (rowC (cont (toDk (dkA ex ey d))))))) 35 (rowC (delL whC (rowCls (List.length (cont (toDk (dkA ex ey d)))) (rowC (cont (toDk (dkA ex ey d))))))))))] ∧
 (Φ Ex.ret (St.mk [(0, (dkA ex ey d)), (1, (AV.ptr 1 [])), (2, (AV.sl 1005 [] 0 (List.length (delL whC (rowCls (List.length (cont (toDk (dkA ex ey d)))) (rowC (cont (toDk (dkA ex ey d))))))) (List.length (delL whC (rowCls (List.length (cont (toDk (dkA ex ey d)))) (rowC (cont (toDk (dkA ex ey d))))))) false 35))] [(1, (Blk.c (dkA ex ey d))), (1005, (Blk.c (AV.arr (List.length (delL whC (rowCls (List.length (cont (toDk (dkA ex ey d)))) (rowC (cont (toDk (dkA ex ey d))))))) 35 (rowC (delL whC (rowCls (List.length (cont (toDk (dkA ex ey d)))) (rowC (cont (toDk (dkA ex ey d))))))))))] [1005, 4, 1])))) := by kernel_rfl
theorem lget_A (ex ey : Bool) (d : Dk) (i s : Int) {D : Dom} (K : Nat) (Φ : Ex → St → Prop) :
 (Holds C P 19 D K Φ (vc C w_lget b_lget [] (start [dkA ex ey d, .i i, .i s] []) lf)) =
 (Fun C P 53 [(dkA ex ey d), (AV.i i), (AV.i s)] [] (AV.tup [(AV.dat (List.length (gotB (cont (toDk (dkA ex ey d))) i s)) false 1 (rowL (gotB (cont (toDk (dkA ex ey d))) i s))), (AV.i (gotE (cont (toDk (dkA ex ey d))) i s))]) [] ∧
 ((((true = true) ∧ (true = true)) ∧ (((true = true) ∧ (true = true)) ∧ True)) ∧
 (Φ Ex.ret (St.mk [(0, (dkA ex ey d)), (1, (AV.i i)), (2, (AV.i s)), (3, (AV.ptr 3 [])), (6, (AV.ptr 6 [])), (7, (AV.dat (List.length (gotB (cont (toDk (dkA ex ey d))) i s)) false 1 (rowL (gotB (cont (toDk (dkA ex ey d))) i s)))), (8, (AV.i (gotE (cont (toDk (dkA ex ey d))) i s)))] [(3, (Blk.c (dkA ex ey d))), (6, (Blk.c (AV.st [(AV.dat (List.length (gotB (cont (toDk (dkA ex ey d))) i s)) false 1 (rowL (gotB (cont (toDk (dkA ex ey d))) i s))), (AV.i (gotE (cont (toDk (dkA ex ey d))) i s))])))] [6, 3])))) := by kernel_rfl
theorem get_A (ex ey : Bool) (d : Dk) (i s : Int) {D : Dom} (K : Nat) (Φ : Ex → St → Prop) :
 (Holds C P 29 D K Φ (vc C w_get b_get [] (start [dkA ex ey d, .i i, .i s] []) lf)) =
 (Fun C P 42 [(dkA ex ey d)] [] (AV.sl 0 [] 0 (List.length (cont (toDk (dkA ex ey d)))) (List.length (cont (toDk (dkA ex ey d)))) false 35) [(0, (Blk.c (AV.arr (List.length (cont (toDk (dkA ex ey d)))) 35 (rowC (cont (toDk (dkA ex ey d)))))))] ∧
 (LoopOK C P 29 D K (bodyAt b_get [1, 0, 1, 0]) (St.mk [(0, (dkA ex ey d)), (1, (AV.i i)), (2, (AV.i s)), (3, (AV.ptr 3 [])), (6, (AV.dat 0 true 0 (fun (x : Nat) => (AV.v (Value.tuple #[]))))), (7, (AV.i (0 : Int))), (11, (AV.sl 11 [] 0 (List.length (cont (toDk (dkA ex ey d)))) (List.length (cont (toDk (dkA ex ey d)))) false 35)), (12, (AV.i (((List.length (cont (toDk (dkA ex ey d)))) : Nat) : Int))), (13, (AV.i (0 : Int)))] [(3, (Blk.c (dkA ex ey d))), (11, (Blk.c (AV.arr (List.length (cont (toDk (dkA ex ey d)))) 35 (rowC (cont (toDk (dkA ex ey d)))))))] [11, 3]) (fun (e : Ex) (S' : St) => Holds C P 29 D K Φ (after C w_get b_get [1, 0, 1, 0] [] lf e S')))) := by kernel_rfl
noncomputable abbrev bd_get_0 : Code := bodyAt (b_get) [1, 0, 1, 0]
theorem ok_get_0 : codeOK bd_get_0 = true := by kernel_rfl
noncomputable abbrev rest_get_0 (D : Dom) (K : Nat) (Φ : Ex → St → Prop) : Ex → St → Prop := fun e S' => Holds C P 29 D K Φ (after C w_get (b_get) [1, 0, 1, 0] [] lf e S')
theorem get_L0 (l : List Cl) (i s : Int) (k : Nat) {D : Dom} (K : Nat) (Φ : Ex → St → Prop) :
 (Holds C P 29 D K (RoundQ C 29 D K (I_ge l i s) (fun k => k ≤ l.length ∧ ∀ m, m < k → ¬ ((clAt l m).i = i ∧ (clAt l m).s = s)) (fun k => l.length - k) ((fun k => l.length - k) (k)) (rest_get_0 D K Φ)) (vc C w_get bd_get_0 [] ((I_ge l i s) (k)) lf)) =
 (((decide (((k : Nat) : Int) < (((List.length l) : Nat) : Int))) = true →
 ((((0 : Int) ≤ ((k : Nat) : Int)) ∧ (((k : Nat) : Int) < (((List.length l) : Nat) : Int))) ∧
 ((((true = true) ∧ (true = true)) ∧ (((true = true) ∧ (true = true)) ∧ (((true = true) ∧ (true = true)) ∧ (((32 = 32) ∧ ((1 = 1) ∧ (∀ (i1 : Nat), ((i1 < 32) → ((true = true) ∧ (true = true)))))) ∧ True)))) ∧
 (Fun C P 54 [(clA (clAt l k))] [] (AV.arr 2 1 (fun (k1 : Nat) => (AV.i (num2 (toCl (clA (clAt l k))) k1)))) [] ∧
 ((∀ (i1 : Nat), ((i1 < 2) → True)) ∧
 ((∀ (i1 : Nat), ((i1 < 2) → ((IntKind.i64 = IntKind.i64) ∧ (isInt IntKind.i64 (layParts (fun (x : Nat) => (AV.i (0 : Int))) [(0, (AV.i i)), (1, (AV.i s))] i1))))) ∧
 (((! (List.all (List.range 2) (fun (i1 : Nat) => ((num2 (toCl (clA (clAt l k))) i1) == (asI (layParts (fun (x : Nat) => (AV.i (0 : Int))) [(0, (AV.i i)), (1, (AV.i s))] i1)))))) = true →
 ((I64 (((k + 1) : Nat) : Int)) ∧
 ((RoundQ C 29 D K (I_ge l i s) (fun k => k ≤ l.length ∧ ∀ m, m < k → ¬ ((clAt l m).i = i ∧ (clAt l m).s = s)) (fun k => l.length - k) ((fun k => l.length - k) (k)) (rest_get_0 D K Φ)) Ex.normal (St.mk [(1, (AV.i i)), (2, (AV.i s)), (9, (AV.ptr 9 [])), (11, (csA false l)), (12, (AV.i (((List.length l) : Nat) : Int))), (13, (AV.i (((k + 1) : Nat) : Int))), (14, (AV.v (Value.bool true))), (22, (AV.v (Value.bool true)))] [(9, (Blk.c (clA (clAt l k))))] [9])))) ∧
 ((! (List.all (List.range 2) (fun (i1 : Nat) => ((num2 (toCl (clA (clAt l k))) i1) == (asI (layParts (fun (x : Nat) => (AV.i (0 : Int))) [(0, (AV.i i)), (1, (AV.i s))] i1)))))) = false →
 (Fun C P 51 [(clA (clAt l k))] [] (AV.sb (whC (toCl (clA (clAt l k))))) [] ∧
 (True ∧
 (((! (whC (toCl (clA (clAt l k))))) = true →
 (Φ Ex.ret (St.mk [(1, (AV.i i)), (2, (AV.i s)), (6, (AV.dat 0 true 0 (fun (x : Nat) => (AV.v (Value.tuple #[]))))), (7, (AV.i (221 : Int))), (9, (AV.ptr 9 [])), (11, (csA false l)), (12, (AV.i (((List.length l) : Nat) : Int))), (13, (AV.i ((k : Nat) : Int))), (14, (AV.v (Value.bool true))), (22, (AV.v (Value.bool false))), (25, (AV.v (Value.bool true)))] [(9, (Blk.c (clA (clAt l k))))] [9]))) ∧
 ((! (whC (toCl (clA (clAt l k))))) = false →
 (Φ Ex.ret (St.mk [(1, (AV.i i)), (2, (AV.i s)), (6, (AV.dat (List.length (Cl.b (clAt l k))) false 1 (rowL (Cl.b (clAt l k))))), (7, (AV.i (0 : Int))), (9, (AV.ptr 9 [])), (11, (csA false l)), (12, (AV.i (((List.length l) : Nat) : Int))), (13, (AV.i ((k : Nat) : Int))), (14, (AV.v (Value.bool true))), (22, (AV.v (Value.bool false))), (25, (AV.v (Value.bool false)))] [(9, (Blk.c (clA (clAt l k))))] [9])))))))))))))) ∧
 ((decide (((k : Nat) : Int) < (((List.length l) : Nat) : Int))) = false →
 (Φ Ex.ret (St.mk [(1, (AV.i i)), (2, (AV.i s)), (6, (AV.dat 0 true 0 (fun (x : Nat) => (AV.v (Value.tuple #[]))))), (7, (AV.i (220 : Int))), (11, (csA false l)), (12, (AV.i (((List.length l) : Nat) : Int))), (13, (AV.i ((k : Nat) : Int))), (14, (AV.v (Value.bool false)))] [] [])))) := by kernel_rfl
theorem list_A (ex ey : Bool) (d : Dk) {D : Dom} (K : Nat) (Φ : Ex → St → Prop) :
 (Holds C P 20 D K Φ (vc C w_list b_list [] (start [dkA ex ey d] []) lf)) =
 (Fun C P 42 [(dkA ex ey d)] [] (AV.sl 0 [] 0 (List.length (cont (toDk (dkA ex ey d)))) (List.length (cont (toDk (dkA ex ey d)))) false 35) [(0, (Blk.c (AV.arr (List.length (cont (toDk (dkA ex ey d)))) 35 (rowC (cont (toDk (dkA ex ey d)))))))] ∧
 (LoopOK C P 20 D K (bodyAt b_list [1, 1, 0, 1, 0]) (St.mk [(0, (dkA ex ey d)), (1, (AV.ptr 1 [])), (2, (AV.dat 0 true 0 (fun (x : Nat) => (AV.v (Value.tuple #[]))))), (3, (AV.dat 0 true 0 (fun (x : Nat) => (AV.v (Value.tuple #[]))))), (7, (AV.sl 7 [] 0 (List.length (cont (toDk (dkA ex ey d)))) (List.length (cont (toDk (dkA ex ey d)))) false 35)), (8, (AV.i (((List.length (cont (toDk (dkA ex ey d)))) : Nat) : Int))), (9, (AV.i (0 : Int)))] [(1, (Blk.c (dkA ex ey d))), (7, (Blk.c (AV.arr (List.length (cont (toDk (dkA ex ey d)))) 35 (rowC (cont (toDk (dkA ex ey d)))))))] [7, 1]) (fun (e : Ex) (S' : St) => Holds C P 20 D K Φ (after C w_list b_list [1, 1, 0, 1, 0] [] lf e S')))) := by kernel_rfl
noncomputable abbrev bd_list_0 : Code := bodyAt (b_list) [1, 1, 0, 1, 0]
theorem ok_list_0 : codeOK bd_list_0 = true := by kernel_rfl
noncomputable abbrev rest_list_0 (D : Dom) (K : Nat) (Φ : Ex → St → Prop) : Ex → St → Prop := fun e S' => Holds C P 20 D K Φ (after C w_list (b_list) [1, 1, 0, 1, 0] [] lf e S')
theorem list_L0 (l : List Cl) (k : Nat) {D : Dom} (K : Nat) (Φ : Ex → St → Prop) :
 (Holds C P 20 D K (RoundQ C 20 D K (I_li l) (fun k => k ≤ l.length) (fun k => l.length - k) ((fun k => l.length - k) (k)) (rest_list_0 D K Φ)) (vc C w_list bd_list_0 [] ((I_li l) (k)) lf)) =
 (((decide (((k : Nat) : Int) < (((List.length l) : Nat) : Int))) = true →
 ((((0 : Int) ≤ ((k : Nat) : Int)) ∧ (((k : Nat) : Int) < (((List.length l) : Nat) : Int))) ∧
 ((((true = true) ∧ (true = true)) ∧ (((true = true) ∧ (true = true)) ∧ (((true = true) ∧ (true = true)) ∧ (((32 = 32) ∧ ((1 = 1) ∧ (∀ (i : Nat), ((i < 32) → ((true = true) ∧ (true = true)))))) ∧ True)))) ∧
 (Fun C P 54 [(clA (clAt l k))] [] (AV.arr 2 1 (fun (k1 : Nat) => (AV.i (num2 (toCl (clA (clAt l k))) k1)))) [] ∧
 ((∀ (i : Nat), ((i < 2) → True)) ∧
 ((((k + 1) * 16) ≤ 140737488355328) ∧
 ((I64 (((k + 1) : Nat) : Int)) ∧
 ((RoundQ C 20 D K (I_li l) (fun k => k ≤ l.length) (fun k => l.length - k) ((fun k => l.length - k) (k)) (rest_list_0 D K Φ)) Ex.normal (St.mk [(3, (AV.sl 17 [] 0 (k + 1) (k + 1) false 2)), (5, (AV.ptr 5 [])), (7, (csA false l)), (8, (AV.i (((List.length l) : Nat) : Int))), (9, (AV.i (((k + 1) : Nat) : Int))), (10, (AV.v (Value.bool true)))] [(5, (Blk.c (clA (clAt l k)))), (16, (Blk.c (AV.st [(AV.arr 2 1 (fun (k1 : Nat) => (AV.i (num2 (toCl (clA (clAt l k))) k1))))]))), (17, (Blk.c (AV.arr (k + 1) 2 (cat k (fun (i : Nat) => (AV.arr 2 1 (fun (k1 : Nat) => (AV.i (num2 (clAt l (0 + i)) k1))))) (fun (i : Nat) => (nthD [(AV.arr 2 1 (fun (k1 : Nat) => (AV.i (num2 (toCl (clA (clAt l k))) k1))))] (0 + i) (AV.v (Value.tuple #[]))))))))] [17, 16, 5, 3]))))))))) ∧
 ((decide (((k : Nat) : Int) < (((List.length l) : Nat) : Int))) = false →
 (Φ Ex.ret (St.mk [(2, (AV.sl 3 [] 0 k k false 2)), (3, (AV.sl 3 [] 0 k k false 2)), (7, (csA false l)), (8, (AV.i (((List.length l) : Nat) : Int))), (9, (AV.i ((k : Nat) : Int))), (10, (AV.v (Value.bool false)))] [(3, (Blk.c (AV.arr k 2 (fun (k1 : Nat) => (AV.arr 2 1 (fun (k2 : Nat) => (AV.i (num2 (clAt l k1) k2))))))))] [3])))) := by kernel_rfl
theorem cont_len {d : Dk} (so : SoC d.l) : (cont d).length ≤ d.l.length + d.q.length := prN_len so d.q d.q.length
theorem contents_fun (ex ey : Bool) (d : Dk) (so : SoC d.l) (hn : d.l.length + d.q.length < 2 ^ 36) : Fun C P F_contents [dkA ex ey d] [] (slC 0 (cont d)) [(0, .c (arC (cont d)))] := by
 refine in_contents (W := w_contents) rfl 0 (by simp) rfl (fun id h => absurd rfl h) fun D => ?_
 refine of_eq (contents_A ex ey d 0 _) ?_
 rw [toDk_A, toCls_A]
 exact ⟨jobs_fun ex ey d 65 [] rfl, performC_fun ex ex ey d so hn, post_row rfl rfl rfl (Nat.le_refl _) (Nat.le_refl _) rfl fun _ _ => rfl⟩
theorem sm_frz {m : Nat → Option Nat} (l : List Cl) : simR m (AV.dat l.length false 35 (fun i => rowC l (0 + i))) (csA false l) := sm_dat (fun h => h) fun i _ => by show clA (clAt l (0 + i)) = _; rw [Nat.zero_add]
theorem sm_nilJ {m : Nat → Option Nat} : simR m nilS (jsA false []) := .inr ⟨rfl, by simp, .inl rfl, fun i hi => absurd hi (Nat.not_lt_zero i)⟩
theorem sync_fun (ex ey : Bool) (d : Dk) (so : SoC d.l) (hn : d.l.length + d.q.length < 2 ^ 36) : Fun C P F_sync [dkA ex ey d] [] (dkA false false (syncD d)) [] := by
 refine in_sync (W := w_sync) rfl 0 (by simp) rfl (fun id h => absurd rfl h) fun D => ?_
 refine of_eq (sync_A ex ey d 0 _) ?_
 rw [toDk_A]
 exact ⟨contents_fun ex ey d so hn, TD2, post_frz [4] (post_cell rfl rfl (sm_st (sms_cons (sm_frz _) (sms_cons sm_nilJ sms_nil))) rfl)⟩
theorem crash_fun (ex ey : Bool) (d : Dk) (ez : Bool) (l : List Bool) (so : SoC d.l) (hn : d.l.length + d.q.length < 2 ^ 36) : Fun C P F_crash [dkA ex ey d, bA ez l] [] (dkA false false (crashD d l)) [] := by
 refine in_crash (W := w_crash) rfl 0 (by simp) rfl (fun id h => absurd rfl h) fun D => ?_
 have hA := crash_A (D := D) ex ey d ez l 0 (FunPost C 14 0 [.cell 4 27] (dkA false false (crashD d l)) [])
 rw [hA]
 clear hA
 have e1 : doneF (AV.fn (Fn.func 44) [(AV.pd (AV.dat (List.length l) ez 1 (fun (i : Nat) => (AV.sb (List.getD l i false)))))]) = fun i => l.getD i false := by
  have e2 : bLs (AV.dat (List.length l) ez 1 (fun (i : Nat) => (AV.sb (List.getD l i false)))) = l := by
   apply List.ext_getElem
   ·simp [bLs]
   ·intro i h1 h2
    simp [bLs, asB, List.getD_eq_getElem?_getD, List.getElem?_eq_getElem h2]
  show (fun i => (bLs (AV.dat (List.length l) ez 1 (fun (i : Nat) => (AV.sb (List.getD l i false))))).getD i false) = _
  rw [e2]
 rw [toDk_A, toCls_A, e1]
 refine ⟨jobs_fun ex ey d 44 _ rfl, performS_fun ex ex ey ez d l so hn, TD2, post_frz [12] (post_cell rfl rfl (sm_st (sms_cons (sm_frz _) (sms_cons sm_nilJ sms_nil))) rfl)⟩
theorem bad_fun (ex ey : Bool) (d : Dk) (hv : VD d) (hn : d.l.length + d.q.length < 2 ^ 36) : Fun C P F_bad [dkA ex ey d] [] (csA false (badL (cont d))) [] := by
 refine in_bad (W := w_bad) rfl 0 (by simp) rfl (fun id h => absurd rfl h) fun D => ?_
 refine of_eq (bad_A ex ey d 0 _) ?_
 rw [toDk_A, rowCls_A]
 have hl := cont_len hv.so
 exact ⟨contents_fun ex ey d hv.so hn, delW_fun (cont d) (by omega) (fun c hc => hv.smc hc), post_frz [1005] (post_tmp rfl (sm_frz _))⟩
theorem all2 (c : Cl) (i s : Int) : (List.all (List.range 2) (fun (i1 : Nat) => ((num2 c i1) == (asI (layParts (fun (_ : Nat) => (AV.i (0 : Int))) [(0, (AV.i i)), (1, (AV.i s))] i1))))) = (decide (c.i = i) && decide (c.s = s)) := by
 show ((c.i == i) && ((c.s == s) && true)) = _
 rw [Bool.and_true, beq_dec, beq_dec]
theorem get_fun (ex ey : Bool) (d : Dk) (hv : VD d) (i s : Int) (hn : d.l.length + d.q.length < 2 ^ 36) : Fun C P F_get [dkA ex ey d, .i i, .i s] [] (gotT (cont d) i s) [] := by
 refine in_get (W := w_get) rfl 0 (by simp) rfl (fun id h => absurd rfl h) fun D => ?_
 refine of_eq (get_A ex ey d i s 0 _) ?_
 rw [toDk_A]
 have hc := contents_fun ex ey d hv.so hn
 have hsm := fun c hc => hv.smc (c := c) hc
 have hso : SoC (cont d) := hv.sync.so
 have hln := cont_len hv.so
 obtain ⟨l, el⟩ : ∃ l, l = cont d := ⟨_, rfl⟩
 rw [← el] at hc hsm hln hso ⊢
 clear el
 refine ⟨hc, ?_⟩
 refine loop_inv (W := w_get) ctx mixed ok_get_0 (I_ge l i s) (fun k => k ≤ l.length ∧ ∀ m, m < k → ¬ ((clAt l m).i = i ∧ (clAt l m).s = s)) (fun k => l.length - k) 0 ⟨Nat.zero_le _, fun m hm => absurd hm (Nat.not_lt_zero m)⟩ ?_ fun k hk => ?_
 ·exact (ent_freeze _ [11]).trans (ent_of [] rfl (tm_cons rfl (sm_same rfl) (tm_cons rfl (sm_same rfl) (tm_cons rfl (sm_frz l) (tm_cons rfl (sm_same rfl) (tm_cons rfl (sm_same rfl) tm_nil))))) hp_nil)
 obtain ⟨h1, h2⟩ := hk
 have fin : ∀ {S : St} {t : List Nat} {e : Int} {n : Nat} {ee : Nat} {exx : Bool} {f : Nat → AV}, gotE l i s = e → look S.tm 6 = some (.dat n exx ee f) → look S.tm 7 = some (.i e) → n = (gotB l i s).length → (n = 0 ∨ ee = 1) → (∀ k, k < n → f k = rowL (gotB l i s) k) → FunPost C 29 0 [.tmp 6, .tmp 7] (gotT l i s) [] .ret S := fun he g1 g2 hn hz hf =>
  post_tup g1 g2 (.inr ⟨hn, by simp, hz.imp_left (fun h => h), fun k hk => .inl (hf k hk)⟩) (sm_int he.symm) rfl
 refine of_eq (get_L0 l i s k 0 _) ⟨fun h => ?_, fun h => ?_⟩
 rotate_left
 ·simp only [decide_eq_false_iff_not] at h
  have hg : getC l i s = none := getC_none.2 fun c hc hh => by
   obtain ⟨m, hm, rfl⟩ := List.getElem_of_mem hc
   rw [← clAt_lt hm] at hh
   exact h2 m (by omega) hh
  have e1 : gotB l i s = [] := by unfold gotB; rw [hg]
  have e2 : gotE l i s = 220 := by unfold gotE; rw [hg]
  exact fin (t := []) e2 rfl rfl (by rw [e1]; rfl) (.inl rfl) fun k hk => absurd hk (Nat.not_lt_zero k)
 simp only [decide_eq_true_eq] at h
 have hlt : k < l.length := by omega
 rw [toCl_A, all2]
 refine ⟨(by first | omega | decide | (unfold I64; omega)), TC4, number_fun _, fun _ _ => trivial, fun m hm => ⟨rfl, by match m, hm with | 0, _ => rfl | 1, _ => rfl⟩, fun h3 => ⟨(by first | omega | decide | (unfold I64; omega)), round_end (k + 1) ⟨by omega, fun m hm => ?_⟩ (ent_of [] rfl (tm_cons rfl (sm_same rfl) (tm_cons rfl (sm_same rfl) (tm_cons rfl (sm_same rfl) (tm_cons rfl (sm_same rfl) (tm_cons rfl (sm_same rfl) tm_nil))))) hp_nil) (by dsimp only; omega)⟩, fun h3 => ?_⟩
 ·by_cases e : m = k
  ·rw [e]
   intro hh
   simp [hh.1, hh.2] at h3
  ·exact h2 m (by omega)
 have hh : (clAt l k).i = i ∧ (clAt l k).s = s := by simpa using h3
 have hm : clAt l k ∈ l := by rw [clAt_lt hlt]; exact List.getElem_mem hlt
 have hg : getC l i s = some (clAt l k) := by
  have := getC_mem hso hm
  rwa [hh.1, hh.2] at this
 obtain ⟨m1, m2⟩ := hsm _ hm
 refine ⟨whole_fun _ m1 m2, trivial, fun h5 => ?_, fun h5 => ?_⟩
 ·have h5 : ¬ whC (clAt l k) = true := by simpa using h5
  have e1 : gotB l i s = [] := by unfold gotB; rw [hg]; exact if_neg h5
  have e2 : gotE l i s = 221 := by unfold gotE; rw [hg]; exact if_neg h5
  exact fin (t := []) e2 rfl rfl (by rw [e1]; rfl) (.inl rfl) fun k hk => absurd hk (Nat.not_lt_zero k)
 ·have h5 : whC (clAt l k) = true := by simpa using h5
  have e1 : gotB l i s = (clAt l k).b := by unfold gotB; rw [hg]; exact if_pos h5
  have e2 : gotE l i s = 0 := by unfold gotE; rw [hg]; exact if_pos h5
  exact fin (t := []) e2 rfl rfl (by rw [e1]) (.inr rfl) fun m hm => by rw [e1]
theorem lget_fun (ex ey : Bool) (d : Dk) (hv : VD d) (i s : Int) (hn : d.l.length + d.q.length < 2 ^ 36) : Fun C P F_lget [dkA ex ey d, .i i, .i s] [] (gotA (cont d) i s) [] := by
 refine in_lget (W := w_lget) rfl 0 (by simp) rfl (fun id h => absurd rfl h) fun D => ?_
 refine of_eq (lget_A ex ey d i s 0 _) ?_
 rw [toDk_A]
 exact ⟨get_fun ex ey d hv i s hn, TD2, post_cell rfl rfl (sm_same rfl) rfl⟩
theorem list_fun (ex ey : Bool) (d : Dk) (hv : VD d) (hn : d.l.length + d.q.length < 2 ^ 36) : Fun C P F_list [dkA ex ey d] [] (nlA false (cont d)) [] := by
 refine in_list (W := w_list) rfl 0 (by simp) rfl (fun id h => absurd rfl h) fun D => ?_
 refine of_eq (list_A ex ey d 0 _) ?_
 rw [toDk_A]
 have hc := contents_fun ex ey d hv.so hn
 have hln := cont_len hv.so
 obtain ⟨l, el⟩ : ∃ l, l = cont d := ⟨_, rfl⟩
 rw [← el] at hc hln ⊢
 clear el
 refine ⟨hc, ?_⟩
 refine loop_inv (W := w_list) ctx mixed ok_list_0 (I_li l) (fun i => i ≤ l.length) (fun i => l.length - i) 0 (Nat.zero_le _) ?_ fun i hi => ?_
 ·exact (ent_freeze _ [7]).trans (ent_of [] rfl (tm_cons rfl (sm_nil rfl rfl) (tm_cons rfl (sm_frz l) (tm_cons rfl (sm_same rfl) (tm_cons rfl (sm_same rfl) tm_nil)))) (hp_new rfl rfl hp_nil))
 refine of_eq (list_L0 l i 0 _) ⟨fun h => ?_, fun h => ?_⟩
 ·simp only [decide_eq_true_eq] at h
  rw [toCl_A]
  refine ⟨(by first | omega | decide | (unfold I64; omega)), TC4, number_fun _, fun _ _ => trivial, (by first | omega | decide | (unfold I64; omega)), (by first | omega | decide | (unfold I64; omega)), round_end (i + 1) (by omega) (ent_of [(17, 3)] rfl (tm_cons rfl (sm_sl rfl rfl (Nat.le_refl _) (Nat.le_refl _) (by simp)) (tm_cons rfl (sm_same rfl) (tm_cons rfl (sm_same rfl) (tm_cons rfl (sm_same rfl) tm_nil)))) (hp_cons rfl rfl (sm_arr fun k hk => ?_) hp_nil)) (by dsimp only; omega)⟩
  unfold cat
  by_cases e : k < i
  ·rw [if_pos e]
   show AV.arr 2 1 (fun k1 => AV.i (num2 (clAt l (0 + k)) k1)) = _
   rw [Nat.zero_add]
  ·rw [if_neg e]
   obtain rfl : k = i := by omega
   rw [Nat.sub_self]; rfl
 ·simp only [decide_eq_false_iff_not] at h
  obtain rfl : i = l.length := by omega
  exact post_frz [3] (post_tmp rfl (sm_dat' rfl (by simp) fun k hk => by rw [Nat.zero_add]))
end Go.Bu.W
namespace Go.Bu.W
open Sp
def crCloneO : List AV → Option (AV × List (Nat × Blk))
 | [.dat n _ _ f] => some (.sl 0 [] 0 n n false 1, [(0, .c (.arr n 1 f))])
 | _ => none
def crRotT : List AV → Option (AV × List (Nat × Blk))
 | [x, c, k, y] => some (.tup [dkA false false (rotD (toDk x) (asI c) (asI k) (asN y)), .i (rotE (toDk x) (asI c) (asI k))], [])
 | _ => none
def crRotS : List AV → Option (AV × List (Nat × Blk))
 | [x, c, k, y] => some (.st [dkA false false (rotD (toDk x) (asI c) (asI k) (asN y)), .i (rotE (toDk x) (asI c) (asI k))], [])
 | _ => none
def crLRot : List AV → Option (AV × List (Nat × Blk))
 | [x, .arr _ _ f, y] => some (.st [dkA false false (rotD (toDk x) (asI (f 0)) (asI (f 1)) (asN y)), .i (rotE (toDk x) (asI (f 0)) (asI (f 1)))], [])
 | _ => none
def crId : List AV → Option (AV × List (Nat × Blk))
 | [x] => some (.i (idN (asN x)), [])
 | _ => none
def crT5 (g : Nat) (args : List AV) (H : List (Nat × Blk)) : Option (AV × List (Nat × Blk)) :=
 sel (Nat.beq g F_rot) (crRotT args) <| sel (Nat.beq g F_rrot) (crRotS args) <| sel (Nat.beq g F_lrot) (crLRot args) <| sel (Nat.beq g F_rid) (crId args) <| crT4 g args H
def crT5o (g : Nat) (args : List AV) (H : List (Nat × Blk)) : Option (AV × List (Nat × Blk)) := sel (Nat.beq g F_cloneB) (crCloneO args) <| crT5 g args H
def wayZo (keep : List Nat) (nt : Nat) (cuts : List Nat) : Way := ⟨crT5o, fun _ => false, keep, [], nt, cuts, []⟩
def wayZi (keep : List Nat) (nt : Nat) (cuts : List Nat) : Way := ⟨crT5, fun _ => false, keep, [3], nt, cuts, []⟩
def wayZ (keep : List Nat) (nt : Nat) (cuts : List Nat) : Way := ⟨crT5, fun _ => false, keep, [], nt, cuts, []⟩
def w_rot : Way := wayZo [0, 1, 2, 3, 4, 8, 9, 10, 34] 61 [4,6]
def w_rid : Way := wayZi [0, 2] 8 []
def w_lrot : Way := wayZ [0, 1, 2, 3, 4, 6, 7, 8] 22 []
def S_ro4 (d : Dk) (q : AV) (c k y : Nat) : St := { tm := [(1, .i c), (2, .i k), (3, u8 y), (4, .ptr 4 []), (8, .ptr 8 [])], hp := [(4, .c (.st [slC 38 d.l, q])), (8, .c (.st [nilS, nilS])), (38, .c (arC d.l))], seen := [4, 8, 38] }
def S_ro6 (d : Dk) (q : AV) (c : Nat) (b : List Nat) : St := { tm := [(1, .i c), (4, .ptr 4 []), (8, .ptr 8 []), (10, dbA false b)], hp := [(4, .c (.st [slC 38 d.l, q])), (8, .c (.st [nilS, nilS])), (38, .c (arC d.l))], seen := [4, 8, 38] }
theorem rot_A (ex ey : Bool) (d : Dk) (c k : Int) (y : Nat) {D : Dom} (K : Nat) (Φ : Ex → St → Prop) :
 (Holds C P 61 D K Φ (vc C w_rot b_rot [] (start [dkA ex ey d, .i c, .i k, u8 y] []) lf)) =
 (((decide (c < (0 : Int))) = true →
 ((((true = true) ∧ (true = true)) ∧ (((true = true) ∧ (true = true)) ∧ True)) ∧
 (Φ Ex.ret (St.mk [(0, (dkA ex ey d)), (1, (AV.i c)), (2, (AV.i k)), (3, (AV.v (Value.int IntKind.u8 ((y : Nat) : Int)))), (4, (AV.ptr 4 [])), (8, (AV.ptr 8 [])), (9, (AV.i (220 : Int))), (34, (AV.v (Value.bool true)))] [(4, (Blk.c (dkA ex ey d))), (8, (Blk.c (dkA ex ey d)))] [8, 4])))) ∧
 ((decide (c < (0 : Int))) = false →
 (((decide (c ≥ (((List.length (Dk.l d)) : Nat) : Int))) = true →
 ((((true = true) ∧ (true = true)) ∧ (((true = true) ∧ (true = true)) ∧ True)) ∧
 (Φ Ex.ret (St.mk [(0, (dkA ex ey d)), (1, (AV.i c)), (2, (AV.i k)), (3, (AV.v (Value.int IntKind.u8 ((y : Nat) : Int)))), (4, (AV.ptr 4 [])), (8, (AV.ptr 8 [])), (9, (AV.i (220 : Int))), (34, (AV.v (Value.bool true)))] [(4, (Blk.c (dkA ex ey d))), (8, (Blk.c (dkA ex ey d)))] [8, 4])))) ∧
 ((decide (c ≥ (((List.length (Dk.l d)) : Nat) : Int))) = false →
 (((decide (k < (0 : Int))) = true →
 ((((true = true) ∧ (true = true)) ∧ (((true = true) ∧ (true = true)) ∧ True)) ∧
 (Φ Ex.ret (St.mk [(0, (dkA ex ey d)), (1, (AV.i c)), (2, (AV.i k)), (3, (AV.v (Value.int IntKind.u8 ((y : Nat) : Int)))), (4, (AV.ptr 4 [])), (8, (AV.ptr 8 [])), (9, (AV.i (220 : Int))), (34, (AV.v (Value.bool true)))] [(4, (Blk.c (dkA ex ey d))), (8, (Blk.c (dkA ex ey d)))] [8, 4])))) ∧
 ((decide (k < (0 : Int))) = false →
 ((((0 : Int) ≤ c) ∧ (c < (((List.length (Dk.l d)) : Nat) : Int))) ∧
 (((decide (k ≥ (((List.length (Cl.b (clAt (Dk.l d) (Int.toNat c)))) : Nat) : Int))) = true →
 ((((true = true) ∧ (true = true)) ∧ (((true = true) ∧ (true = true)) ∧ True)) ∧
 (Φ Ex.ret (St.mk [(0, (dkA ex ey d)), (1, (AV.i c)), (2, (AV.i k)), (3, (AV.v (Value.int IntKind.u8 ((y : Nat) : Int)))), (4, (AV.ptr 4 [])), (8, (AV.ptr 8 [])), (9, (AV.i (220 : Int))), (34, (AV.v (Value.bool true)))] [(4, (Blk.c (dkA ex ey d))), (8, (Blk.c (dkA ex ey d)))] [8, 4])))) ∧
 ((decide (k ≥ (((List.length (Cl.b (clAt (Dk.l d) (Int.toNat c)))) : Nat) : Int))) = false →
 (Fun C P 66 [(csA ex (Dk.l d))] [] (AV.sl 0 [] 0 (List.length (Dk.l d)) (List.length (Dk.l d)) false 35) [(0, (Blk.c (AV.arr (List.length (Dk.l d)) 35 (fun (i : Nat) => (clA (clAt (Dk.l d) i))))))] ∧
 (∃ (S2 : St), Ent C 61 D K (St.mk [(0, (dkA ex ey d)), (1, (AV.i c)), (2, (AV.i k)), (3, (AV.v (Value.int IntKind.u8 ((y : Nat) : Int)))), (4, (AV.ptr 4 [])), (8, (AV.ptr 8 [])), (9, (AV.i (0 : Int))), (34, (AV.v (Value.bool false)))] [(4, (Blk.c (AV.st [(AV.sl 38 [] 0 (List.length (Dk.l d)) (List.length (Dk.l d)) false 35), (jsA ey (Dk.q d))]))), (8, (Blk.c (AV.st [(AV.dat 0 true 0 (fun (x : Nat) => (AV.v (Value.tuple #[])))), (AV.dat 0 true 0 (fun (x : Nat) => (AV.v (Value.tuple #[]))))]))), (38, (Blk.c (AV.arr (List.length (Dk.l d)) 35 (fun (i : Nat) => (clA (clAt (Dk.l d) i))))))] [38, 8, 4]) S2 ∧ Holds C P 61 D K Φ (cutAt C w_rot b_rot [1, 1, 1, 0] S2 (after C w_rot b_rot [1, 1, 1, 0] [] lf))))))))))))) := by kernel_rfl
theorem rot_C4 (d : Dk) (ey : Bool) (c k y : Nat) {D : Dom} (K : Nat) (Φ : Ex → St → Prop) :
 (Holds C P 61 D K Φ (cutAt C w_rot b_rot [1, 1, 1, 0] (S_ro4 d (jsA ey d.q) c k y) (after C w_rot b_rot [1, 1, 1, 0] [] lf))) =
 ((((0 : Int) ≤ ((c : Nat) : Int)) ∧ (((c : Nat) : Int) < (((List.length (Dk.l d)) : Nat) : Int))) ∧
 (Fun C P 62 [(AV.dat (List.length (Cl.b (clAt (Dk.l d) (0 + c)))) false 1 (rowL (Cl.b (clAt (Dk.l d) (0 + c)))))] [] (AV.sl 0 [] 0 (List.length (Cl.b (clAt (Dk.l d) (0 + c)))) (List.length (Cl.b (clAt (Dk.l d) (0 + c)))) false 1) [(0, (Blk.c (AV.arr (List.length (Cl.b (clAt (Dk.l d) (0 + c)))) 1 (rowL (Cl.b (clAt (Dk.l d) (0 + c)))))))] ∧
 ((((0 : Int) ≤ ((k : Nat) : Int)) ∧ (((k : Nat) : Int) < (((List.length (Cl.b (clAt (Dk.l d) (0 + c)))) : Nat) : Int))) ∧
 ((((0 : Int) ≤ ((k : Nat) : Int)) ∧ (((k : Nat) : Int) < (((List.length (Cl.b (clAt (Dk.l d) (0 + c)))) : Nat) : Int))) ∧
 (∃ (S2 : St), Ent C 61 D K (St.mk [(1, (AV.i ((c : Nat) : Int))), (2, (AV.i ((k : Nat) : Int))), (3, (AV.v (Value.int IntKind.u8 ((y : Nat) : Int)))), (4, (AV.ptr 4 [])), (8, (AV.ptr 8 [])), (10, (AV.sl 46 [] 0 (List.length (Cl.b (clAt (Dk.l d) (0 + c)))) (List.length (Cl.b (clAt (Dk.l d) (0 + c)))) false 1))] [(4, (Blk.c (AV.st [(AV.sl 38 [] 0 (List.length (Dk.l d)) (List.length (Dk.l d)) false 35), (jsA ey (Dk.q d))]))), (8, (Blk.c (AV.st [(AV.dat 0 true 0 (fun (x : Nat) => (AV.v (Value.tuple #[])))), (AV.dat 0 true 0 (fun (x : Nat) => (AV.v (Value.tuple #[]))))]))), (38, (Blk.c (AV.arr (List.length (Dk.l d)) 35 (rowC (Dk.l d))))), (46, (Blk.c (AV.arr (List.length (Cl.b (clAt (Dk.l d) (0 + c)))) 1 (fun (j : Nat) => (if (j = (0 + k)) then (AV.v (Value.int IntKind.u8 (bXor IntKind.u8 (((List.getD (Cl.b (clAt (Dk.l d) (0 + c))) (0 + k) 0) : Nat) : Int) ((y : Nat) : Int)))) else (AV.v (Value.int IntKind.u8 (((List.getD (Cl.b (clAt (Dk.l d) (0 + c))) j 0) : Nat) : Int))))))))] [46, 4, 8, 38]) S2 ∧ Holds C P 61 D K Φ (cutAt C w_rot b_rot [1, 1, 1, 1, 1, 0] S2 (after C w_rot b_rot [1, 1, 1, 1, 1, 0] [] lf))))))) := by kernel_rfl
theorem rot_C6 (d : Dk) (ey : Bool) (c : Nat) (b : List Nat) {D : Dom} (K : Nat) (Φ : Ex → St → Prop) :
 (Holds C P 61 D K Φ (cutAt C w_rot b_rot [1, 1, 1, 1, 1, 0] (S_ro6 d (jsA ey d.q) c b) (after C w_rot b_rot [1, 1, 1, 1, 1, 0] [] lf))) =
 ((((0 : Int) ≤ ((c : Nat) : Int)) ∧ (((c : Nat) : Int) < (((List.length (Dk.l d)) : Nat) : Int))) ∧
 ((((true = true) ∧ (true = true)) ∧ (((true = true) ∧ (true = true)) ∧ True)) ∧
 (Φ Ex.ret (St.mk [(1, (AV.i ((c : Nat) : Int))), (4, (AV.ptr 4 [])), (8, (AV.ptr 8 [])), (9, (AV.i (0 : Int))), (10, (AV.dat (List.length b) false 1 (rowL b)))] [(4, (Blk.c (AV.st [(AV.sl 38 [] 0 (List.length (Dk.l d)) (List.length (Dk.l d)) false 35), (jsA ey (Dk.q d))]))), (8, (Blk.c (AV.st [(AV.sl 38 [] 0 (List.length (Dk.l d)) (List.length (Dk.l d)) false 35), (jsA ey (Dk.q d))]))), (38, (Blk.c (AV.arr (List.length (Dk.l d)) 35 (fun (j : Nat) => (if (j = (0 + c)) then (AV.st [(AV.i (Cl.i (clAt (Dk.l d) (0 + c)))), (AV.i (Cl.s (clAt (Dk.l d) (0 + c)))), (AV.dat (List.length b) false 1 (rowL b)), (hA (Cl.h (clAt (Dk.l d) (0 + c))))]) else (clA (clAt (Dk.l d) j)))))))] [4, 8, 38])))) := by kernel_rfl
theorem rid_A (n : Nat) {D : Dom} (K : Nat) (Φ : Ex → St → Prop) :
 (Holds C P 8 D K Φ (vc C w_rid b_rid [] (start [u8 n] []) lf)) =
 (((5 : Int) ≠ (0 : Int)) ∧
 ((((0 : Int) ≤ (((n % 5) : Nat) : Int)) ∧ ((((n % 5) : Nat) : Int) < (5 : Int))) ∧
 (Φ Ex.ret (St.mk [(0, (AV.v (Value.int IntKind.u8 ((n : Nat) : Int)))), (2, (AV.i (nthD ((0 : Int) :: ((1 : Int) :: ((2 : Int) :: ((3 : Int) :: ((4095 : Int) :: []))))) (0 + (n % 5)) (0 : Int))))] [(3, (Blk.c (AV.arr 5 1 (fun (i : Nat) => (AV.i (nthD ((0 : Int) :: ((1 : Int) :: ((2 : Int) :: ((3 : Int) :: ((4095 : Int) :: []))))) i (0 : Int)))))))] [3])))) := by kernel_rfl
theorem lrot_A (ex ey : Bool) (d : Dk) (f : Nat → Int) (y : Nat) {D : Dom} (K : Nat) (Φ : Ex → St → Prop) :
 (Holds C P 22 D K Φ (vc C w_lrot b_lrot [] (start [dkA ex ey d, .arr 2 1 (fun i => .i (f i)), u8 y] []) lf)) =
 ((((0 : Int) ≤ (0 : Int)) ∧ ((0 : Int) < (2 : Int))) ∧
 ((((0 : Int) ≤ (1 : Int)) ∧ ((1 : Int) < (2 : Int))) ∧
 (Fun C P 43 [(dkA ex ey d), (AV.i (f 0)), (AV.i (f 1)), (AV.v (Value.int IntKind.u8 ((y : Nat) : Int)))] [] (AV.tup [(dkA false false (rotD (toDk (dkA ex ey d)) (f 0) (f 1) y)), (AV.i (rotE (toDk (dkA ex ey d)) (f 0) (f 1)))]) [] ∧
 ((((true = true) ∧ (true = true)) ∧ (((true = true) ∧ (true = true)) ∧ True)) ∧
 (((((true = true) ∧ (true = true)) ∧ (((true = true) ∧ (true = true)) ∧ True)) ∧ (((true = true) ∧ (true = true)) ∧ True)) ∧
 (Φ Ex.ret (St.mk [(0, (dkA ex ey d)), (1, (AV.arr 2 1 (fun (i : Nat) => (AV.i (f i))))), (2, (AV.v (Value.int IntKind.u8 ((y : Nat) : Int)))), (3, (AV.ptr 3 [])), (4, (AV.ptr 4 [])), (6, (AV.ptr 6 [])), (7, (AV.ptr 7 [])), (8, (AV.i (rotE (toDk (dkA ex ey d)) (f 0) (f 1))))] [(3, (Blk.c (dkA ex ey d))), (4, (Blk.c (AV.arr 2 1 (fun (i : Nat) => (AV.i (f i)))))), (6, (Blk.c (AV.st [(dkA false false (rotD (toDk (dkA ex ey d)) (f 0) (f 1) y)), (AV.i (rotE (toDk (dkA ex ey d)) (f 0) (f 1)))]))), (7, (Blk.c (dkA false false (rotD (toDk (dkA ex ey d)) (f 0) (f 1) y))))] [7, 6, 4, 3]))))))) := by kernel_rfl
theorem cloneO_fun (ex : Bool) (l : List Nat) (hn : l.length < 2 ^ 40) : Fun C P F_cloneB [.dat l.length ex 1 (rowL l)] [] (.sl 0 [] 0 l.length l.length false 1) [(0, .c (.arr l.length 1 (rowL l)))] := by
 by_cases h0 : l = []
 ·subst h0
  refine fun_zero fun q c => ?_
  refine in_cloneB (W := w_cloneB) rfl 0 (by simp) rfl (fun id h => absurd rfl h) fun D => ?_
  cases q with
  | none => exact of_eq (cloneB_AN c 0 _) (post_row_nil rfl)
  | some a => exact of_eq (cloneB_AS a c 0 _) ⟨(by first | omega | decide | (unfold I64; omega)), post_row rfl rfl rfl (Nat.le_refl _) (Nat.le_refl _) rfl fun i hi => absurd hi (Nat.not_lt_zero i)⟩
 ·have hp : 0 < l.length := List.length_pos_iff.2 h0
  refine in_cloneB (W := w_cloneB) rfl 0 (by simp) rfl (fun id h => absurd rfl h) fun D => ?_
  exact of_eq (cloneB_A ex l 0 _) ⟨hp, by omega, post_row rfl rfl (Nat.zero_add _) (Nat.le_refl _) (by omega) (Nat.zero_add _) fun i hi => by simp [cat]⟩
theorem xorB_int (x y : Nat) : ((xorB x y : Nat) : Int) = bXor .u8 (x : Int) (y : Int) := by
 unfold xorB
 have h0 : 0 ≤ bXor .u8 (x : Int) (y : Int) := by
  unfold bXor
  obtain ⟨z, hz⟩ : ∃ z : Int, z = ((BitVec.ofInt IntKind.u8.bits (x : Int) ^^^ BitVec.ofInt IntKind.u8.bits (y : Int)).toNat : Int) := ⟨_, rfl⟩
  rw [← hz]
  have h0 : 0 ≤ z := by omega
  obtain ⟨n, rfl⟩ := Int.eq_ofNat_of_zero_le h0
  rw [wrap_u8]; omega
 omega
theorem getD_set (b : List Nat) (k v j : Nat) (hj : j < b.length) : (b.set k v).getD j 0 = if j = k then v else b.getD j 0 := by
 rw [List.getD_eq_getElem?_getD, List.getD_eq_getElem?_getD, List.getElem?_set]
 by_cases h : j = k
 ·rw [if_pos h.symm, if_pos h, if_pos (by omega)]; rfl
 ·rw [if_neg (fun e => h e.symm), if_neg h]
theorem row_xor (b : List Nat) (k y j : Nat) (hj : j < b.length) : (if j = 0 + k then (AV.v (Value.int IntKind.u8 (bXor IntKind.u8 (((List.getD b (0 + k) 0) : Nat) : Int) ((y : Nat) : Int)))) else rowL b j) = rowL (b.set k (xorB (b.getD k 0) y)) j := by
 show _ = u8 ((b.set k (xorB (b.getD k 0) y)).getD j 0)
 rw [Nat.zero_add, getD_set _ _ _ _ hj]
 by_cases h : j = k
 ·rw [if_pos h, if_pos h, ← xorB_int]
 ·rw [if_neg h, if_neg h]; rfl
theorem clAt_set (l : List Cl) (c : Nat) (x : Cl) (i : Nat) (hi : i < l.length) : clAt (l.set c x) i = if i = c then x else clAt l i := by
 unfold clAt
 rw [List.getD_eq_getElem?_getD, List.getD_eq_getElem?_getD, List.getElem?_set]
 by_cases h : i = c
 ·rw [if_pos h.symm, if_pos h, if_pos (by omega)]; rfl
 ·rw [if_neg (fun e => h e.symm), if_neg h]
theorem rot_no {d : Dk} {c k : Int} (h : rotOK d c k = false) (y : Nat) : rotD d c k y = d ∧ rotE d c k = 220 := by
 unfold rotD rotE
 rw [h]; exact ⟨rfl, rfl⟩
theorem rot_fun (ex ey : Bool) (d : Dk) (c k : Int) (y : Nat) (hn : d.l.length < 2 ^ 36) (hb : ∀ e, e ∈ d.l → e.b.length < 2 ^ 40) : Fun C P F_rot [dkA ex ey d, .i c, .i k, u8 y] [] (.tup [dkA false false (rotD d c k y), .i (rotE d c k)]) [] := by
 refine in_rot (W := w_rot) rfl 0 (by simp) rfl (fun id h => absurd rfl h) fun D => ?_
 refine of_eq (rot_A ex ey d c k y 0 _) ?_
 have no : rotOK d c k = false → ∀ {S : St}, look S.tm 8 = some (.ptr 8 []) → look S.hp 8 = some (.c (dkA ex ey d)) → look S.tm 9 = some (.i 220) → FunPost C 61 0 [.cell 8 27, .tmp 9] (.tup [dkA false false (rotD d c k y), .i (rotE d c k)]) [] .ret S := fun h S g1 g2 g3 => by
  rw [(rot_no h y).1, (rot_no h y).2]
  exact post_cell_tmp g1 g2 (sm_dk ex ey d) rfl g3 (sm_int rfl) rfl rfl
 refine ⟨fun h1 => ⟨TD2, no ?_ rfl rfl rfl⟩, fun h1 => ⟨fun h2 => ⟨TD2, no ?_ rfl rfl rfl⟩, fun h2 => ⟨fun h3 => ⟨TD2, no ?_ rfl rfl rfl⟩, fun h3 => ?_⟩⟩⟩
 ·simp only [decide_eq_true_eq] at h1
  unfold rotOK; simp; omega
 ·simp only [ge_iff_le, decide_eq_true_eq] at h2
  unfold rotOK; simp; omega
 ·simp only [decide_eq_true_eq] at h3
  unfold rotOK; simp; omega
 simp only [ge_iff_le, decide_eq_false_iff_not] at h1 h2 h3
 refine ⟨(by first | omega | decide | (unfold I64; omega)), fun h4 => ⟨TD2, no ?_ rfl rfl rfl⟩, fun h4 => ?_⟩
 ·simp only [ge_iff_le, decide_eq_true_eq] at h4
  unfold rotOK; simp; intro _ _ _
  exact h4
 simp only [ge_iff_le, decide_eq_false_iff_not] at h4
 obtain ⟨cn, rfl⟩ := Int.eq_ofNat_of_zero_le (show 0 ≤ c by omega)
 obtain ⟨kn, rfl⟩ := Int.eq_ofNat_of_zero_le (show 0 ≤ k by omega)
 rw [Int.toNat_natCast] at h4
 have hok : rotOK d (cn : Int) (kn : Int) = true := by
  unfold rotOK; simp
  exact ⟨by omega, by have h4 : ¬ (((clAt d.l cn).b.length : Nat) : Int) ≤ (kn : Int) := h4; show kn < (clAt d.l cn).b.length; omega⟩
 have hc : cn < d.l.length := by omega
 have hk : kn < (clAt d.l cn).b.length := by omega
 have hm : clAt d.l cn ∈ d.l := by rw [clAt_lt hc]; exact List.getElem_mem hc
 have hbl := hb _ hm
 have eD : rotD d (cn : Int) (kn : Int) y = ⟨d.l.set cn (setB (clAt d.l cn) kn y), d.q⟩ := by unfold rotD; rw [if_pos hok]; rfl
 have eE : rotE d (cn : Int) (kn : Int) = 0 := by unfold rotE; rw [if_pos hok]
 rw [eD, eE]
 refine ⟨cloneC_fun ex d.l (by omega), cut_ok (S2 := S_ro4 d (jsA ey d.q) cn kn y) (ent_of [(4, 4), (8, 8), (38, 38)] rfl (tm_cons rfl (sm_same rfl) (tm_cons rfl (sm_same rfl) (tm_cons rfl (sm_same rfl) (tm_cons rfl (sm_ptr rfl) (tm_cons rfl (sm_ptr rfl) tm_nil))))) (hp_cons rfl rfl (sm_st (sms_cons (sm_sl rfl rfl (Nat.le_refl _) (Nat.le_refl _) (by simp)) (sms_cons (sm_same rfl) sms_nil))) (hp_cons rfl rfl (sm_same rfl) (hp_cons rfl rfl (sm_same rfl) hp_nil)))) ?_⟩
 refine of_eq (rot_C4 d ey cn kn y 0 _) ?_
 have z : ∀ i : Nat, 0 + i = i := Nat.zero_add
 refine ⟨(by first | omega | decide | (unfold I64; omega)), by rw [Nat.zero_add]; exact cloneO_fun false _ (by omega), by rw [Nat.zero_add]; omega, by rw [Nat.zero_add]; omega, cut_ok (S2 := S_ro6 d (jsA ey d.q) cn ((clAt d.l cn).b.set kn (xorB ((clAt d.l cn).b.getD kn 0) y))) ((ent_freeze _ [46]).trans (ent_of [(4, 4), (8, 8), (38, 38)] rfl (tm_cons rfl (sm_same rfl) (tm_cons rfl (sm_ptr rfl) (tm_cons rfl (sm_ptr rfl) (tm_cons rfl (sm_dat' (by rw [List.length_set, Nat.zero_add]) (by simp) fun i hi => ?_) tm_nil)))) (hp_cons rfl rfl (sm_st (sms_cons (sm_sl rfl rfl (Nat.le_refl _) (Nat.le_refl _) (by simp)) (sms_cons (sm_same rfl) sms_nil))) (hp_cons rfl rfl (sm_same rfl) (hp_cons rfl rfl (sm_same rfl) hp_nil))))) ?_⟩
 ·rw [Nat.zero_add cn] at hi ⊢
  have := row_xor (clAt d.l cn).b kn y (0 + i) (by omega)
  rw [Nat.zero_add i] at this ⊢
  exact this
 refine of_eq (rot_C6 d ey cn _ 0 _) ⟨(by first | omega | decide | (unfold I64; omega)), TD2, post_frz [38] (post_cell_tmp rfl rfl (sm_st (sms_cons (sm_dat' (by simp) (by simp) fun i hi => ?_) (sms_cons (sm_dat (by simp) fun i _ => rfl) sms_nil))) rfl rfl (sm_int rfl) rfl rfl)⟩
 rw [Nat.zero_add cn]
 show (if 0 + i = cn then _ else clA (clAt d.l (0 + i))) = clA (clAt (d.l.set cn _) i)
 rw [Nat.zero_add i, clAt_set _ _ _ _ hi]
 by_cases h : i = cn
 ·rw [if_pos h, if_pos h]; rfl
 ·rw [if_neg h, if_neg h]
theorem rid_fun (n : Nat) (hn : n < 256) : Fun C P F_rid [u8 n] [] (.i (idN n)) [] := by
 refine in_rid (W := w_rid) rfl 0 (by simp) rfl (fun id h => absurd rfl h) fun D => ?_
 refine of_eq (rid_A n 0 _) ⟨by decide, (by first | omega | decide | (unfold I64; omega)), post_tmp rfl (sm_int ?_)⟩
 have h5 : n % 5 < 5 := Nat.mod_lt _ (by decide)
 unfold idN
 rw [Nat.zero_add]
 generalize n % 5 = m at h5
 match m, h5 with
 | 0, _ => rfl
 | 1, _ => rfl
 | 2, _ => rfl
 | 3, _ => rfl
 | 4, _ => rfl
theorem lrot_fun (ex ey : Bool) (d : Dk) (f : Nat → Int) (y : Nat) (hn : d.l.length < 2 ^ 36) (hb : ∀ e, e ∈ d.l → e.b.length < 2 ^ 40) : Fun C P F_lrot [dkA ex ey d, .arr 2 1 (fun i => .i (f i)), u8 y] [] (.st [dkA false false (rotD d (f 0) (f 1) y), .i (rotE d (f 0) (f 1))]) [] := by
 refine in_lrot (W := w_lrot) rfl 0 (by simp) rfl (fun id h => absurd rfl h) fun D => ?_
 refine of_eq (lrot_A ex ey d f y 0 _) ?_
 rw [toDk_A]
 exact ⟨(by first | omega | decide | (unfold I64; omega)), (by first | omega | decide | (unfold I64; omega)), rot_fun ex ey d _ _ y hn hb, TD2, ⟨TD2, ⟨rfl, rfl⟩, trivial⟩, post_cell rfl rfl (sm_same rfl) rfl⟩
end Go.Bu.W

