/- Cells taken out. -/
import Derived.Test.YtoaefniopgmoaaaDoorK19
import Derived.Test.YtoaefniopgmoaaaDoorK13
namespace Go.Bu.W
open Sp
def rowCls (n : Nat) (f : Nat → AV) : List Cl := (List.range n).map fun i => toCl (f i)
def delL (p : Cl → Bool) (l : List Cl) : List Cl := l.filter fun c => !p c
def delR (l : List Cl) : Option (AV × List (Nat × Blk)) := some (slC 2 l, [(2, .c (arC l))])
def crDel : List AV → List (Nat × Blk) → Option (AV × List (Nat × Blk))
 | [.sl 0 [] 0 n _ _ _, .fn _ [.ptr 1 []]], [(0, .c (.arr _ _ f)), (1, .c j)] => delR (delL (hitP (toJb j)) (rowCls n f))
 | [.sl 0 [] 0 n _ _ _, .fn _ []], [(0, .c (.arr _ _ f))] => delR (delL whC (rowCls n f))
 | _, _ => none
def crT1 (g : Nat) (args : List AV) (H : List (Nat × Blk)) : Option (AV × List (Nat × Blk)) :=
 sel (Nat.beq g F_delf) (crDel args H) <| crS9 g args H
def wayT (keep : List Nat) (nt : Nat) (cuts : List Nat) : Way := ⟨crS3, fun _ => false, keep, [], nt, cuts, []⟩
def w_delf : Way := wayT [0, 1, 4, 5, 6, 7, 12, 19, 29] 42 []
def w_delW : Way := wayT [0, 1, 4, 5, 6, 7, 12, 19, 29] 42 []
def I_dl (n : Nat) (j : Jb) (s : Nat × Nat × (Nat → Cl)) : St := { tm := [(0, .sl 0 [] 0 n n false 35), (1, .fn (.func 67) [.ptr 1 []]), (5, .i s.2.1), (6, .i s.1)], hp := [(0, .c (.arr n 35 (fun k => clA (s.2.2 k)))), (1, .c (jbA j))], seen := [0, 1] }
def I_dW (n : Nat) (s : Nat × Nat × (Nat → Cl)) : St := { tm := [(0, .sl 0 [] 0 n n false 35), (1, .fn (.func 51) []), (5, .i s.2.1), (6, .i s.1)], hp := [(0, .c (.arr n 35 (fun k => clA (s.2.2 k))))], seen := [0] }
def Q_dl (p : Cl → Bool) (l : List Cl) (s : Nat × Nat × (Nat → Cl)) : Prop := s.1 ≤ l.length ∧ s.2.1 ≤ s.1 ∧ s.2.1 = (delL p (l.take s.1)).length ∧ (∀ k, k < s.2.1 → s.2.2 k = clAt (delL p (l.take s.1)) k) ∧ ∀ k, s.1 ≤ k → s.2.2 k = clAt l k
theorem delf_A (l : List Cl) (j : Jb) {D : Dom} (K : Nat) (Φ : Ex → St → Prop) :
 (Holds C P 42 D K Φ (vc C w_delf b_delf [] (start [slC 0 l, .fn (.func 67) [.ptr 1 []]] [(0, .c (arC l)), (1, .c (jbA j))]) lf)) =
 (Fun C P 73 [(AV.dat (List.length l) false 35 (fun (i : Nat) => (clA (clAt l (0 + i))))), (AV.fn (Fn.func (67 : FuncId)) [(AV.pd (jbA j))])] [] (AV.i (idxL (hitP (toJb (jbA j))) (toCls (AV.dat (List.length l) false 35 (fun (i : Nat) => (clA (clAt l (0 + i)))))))) [] ∧
 (True ∧
 ((((idxL (hitP (toJb (jbA j))) (toCls (AV.dat (List.length l) false 35 (fun (i : Nat) => (clA (clAt l (0 + i))))))) == (-1 : Int)) = true →
 (Φ Ex.ret (St.mk [(0, (AV.sl 0 [] 0 (List.length l) (List.length l) false 35)), (1, (AV.fn (Fn.func (67 : FuncId)) [(AV.ptr 1 [])])), (4, (AV.sl 0 [] 0 (List.length l) (List.length l) false 35)), (5, (AV.i (idxL (hitP (toJb (jbA j))) (toCls (AV.dat (List.length l) false 35 (fun (i : Nat) => (clA (clAt l (0 + i))))))))), (12, (AV.v (Value.bool true)))] [(0, (Blk.c (AV.arr (List.length l) 35 (rowC l)))), (1, (Blk.c (jbA j)))] [0, 1]))) ∧
 (((idxL (hitP (toJb (jbA j))) (toCls (AV.dat (List.length l) false 35 (fun (i : Nat) => (clA (clAt l (0 + i))))))) == (-1 : Int)) = false →
 ((I64 ((idxL (hitP (toJb (jbA j))) (toCls (AV.dat (List.length l) false 35 (fun (i : Nat) => (clA (clAt l (0 + i))))))) + (1 : Int))) ∧
 (LoopOK C P 42 D K (bodyAt b_delf [1, 1, 1, 0, 1, 0]) (St.mk [(0, (AV.sl 0 [] 0 (List.length l) (List.length l) false 35)), (1, (AV.fn (Fn.func (67 : FuncId)) [(AV.ptr 1 [])])), (4, (AV.dat 0 true 0 (fun (x : Nat) => (AV.v (Value.tuple #[]))))), (5, (AV.i (idxL (hitP (toJb (jbA j))) (toCls (AV.dat (List.length l) false 35 (fun (i : Nat) => (clA (clAt l (0 + i))))))))), (6, (AV.i ((idxL (hitP (toJb (jbA j))) (toCls (AV.dat (List.length l) false 35 (fun (i : Nat) => (clA (clAt l (0 + i))))))) + (1 : Int)))), (12, (AV.v (Value.bool false)))] [(0, (Blk.c (AV.arr (List.length l) 35 (rowC l)))), (1, (Blk.c (jbA j)))] [0, 1]) (fun (e : Ex) (S' : St) => Holds C P 42 D K Φ (after C w_delf b_delf [1, 1, 1, 0, 1, 0] [] lf e S')))))))) := by kernel_rfl
noncomputable abbrev bd_delf_0 : Code := bodyAt (b_delf) [1, 1, 1, 0, 1, 0]
theorem ok_delf_0 : codeOK bd_delf_0 = true := by kernel_rfl
noncomputable abbrev rest_delf_0 (D : Dom) (K : Nat) (Φ : Ex → St → Prop) : Ex → St → Prop := fun e S' => Holds C P 42 D K Φ (after C w_delf (b_delf) [1, 1, 1, 0, 1, 0] [] lf e S')
theorem delf_L0 (l : List Cl) (n : Nat) (j : Jb) (s : Nat × Nat × (Nat → Cl)) {D : Dom} (K : Nat) (Φ : Ex → St → Prop) :
 (Holds C P 42 D K (RoundQ C 42 D K (I_dl n j) (Q_dl (hitP j) l) (fun s => n - s.1) ((fun s => n - s.1) (s)) (rest_delf_0 D K Φ)) (vc C w_delf bd_delf_0 [] ((I_dl n j) (s)) lf)) =
 (((decide ((((Prod.fst s) : Nat) : Int) < ((n : Nat) : Int))) = true →
 ((((0 : Int) ≤ (((Prod.fst s) : Nat) : Int)) ∧ ((((Prod.fst s) : Nat) : Int) < ((n : Nat) : Int))) ∧
 ((((true = true) ∧ (true = true)) ∧ (((true = true) ∧ (true = true)) ∧ (((true = true) ∧ (true = true)) ∧ (((32 = 32) ∧ ((1 = 1) ∧ (∀ (i : Nat), ((i < 32) → ((true = true) ∧ (true = true)))))) ∧ True)))) ∧
 (Fun C P (67 : FuncId) [(clA (Prod.snd (Prod.snd s) (0 + (Prod.fst s)))), (AV.pd (jbA j))] [] (AV.sb (hitP (toJb (jbA j)) (toCl (clA (Prod.snd (Prod.snd s) (0 + (Prod.fst s))))))) [] ∧
 (True ∧
 (((! (hitP (toJb (jbA j)) (toCl (clA (Prod.snd (Prod.snd s) (0 + (Prod.fst s))))))) = true →
 ((((0 : Int) ≤ (((Prod.fst (Prod.snd s)) : Nat) : Int)) ∧ ((((Prod.fst (Prod.snd s)) : Nat) : Int) < ((n : Nat) : Int))) ∧
 ((((true = true) ∧ (true = true)) ∧ (((true = true) ∧ (true = true)) ∧ (((true = true) ∧ (true = true)) ∧ (((32 = 32) ∧ ((1 = 1) ∧ (∀ (i : Nat), ((i < 32) → ((true = true) ∧ (true = true)))))) ∧ True)))) ∧
 ((I64 ((((Prod.fst (Prod.snd s)) + 1) : Nat) : Int)) ∧
 ((I64 ((((Prod.fst s) + 1) : Nat) : Int)) ∧
 ((RoundQ C 42 D K (I_dl n j) (Q_dl (hitP j) l) (fun s => n - s.1) ((fun s => n - s.1) (s)) (rest_delf_0 D K Φ)) Ex.normal (St.mk [(0, (AV.sl 0 [] 0 n n false 35)), (1, (AV.fn (Fn.func (67 : FuncId)) [(AV.ptr 1 [])])), (5, (AV.i ((((Prod.fst (Prod.snd s)) + 1) : Nat) : Int))), (6, (AV.i ((((Prod.fst s) + 1) : Nat) : Int))), (7, (AV.ptr 7 [])), (19, (AV.v (Value.bool true))), (29, (AV.v (Value.bool true)))] [(0, (Blk.c (AV.arr n 35 (fun (j1 : Nat) => (if (j1 = (0 + (Prod.fst (Prod.snd s)))) then (clA (Prod.snd (Prod.snd s) (0 + (Prod.fst s)))) else (clA (Prod.snd (Prod.snd s) j1))))))), (1, (Blk.c (jbA j))), (7, (Blk.c (clA (Prod.snd (Prod.snd s) (0 + (Prod.fst s))))))] [7, 0, 1]))))))) ∧
 ((! (hitP (toJb (jbA j)) (toCl (clA (Prod.snd (Prod.snd s) (0 + (Prod.fst s))))))) = false →
 ((I64 ((((Prod.fst s) + 1) : Nat) : Int)) ∧
 ((RoundQ C 42 D K (I_dl n j) (Q_dl (hitP j) l) (fun s => n - s.1) ((fun s => n - s.1) (s)) (rest_delf_0 D K Φ)) Ex.normal (St.mk [(0, (AV.sl 0 [] 0 n n false 35)), (1, (AV.fn (Fn.func (67 : FuncId)) [(AV.ptr 1 [])])), (5, (AV.i (((Prod.fst (Prod.snd s)) : Nat) : Int))), (6, (AV.i ((((Prod.fst s) + 1) : Nat) : Int))), (7, (AV.ptr 7 [])), (19, (AV.v (Value.bool true))), (29, (AV.v (Value.bool false)))] [(0, (Blk.c (AV.arr n 35 (fun (k : Nat) => (clA (Prod.snd (Prod.snd s) k)))))), (1, (Blk.c (jbA j))), (7, (Blk.c (clA (Prod.snd (Prod.snd s) (0 + (Prod.fst s))))))] [7, 0, 1])))))))))) ∧
 ((decide ((((Prod.fst s) : Nat) : Int) < ((n : Nat) : Int))) = false →
 ((((0 : Int) ≤ (((Prod.fst (Prod.snd s)) : Nat) : Int)) ∧ (((((Prod.fst (Prod.snd s)) : Nat) : Int) ≤ ((n : Nat) : Int)) ∧ (((n : Nat) : Int) ≤ ((n : Nat) : Int)))) ∧
 ((∀ (i : Nat), ((i < (Min.min (n - (Prod.fst (Prod.snd s))) (n - (Prod.fst (Prod.snd s))))) → (((true = true) ∧ (true = true)) ∧ (((true = true) ∧ (true = true)) ∧ (((true = true) ∧ (true = true)) ∧ (((32 = 32) ∧ ((1 = 1) ∧ (∀ (i1 : Nat), ((i1 < 32) → ((true = true) ∧ (true = true)))))) ∧ True)))))) ∧
 ((((0 : Int) ≤ (0 : Int)) ∧ (((0 : Int) ≤ (((Prod.fst (Prod.snd s)) : Nat) : Int)) ∧ ((((Prod.fst (Prod.snd s)) : Nat) : Int) ≤ ((n : Nat) : Int)))) ∧
 (Φ Ex.ret (St.mk [(0, (AV.sl 0 [] 0 n n false 35)), (1, (AV.fn (Fn.func (67 : FuncId)) [(AV.ptr 1 [])])), (4, (AV.sl 0 [] 0 (Prod.fst (Prod.snd s)) n false 35)), (5, (AV.i (((Prod.fst (Prod.snd s)) : Nat) : Int))), (6, (AV.i (((Prod.fst s) : Nat) : Int))), (19, (AV.v (Value.bool false)))] [(0, (Blk.c (AV.arr n 35 (lay (0 + (Prod.fst (Prod.snd s))) (Min.min (n - (Prod.fst (Prod.snd s))) (n - (Prod.fst (Prod.snd s)))) (fun (k : Nat) => (clA (Prod.snd (Prod.snd s) k))) (fun (x : Nat) => (AV.st [(AV.i (0 : Int)), (AV.i (0 : Int)), (AV.dat 0 true 0 (fun (x1 : Nat) => (AV.v (Value.tuple #[])))), (AV.arr 32 1 (fun (x1 : Nat) => (AV.v (Value.int IntKind.u8 (0 : Int)))))])))))), (1, (Blk.c (jbA j)))] [0, 1]))))))) := by kernel_rfl
theorem delW_A (l : List Cl) {D : Dom} (K : Nat) (Φ : Ex → St → Prop) :
 (Holds C P 42 D K Φ (vc C w_delW b_delW [] (start [slC 0 l, .fn (.func 51) []] [(0, .c (arC l))]) lf)) =
 (Fun C P 73 [(AV.dat (List.length l) false 35 (fun (i : Nat) => (clA (clAt l (0 + i))))), (AV.fn (Fn.func (51 : FuncId)) [])] [] (AV.i (idxL whC (toCls (AV.dat (List.length l) false 35 (fun (i : Nat) => (clA (clAt l (0 + i)))))))) [] ∧
 (True ∧
 ((((idxL whC (toCls (AV.dat (List.length l) false 35 (fun (i : Nat) => (clA (clAt l (0 + i))))))) == (-1 : Int)) = true →
 (Φ Ex.ret (St.mk [(0, (AV.sl 0 [] 0 (List.length l) (List.length l) false 35)), (1, (AV.fn (Fn.func (51 : FuncId)) [])), (4, (AV.sl 0 [] 0 (List.length l) (List.length l) false 35)), (5, (AV.i (idxL whC (toCls (AV.dat (List.length l) false 35 (fun (i : Nat) => (clA (clAt l (0 + i))))))))), (12, (AV.v (Value.bool true)))] [(0, (Blk.c (AV.arr (List.length l) 35 (rowC l))))] [0]))) ∧
 (((idxL whC (toCls (AV.dat (List.length l) false 35 (fun (i : Nat) => (clA (clAt l (0 + i))))))) == (-1 : Int)) = false →
 ((I64 ((idxL whC (toCls (AV.dat (List.length l) false 35 (fun (i : Nat) => (clA (clAt l (0 + i))))))) + (1 : Int))) ∧
 (LoopOK C P 42 D K (bodyAt b_delW [1, 1, 1, 0, 1, 0]) (St.mk [(0, (AV.sl 0 [] 0 (List.length l) (List.length l) false 35)), (1, (AV.fn (Fn.func (51 : FuncId)) [])), (4, (AV.dat 0 true 0 (fun (x : Nat) => (AV.v (Value.tuple #[]))))), (5, (AV.i (idxL whC (toCls (AV.dat (List.length l) false 35 (fun (i : Nat) => (clA (clAt l (0 + i))))))))), (6, (AV.i ((idxL whC (toCls (AV.dat (List.length l) false 35 (fun (i : Nat) => (clA (clAt l (0 + i))))))) + (1 : Int)))), (12, (AV.v (Value.bool false)))] [(0, (Blk.c (AV.arr (List.length l) 35 (rowC l))))] [0]) (fun (e : Ex) (S' : St) => Holds C P 42 D K Φ (after C w_delW b_delW [1, 1, 1, 0, 1, 0] [] lf e S')))))))) := by kernel_rfl
noncomputable abbrev bd_delW_0 : Code := bodyAt (b_delW) [1, 1, 1, 0, 1, 0]
theorem ok_delW_0 : codeOK bd_delW_0 = true := by kernel_rfl
noncomputable abbrev rest_delW_0 (D : Dom) (K : Nat) (Φ : Ex → St → Prop) : Ex → St → Prop := fun e S' => Holds C P 42 D K Φ (after C w_delW (b_delW) [1, 1, 1, 0, 1, 0] [] lf e S')
theorem delW_L0 (l : List Cl) (n : Nat) (s : Nat × Nat × (Nat → Cl)) {D : Dom} (K : Nat) (Φ : Ex → St → Prop) :
 (Holds C P 42 D K (RoundQ C 42 D K (I_dW n) (Q_dl whC l) (fun s => n - s.1) ((fun s => n - s.1) (s)) (rest_delW_0 D K Φ)) (vc C w_delW bd_delW_0 [] ((I_dW n) (s)) lf)) =
 (((decide ((((Prod.fst s) : Nat) : Int) < ((n : Nat) : Int))) = true →
 ((((0 : Int) ≤ (((Prod.fst s) : Nat) : Int)) ∧ ((((Prod.fst s) : Nat) : Int) < ((n : Nat) : Int))) ∧
 ((((true = true) ∧ (true = true)) ∧ (((true = true) ∧ (true = true)) ∧ (((true = true) ∧ (true = true)) ∧ (((32 = 32) ∧ ((1 = 1) ∧ (∀ (i : Nat), ((i < 32) → ((true = true) ∧ (true = true)))))) ∧ True)))) ∧
 (Fun C P (51 : FuncId) [(clA (Prod.snd (Prod.snd s) (0 + (Prod.fst s))))] [] (AV.sb (whC (toCl (clA (Prod.snd (Prod.snd s) (0 + (Prod.fst s))))))) [] ∧
 (True ∧
 (((! (whC (toCl (clA (Prod.snd (Prod.snd s) (0 + (Prod.fst s))))))) = true →
 ((((0 : Int) ≤ (((Prod.fst (Prod.snd s)) : Nat) : Int)) ∧ ((((Prod.fst (Prod.snd s)) : Nat) : Int) < ((n : Nat) : Int))) ∧
 ((((true = true) ∧ (true = true)) ∧ (((true = true) ∧ (true = true)) ∧ (((true = true) ∧ (true = true)) ∧ (((32 = 32) ∧ ((1 = 1) ∧ (∀ (i : Nat), ((i < 32) → ((true = true) ∧ (true = true)))))) ∧ True)))) ∧
 ((I64 ((((Prod.fst (Prod.snd s)) + 1) : Nat) : Int)) ∧
 ((I64 ((((Prod.fst s) + 1) : Nat) : Int)) ∧
 ((RoundQ C 42 D K (I_dW n) (Q_dl whC l) (fun s => n - s.1) ((fun s => n - s.1) (s)) (rest_delW_0 D K Φ)) Ex.normal (St.mk [(0, (AV.sl 0 [] 0 n n false 35)), (1, (AV.fn (Fn.func (51 : FuncId)) [])), (5, (AV.i ((((Prod.fst (Prod.snd s)) + 1) : Nat) : Int))), (6, (AV.i ((((Prod.fst s) + 1) : Nat) : Int))), (7, (AV.ptr 7 [])), (19, (AV.v (Value.bool true))), (29, (AV.v (Value.bool true)))] [(0, (Blk.c (AV.arr n 35 (fun (j : Nat) => (if (j = (0 + (Prod.fst (Prod.snd s)))) then (clA (Prod.snd (Prod.snd s) (0 + (Prod.fst s)))) else (clA (Prod.snd (Prod.snd s) j))))))), (7, (Blk.c (clA (Prod.snd (Prod.snd s) (0 + (Prod.fst s))))))] [7, 0]))))))) ∧
 ((! (whC (toCl (clA (Prod.snd (Prod.snd s) (0 + (Prod.fst s))))))) = false →
 ((I64 ((((Prod.fst s) + 1) : Nat) : Int)) ∧
 ((RoundQ C 42 D K (I_dW n) (Q_dl whC l) (fun s => n - s.1) ((fun s => n - s.1) (s)) (rest_delW_0 D K Φ)) Ex.normal (St.mk [(0, (AV.sl 0 [] 0 n n false 35)), (1, (AV.fn (Fn.func (51 : FuncId)) [])), (5, (AV.i (((Prod.fst (Prod.snd s)) : Nat) : Int))), (6, (AV.i ((((Prod.fst s) + 1) : Nat) : Int))), (7, (AV.ptr 7 [])), (19, (AV.v (Value.bool true))), (29, (AV.v (Value.bool false)))] [(0, (Blk.c (AV.arr n 35 (fun (k : Nat) => (clA (Prod.snd (Prod.snd s) k)))))), (7, (Blk.c (clA (Prod.snd (Prod.snd s) (0 + (Prod.fst s))))))] [7, 0])))))))))) ∧
 ((decide ((((Prod.fst s) : Nat) : Int) < ((n : Nat) : Int))) = false →
 ((((0 : Int) ≤ (((Prod.fst (Prod.snd s)) : Nat) : Int)) ∧ (((((Prod.fst (Prod.snd s)) : Nat) : Int) ≤ ((n : Nat) : Int)) ∧ (((n : Nat) : Int) ≤ ((n : Nat) : Int)))) ∧
 ((∀ (i : Nat), ((i < (Min.min (n - (Prod.fst (Prod.snd s))) (n - (Prod.fst (Prod.snd s))))) → (((true = true) ∧ (true = true)) ∧ (((true = true) ∧ (true = true)) ∧ (((true = true) ∧ (true = true)) ∧ (((32 = 32) ∧ ((1 = 1) ∧ (∀ (i1 : Nat), ((i1 < 32) → ((true = true) ∧ (true = true)))))) ∧ True)))))) ∧
 ((((0 : Int) ≤ (0 : Int)) ∧ (((0 : Int) ≤ (((Prod.fst (Prod.snd s)) : Nat) : Int)) ∧ ((((Prod.fst (Prod.snd s)) : Nat) : Int) ≤ ((n : Nat) : Int)))) ∧
 (Φ Ex.ret (St.mk [(0, (AV.sl 0 [] 0 n n false 35)), (1, (AV.fn (Fn.func (51 : FuncId)) [])), (4, (AV.sl 0 [] 0 (Prod.fst (Prod.snd s)) n false 35)), (5, (AV.i (((Prod.fst (Prod.snd s)) : Nat) : Int))), (6, (AV.i (((Prod.fst s) : Nat) : Int))), (19, (AV.v (Value.bool false)))] [(0, (Blk.c (AV.arr n 35 (lay (0 + (Prod.fst (Prod.snd s))) (Min.min (n - (Prod.fst (Prod.snd s))) (n - (Prod.fst (Prod.snd s)))) (fun (k : Nat) => (clA (Prod.snd (Prod.snd s) k))) (fun (x : Nat) => (AV.st [(AV.i (0 : Int)), (AV.i (0 : Int)), (AV.dat 0 true 0 (fun (x1 : Nat) => (AV.v (Value.tuple #[])))), (AV.arr 32 1 (fun (x1 : Nat) => (AV.v (Value.int IntKind.u8 (0 : Int)))))]))))))] [0]))))))) := by kernel_rfl
theorem row0 (l : List Cl) : (AV.dat (List.length l) false 35 (fun (i : Nat) => (clA (clAt l (0 + i))))) = csA false l := by
 have : (fun (i : Nat) => (clA (clAt l (0 + i)))) = fun i => clA (clAt l i) := by funext i; rw [Nat.zero_add]
 rw [this]
theorem idxL_spec (p : Cl → Bool) (l : List Cl) : (idxL p l = -1 ∧ ∀ k, k < l.length → p (clAt l k) = false) ∨ ∃ k : Nat, idxL p l = (k : Int) ∧ k < l.length ∧ (∀ m, m < k → p (clAt l m) = false) ∧ p (clAt l k) = true := by
 by_cases h : ∀ k, k < l.length → p (clAt l k) = false
 ·exact .inl ⟨idxL_no h, h⟩
 ·obtain ⟨t1, t2, t3⟩ := tw_spec (fun c => !p c) cl0 l
  have hlt : (l.takeWhile fun c => !p c).length < l.length := by
   rcases Nat.lt_or_ge (l.takeWhile fun c => !p c).length l.length with h1 | h1
   ·exact h1
   ·exact absurd (fun k hk => bnt (t2 k (by omega))) h
  refine .inr ⟨_, idxL_hit hlt (fun k hk => bnt (t2 k hk)) (bnf (t3 hlt)), hlt, fun k hk => bnt (t2 k hk), bnf (t3 hlt)⟩
theorem del_succ {p : Cl → Bool} {l : List Cl} {j : Nat} (hj : j < l.length) : delL p (l.take (j + 1)) = delL p (l.take j) ++ if p (clAt l j) = true then [] else [clAt l j] := by
 have ht : l.take (j + 1) = l.take j ++ [clAt l j] := by rw [List.take_succ_eq_append_getElem hj, clAt_lt hj]
 unfold delL
 rw [ht, List.filter_append, List.filter_cons]
 by_cases h : p (clAt l j) = true
 ·rw [if_pos h, h]; rfl
 ·rw [if_neg h]; simp [h]
theorem ql_0 {p : Cl → Bool} {l : List Cl} {k : Nat} (h2 : k < l.length) (h3 : ∀ m, m < k → p (clAt l m) = false) (h4 : p (clAt l k) = true) : Q_dl p l (k + 1, k, clAt l) := by
 have e0 : delL p (l.take k) = l.take k := filter_all fun c hc => by
  obtain ⟨m, hm, rfl⟩ := List.getElem_of_mem hc
  rw [List.length_take] at hm
  have := h3 m (by omega)
  rw [clAt_lt (by omega)] at this
  rw [List.getElem_take, this]; rfl
 have e : delL p (l.take (k + 1)) = l.take k := by rw [del_succ h2, if_pos h4, e0, List.append_nil]
 refine ⟨h2, Nat.le_succ _, ?_, fun m hm => ?_, fun m _ => rfl⟩
 ·show k = (delL p (l.take (k + 1))).length
  rw [e, List.length_take]; omega
 ·show clAt l m = clAt (delL p (l.take (k + 1))) m
  have hm : m < k := hm
  rw [e, clAt_lt (by omega), clAt_lt (by rw [List.length_take]; omega), List.getElem_take]
theorem clAt_app (l m : List Cl) (k : Nat) : clAt (l ++ m) k = if k < l.length then clAt l k else clAt m (k - l.length) := by
 unfold clAt
 rw [List.getD_eq_getElem?_getD]
 split
 ·rename_i h; rw [List.getElem?_append_left h, List.getD_eq_getElem?_getD]
 ·rename_i h; rw [List.getElem?_append_right (by omega), List.getD_eq_getElem?_getD]
theorem ql_keep {p : Cl → Bool} {l : List Cl} {j i : Nat} {f : Nat → Cl} (h : Q_dl p l (j, i, f)) (hj : j < l.length) (hp : p (f j) = false) : Q_dl p l (j + 1, i + 1, fun m => if m = i then f j else f m) := by
 obtain ⟨h1, h2, h3, h4, h5⟩ := h
 dsimp only at h1 h2 h3 h4 h5
 have e := del_succ (p := p) hj
 have hfj := h5 j (Nat.le_refl _)
 rw [if_neg (by rw [← hfj, hp]; simp)] at e
 refine ⟨hj, by dsimp only; omega, ?_, fun m hm => ?_, fun m hm => ?_⟩
 ·dsimp only; rw [e, List.length_append, ← h3]; rfl
 ·dsimp only at hm ⊢
  rw [e, clAt_app, ← h3]
  by_cases hmi : m = i
  ·rw [if_pos hmi, if_neg (by omega), hmi, Nat.sub_self, hfj]; rfl
  ·rw [if_neg hmi, if_pos (by omega), h4 m (by omega)]
 ·dsimp only at hm ⊢
  rw [if_neg (by omega), h5 m (by omega)]
theorem ql_hit {p : Cl → Bool} {l : List Cl} {j i : Nat} {f : Nat → Cl} (h : Q_dl p l (j, i, f)) (hj : j < l.length) (hp : p (f j) = true) : Q_dl p l (j + 1, i, f) := by
 obtain ⟨h1, h2, h3, h4, h5⟩ := h
 dsimp only at h1 h2 h3 h4 h5
 have e := del_succ (p := p) hj
 have hfj := h5 j (Nat.le_refl _)
 rw [if_pos (by rw [← hfj, hp]), List.append_nil] at e
 exact ⟨hj, by dsimp only; omega, by dsimp only; rw [e]; exact h3, fun m hm => by dsimp only at hm ⊢; rw [e]; exact h4 m hm, fun m hm => by dsimp only at hm ⊢; exact h5 m (by omega)⟩
theorem ql_end {p : Cl → Bool} {l : List Cl} {i : Nat} {f : Nat → Cl} (h : Q_dl p l (l.length, i, f)) : i = (delL p l).length ∧ ∀ k, k < i → f k = clAt (delL p l) k := by
 obtain ⟨_, _, h3, h4, _⟩ := h
 dsimp only at h3 h4
 rw [List.take_length] at h3 h4
 exact ⟨h3, h4⟩
theorem delf_fun (l : List Cl) (j : Jb) (hn : l.length < 2 ^ 38) : Fun C P F_delf [slC 0 l, .fn (.func 67) [.ptr 1 []]] [(0, .c (arC l)), (1, .c (jbA j))] (slC 2 (delL (hitP j) l)) [(2, .c (arC (delL (hitP j) l)))] := by
 refine in_delf (W := w_delf) rfl 2 (by simp) rfl two_id fun D => ?_
 refine of_eq (delf_A l j 2 _) ?_
 rw [row0 l, toCls_A, toJb_A]
 refine ⟨idxF_fun false l j (by omega), trivial, fun h => ?_, fun h => ?_⟩
 ·rcases idxL_spec (hitP j) l with ⟨h1, h2⟩ | ⟨k, h1, _⟩
  ·have e : delL (hitP j) l = l := filter_all fun c hc => by
    obtain ⟨m, hm, rfl⟩ := List.getElem_of_mem hc
    have := h2 m hm
    rw [clAt_lt hm] at this
    rw [this]; rfl
   rw [e]
   exact post_short rfl rfl (Nat.le_refl _) (Nat.le_refl _) (fun _ _ => rfl) (by decide)
  ·rw [h1] at h; simp at h
 rcases idxL_spec (hitP j) l with ⟨h1, _⟩ | ⟨k, h1, h2, h3, h4⟩
 ·rw [h1] at h; simp at h
 rw [h1]
 refine ⟨(by first | omega | decide | (unfold I64; omega)), loop_inv (W := w_delf) ctx mixed ok_delf_0 (I_dl l.length j) (Q_dl (hitP j) l) (fun s => l.length - s.1) (k + 1, k, clAt l) (ql_0 h2 h3 h4) ?_ fun s hq => ?_⟩
 ·exact ent_of [(0, 0), (1, 1)] rfl (tm_cons rfl (sm_sl rfl rfl (Nat.le_refl _) (Nat.le_refl _) (fun h => ⟨h, rfl⟩)) (tm_cons rfl (sm_fn (sms_cons (sm_ptr rfl) sms_nil)) (tm_cons rfl (sm_same rfl) (tm_cons rfl (sm_same rfl) tm_nil)))) (hp_cons rfl rfl (sm_same rfl) (hp_cons rfl rfl (sm_same rfl) hp_nil))
 obtain ⟨b, i, f⟩ := s
 obtain ⟨g1, g2, _⟩ := id hq
 dsimp only at g1 g2
 refine of_eq (delf_L0 l l.length j (b, i, f) 2 _) ⟨fun h => ?_, fun h => ?_⟩
 ·simp only [decide_eq_true_eq] at h
  have hj : b < l.length := by omega
  have hf := hq.2.2.2.2 b (Nat.le_refl _)
  dsimp only at hf
  dsimp only
  rw [Nat.zero_add, Nat.zero_add, toCl_A, toJb_A]
  refine ⟨(by first | omega | decide | (unfold I64; omega)), TC4, perf1_fun _ _, trivial, fun h3 => ⟨(by first | omega | decide | (unfold I64; omega)), TC4, (by first | omega | decide | (unfold I64; omega)), (by first | omega | decide | (unfold I64; omega)), round_end (b + 1, i + 1, fun m => if m = i then f b else f m) (ql_keep hq hj (bnt h3)) (ent_of [(0, 0), (1, 1)] rfl (tm_cons rfl (sm_sl rfl rfl (Nat.le_refl _) (Nat.le_refl _) (fun h => ⟨h, rfl⟩)) (tm_cons rfl (sm_fn (sms_cons (sm_ptr rfl) sms_nil)) (tm_cons rfl (sm_same rfl) (tm_cons rfl (sm_same rfl) tm_nil)))) (hp_cons rfl rfl (sm_arr fun m _ => by dsimp only; split <;> rfl) (hp_cons rfl rfl (sm_same rfl) hp_nil))) (by dsimp only; omega)⟩, fun h3 => ⟨(by first | omega | decide | (unfold I64; omega)), round_end (b + 1, i, f) (ql_hit hq hj (bnf h3)) (ent_of [(0, 0), (1, 1)] rfl (tm_cons rfl (sm_sl rfl rfl (Nat.le_refl _) (Nat.le_refl _) (fun h => ⟨h, rfl⟩)) (tm_cons rfl (sm_fn (sms_cons (sm_ptr rfl) sms_nil)) (tm_cons rfl (sm_same rfl) (tm_cons rfl (sm_same rfl) tm_nil)))) (hp_cons rfl rfl (sm_same rfl) (hp_cons rfl rfl (sm_same rfl) hp_nil))) (by dsimp only; omega)⟩⟩
 ·simp only [decide_eq_false_iff_not] at h
  obtain rfl : b = l.length := by omega
  obtain ⟨e1, e2⟩ := ql_end hq
  dsimp only
  refine ⟨(by first | omega | decide | (unfold I64; omega)), fun _ _ => TC4, (by first | omega | decide | (unfold I64; omega)), ?_⟩
  rw [e1]
  refine post_short rfl rfl (by omega) (by omega) (fun m hm => ?_) (by decide)
  unfold lay
  rw [if_pos (by omega)]
  show clA (f m) = clA (clAt _ m)
  rw [e2 m (by omega)]
theorem delW_fun (l : List Cl) (hn : l.length < 2 ^ 38) (hs : ∀ c, c ∈ l → Small c.b ∧ c.b.length < 2 ^ 40) : Fun C P F_delW [slC 0 l, .fn (.func 51) []] [(0, .c (arC l))] (slC 2 (delL whC l)) [(2, .c (arC (delL whC l)))] := by
 refine in_delW (W := w_delW) rfl 1 (by simp) rfl one_id fun D => ?_
 refine of_eq (delW_A l 1 _) ?_
 rw [row0 l, toCls_A]
 refine ⟨idxW_fun false l (by omega) hs, trivial, fun h => ?_, fun h => ?_⟩
 ·rcases idxL_spec whC l with ⟨h1, h2⟩ | ⟨k, h1, _⟩
  ·have e : delL whC l = l := filter_all fun c hc => by
    obtain ⟨m, hm, rfl⟩ := List.getElem_of_mem hc
    have := h2 m hm
    rw [clAt_lt hm] at this
    rw [this]; rfl
   rw [e]
   exact post_short rfl rfl (Nat.le_refl _) (Nat.le_refl _) (fun _ _ => rfl) (by decide)
  ·rw [h1] at h; simp at h
 rcases idxL_spec whC l with ⟨h1, _⟩ | ⟨k, h1, h2, h3, h4⟩
 ·rw [h1] at h; simp at h
 rw [h1]
 refine ⟨(by first | omega | decide | (unfold I64; omega)), loop_inv (W := w_delW) ctx mixed ok_delW_0 (I_dW l.length) (Q_dl whC l) (fun s => l.length - s.1) (k + 1, k, clAt l) (ql_0 h2 h3 h4) ?_ fun s hq => ?_⟩
 ·exact ent_of [(0, 0)] rfl (tm_cons rfl (sm_sl rfl rfl (Nat.le_refl _) (Nat.le_refl _) (fun h => ⟨h, rfl⟩)) (tm_cons rfl (sm_same rfl) (tm_cons rfl (sm_same rfl) (tm_cons rfl (sm_same rfl) tm_nil)))) (hp_cons rfl rfl (sm_same rfl) hp_nil)
 obtain ⟨b, i, f⟩ := s
 obtain ⟨g1, g2, _⟩ := id hq
 dsimp only at g1 g2
 refine of_eq (delW_L0 l l.length (b, i, f) 1 _) ⟨fun h => ?_, fun h => ?_⟩
 ·simp only [decide_eq_true_eq] at h
  have hj : b < l.length := by omega
  have hf := hq.2.2.2.2 b (Nat.le_refl _)
  dsimp only at hf
  dsimp only
  rw [Nat.zero_add, Nat.zero_add, toCl_A]
  have hm := hs (f b) (by rw [hf, clAt_lt hj]; exact List.getElem_mem hj)
  refine ⟨(by first | omega | decide | (unfold I64; omega)), TC4, whole_fun _ hm.1 hm.2, trivial, fun h3 => ⟨(by first | omega | decide | (unfold I64; omega)), TC4, (by first | omega | decide | (unfold I64; omega)), (by first | omega | decide | (unfold I64; omega)), round_end (b + 1, i + 1, fun m => if m = i then f b else f m) (ql_keep hq hj (bnt h3)) (ent_of [(0, 0)] rfl (tm_cons rfl (sm_sl rfl rfl (Nat.le_refl _) (Nat.le_refl _) (fun h => ⟨h, rfl⟩)) (tm_cons rfl (sm_same rfl) (tm_cons rfl (sm_same rfl) (tm_cons rfl (sm_same rfl) tm_nil)))) (hp_cons rfl rfl (sm_arr fun m _ => by dsimp only; split <;> rfl) hp_nil)) (by dsimp only; omega)⟩, fun h3 => ⟨(by first | omega | decide | (unfold I64; omega)), round_end (b + 1, i, f) (ql_hit hq hj (bnf h3)) (ent_of [(0, 0)] rfl (tm_cons rfl (sm_sl rfl rfl (Nat.le_refl _) (Nat.le_refl _) (fun h => ⟨h, rfl⟩)) (tm_cons rfl (sm_same rfl) (tm_cons rfl (sm_same rfl) (tm_cons rfl (sm_same rfl) tm_nil)))) (hp_cons rfl rfl (sm_same rfl) hp_nil)) (by dsimp only; omega)⟩⟩
 ·simp only [decide_eq_false_iff_not] at h
  obtain rfl : b = l.length := by omega
  obtain ⟨e1, e2⟩ := ql_end hq
  dsimp only
  refine ⟨(by first | omega | decide | (unfold I64; omega)), fun _ _ => TC4, (by first | omega | decide | (unfold I64; omega)), ?_⟩
  rw [e1]
  refine post_short rfl rfl (by omega) (by omega) (fun m hm => ?_) (by decide)
  unfold lay
  rw [if_pos (by omega)]
  show clA (f m) = clA (clAt _ m)
  rw [e2 m (by omega)]
end Go.Bu.W
namespace Go.Bu.W
open Sp
def mkC (xs : List Value) : AV := .st [.v (xs.getD 0 undef), .v (xs.getD 1 undef), .v (xs.getD 2 undef), .arr 32 1 (fun j => .v ((xs.drop 3).getD j undef))]
def crOvl : List AV → List (Nat × Blk) → Option (AV × List (Nat × Blk))
 | [.sl _ _ _ _ _ _ _, .sl _ _ _ _ _ _ _], H => some (.v (.bool false), H)
 | _, _ => none
def insRow (l : List Cl) (i : Nat) (c : Cl) : List Cl := l.take i ++ c :: l.drop i
def crIns : List AV → List (Nat × Blk) → Option (AV × List (Nat × Blk))
 | [.sl _ _ _ n _ _ _, i, .sl _ _ _ _ _ _ _], [(_, .c (.arr _ _ f)), (_, .c v)] => delR (insRow (rowCls n f) (asI i).toNat (toCl (firstOf v)))
 | _, _ => none
def crT2 (g : Nat) (args : List AV) (H : List (Nat × Blk)) : Option (AV × List (Nat × Blk)) :=
 sel (Nat.beq g F_insC) (crIns args H) <| sel (Nat.beq g 77) (crOvl args H) <| crT1 g args H
def byrefI (g : Nat) : Bool := Nat.beq g F_insC || Nat.beq g 77
def wayU (keep : List Nat) (nt : Nat) (cuts : List Nat) : Way := ⟨crT2, byrefI, keep, [40], nt, cuts, []⟩
def w_insC : Way := wayU [0, 1, 2, 6, 7, 8, 9, 16, 22, 31, 68] 95 []
theorem insC_AE (l : List Cl) (x : Cl) {D : Dom} (K : Nat) (Φ : Ex → St → Prop) :
 (Holds C P 95 D K Φ (vc C w_insC b_insC [] (start [.sl 0 [] 0 l.length l.length false 35, i64 l.length, .sl 1 [] 0 1 1 true 35] [(0, .c (.arr l.length 35 (rowC l))), (1, .c (.arr 1 35 (fun _ => clA x)))]) lf)) =
 ((((0 : Int) ≤ (((List.length l) : Nat) : Int)) ∧ (((((List.length l) : Nat) : Int) ≤ (((List.length l) : Nat) : Int)) ∧ ((((List.length l) : Nat) : Int) ≤ (((List.length l) : Nat) : Int)))) ∧
 ((false = true →
 (Φ Ex.ret (St.mk [(0, (AV.sl 0 [] 0 (List.length l) (List.length l) false 35)), (1, (AV.i (((List.length l) : Nat) : Int))), (2, (AV.sl 1 [] 0 1 1 true 35)), (6, (AV.sl 0 [] 0 (List.length l) (List.length l) false 35)), (7, (AV.i (1 : Int))), (16, (AV.v (Value.bool true)))] [(0, (Blk.c (AV.arr (List.length l) 35 (rowC l)))), (1, (Blk.c (AV.arr 1 35 (fun (x1 : Nat) => (clA x)))))] [0, 1]))) ∧
 (false = false →
 ((((((List.length l) : Nat) : Int) == (((List.length l) : Nat) : Int)) = true →
 (((((List.length l) + 1) * 72) ≤ 140737488355328) ∧
 (Φ Ex.ret (St.mk [(0, (AV.sl 0 [] 0 (List.length l) (List.length l) false 35)), (1, (AV.i (((List.length l) : Nat) : Int))), (2, (AV.sl 1 [] 0 1 1 true 35)), (6, (AV.sl 25 [] 0 ((List.length l) + 1) ((List.length l) + 1) false 35)), (7, (AV.i (1 : Int))), (8, (AV.i (((List.length l) : Nat) : Int))), (16, (AV.v (Value.bool false))), (22, (AV.v (Value.bool true)))] [(1, (Blk.c (AV.arr 1 35 (fun (x1 : Nat) => (clA x))))), (25, (Blk.c (AV.arr ((List.length l) + 1) 35 (cat (List.length l) (fun (i : Nat) => (clA (clAt l (0 + i)))) (fun (i : Nat) => (clA x))))))] [25, 0, 1])))) ∧
 (((((List.length l) : Nat) : Int) == (((List.length l) : Nat) : Int)) = false →
 ((I64 ((((List.length l) + 1) : Nat) : Int)) ∧
 (Holds C P 95 D K Φ (VC.fail 4)))))))) := by kernel_rfl
theorem insC_AX (l : List Cl) (x : Cl) (rc i : Nat) (sp : Nat → List Value) {D : Dom} (K : Nat) (Φ : Ex → St → Prop) :
 (Holds C P 95 D K Φ (vc C w_insC b_insC [] (start [.sl 0 [] 0 l.length rc true 35, i64 i, .sl 1 [] 0 1 1 true 35] [(0, .c (.arr rc 35 (fun j => if j < l.length then rowC l j else mkC (sp j)))), (1, .c (.arr 1 35 (fun _ => clA x)))]) lf)) =
 ((((0 : Int) ≤ ((i : Nat) : Int)) ∧ ((((i : Nat) : Int) ≤ (((List.length l) : Nat) : Int)) ∧ ((((List.length l) : Nat) : Int) ≤ ((rc : Nat) : Int)))) ∧
 ((false = true →
 (Φ Ex.ret (St.mk [(0, (AV.sl 0 [] 0 (List.length l) rc true 35)), (1, (AV.i ((i : Nat) : Int))), (2, (AV.sl 1 [] 0 1 1 true 35)), (6, (AV.sl 0 [] 0 (List.length l) rc true 35)), (7, (AV.i (1 : Int))), (16, (AV.v (Value.bool true)))] [(0, (Blk.c (AV.arr rc 35 (fun (j : Nat) => (if (j < (List.length l)) then (clA (clAt l j)) else (AV.st [(AV.v (List.getD (sp j) 0 (Value.tuple #[]))), (AV.v (List.getD (sp j) 1 (Value.tuple #[]))), (AV.v (List.getD (sp j) 2 (Value.tuple #[]))), (AV.arr 32 1 (fun (j1 : Nat) => (AV.v (List.getD (List.drop 3 (sp j)) j1 (Value.tuple #[])))))])))))), (1, (Blk.c (AV.arr 1 35 (fun (x1 : Nat) => (clA x)))))] [0, 1]))) ∧
 (false = false →
 (((((i : Nat) : Int) == (((List.length l) : Nat) : Int)) = true →
 (((((List.length l) + 1) * 72) ≤ 140737488355328) ∧
 (Φ Ex.ret (St.mk [(0, (AV.sl 0 [] 0 (List.length l) rc true 35)), (1, (AV.i ((i : Nat) : Int))), (2, (AV.sl 1 [] 0 1 1 true 35)), (6, (AV.sl 25 [] 0 ((List.length l) + 1) ((List.length l) + 1) false 35)), (7, (AV.i (1 : Int))), (8, (AV.i (((List.length l) : Nat) : Int))), (16, (AV.v (Value.bool false))), (22, (AV.v (Value.bool true)))] [(1, (Blk.c (AV.arr 1 35 (fun (x1 : Nat) => (clA x))))), (25, (Blk.c (AV.arr ((List.length l) + 1) 35 (cat (List.length l) (fun (i1 : Nat) => (if ((0 + i1) < (List.length l)) then (clA (clAt l (0 + i1))) else (AV.st [(AV.v (List.getD (sp (0 + i1)) 0 (Value.tuple #[]))), (AV.v (List.getD (sp (0 + i1)) 1 (Value.tuple #[]))), (AV.v (List.getD (sp (0 + i1)) 2 (Value.tuple #[]))), (AV.arr 32 1 (fun (j : Nat) => (AV.v (List.getD (List.drop 3 (sp (0 + i1))) j (Value.tuple #[])))))]))) (fun (i1 : Nat) => (clA x))))))] [25, 0, 1])))) ∧
 ((((i : Nat) : Int) == (((List.length l) : Nat) : Int)) = false →
 ((I64 ((((List.length l) + 1) : Nat) : Int)) ∧
 (((decide (((((List.length l) + 1) : Nat) : Int) > ((rc : Nat) : Int))) = true →
 ((((0 : Int) ≤ (0 : Int)) ∧ (((0 : Int) ≤ ((i : Nat) : Int)) ∧ (((i : Nat) : Int) ≤ ((rc : Nat) : Int)))) ∧
 ((I64 ((((List.length l) + 1) : Nat) : Int)) ∧
 ((I64 (((((List.length l) + 1) : Nat) : Int) - ((i : Nat) : Int))) ∧
 ((((0 : Int) ≤ (((((List.length l) + 1) : Nat) : Int) - ((i : Nat) : Int))) ∧ (((Int.toNat (((((List.length l) + 1) : Nat) : Int) - ((i : Nat) : Int))) * 72) ≤ 140737488355328)) ∧
 ((rc < (i + (Int.toNat (((((List.length l) + 1) : Nat) : Int) - ((i : Nat) : Int))))) ∧
 ((((i + (Int.toNat (((((List.length l) + 1) : Nat) : Int) - ((i : Nat) : Int)))) * 72) ≤ 140737488355328) ∧
 ((((0 : Int) ≤ ((i : Nat) : Int)) ∧ ((((i : Nat) : Int) ≤ (((i + (Int.toNat (((((List.length l) + 1) : Nat) : Int) - ((i : Nat) : Int)))) : Nat) : Int)) ∧ ((((i + (Int.toNat (((((List.length l) + 1) : Nat) : Int) - ((i : Nat) : Int)))) : Nat) : Int) ≤ (((i + (Int.toNat (((((List.length l) + 1) : Nat) : Int) - ((i : Nat) : Int)))) : Nat) : Int)))) ∧
 ((∀ (i1 : Nat), ((i1 < (Min.min 1 ((i + (Int.toNat (((((List.length l) + 1) : Nat) : Int) - ((i : Nat) : Int)))) - i))) → (shp (cat i (fun (i2 : Nat) => (if ((0 + i2) < (List.length l)) then (clA (clAt l (0 + i2))) else (AV.st [(AV.v (List.getD (sp (0 + i2)) 0 (Value.tuple #[]))), (AV.v (List.getD (sp (0 + i2)) 1 (Value.tuple #[]))), (AV.v (List.getD (sp (0 + i2)) 2 (Value.tuple #[]))), (AV.arr 32 1 (fun (j : Nat) => (AV.v (List.getD (List.drop 3 (sp (0 + i2))) j (Value.tuple #[])))))]))) (fun (x1 : Nat) => (AV.st [(AV.i (0 : Int)), (AV.i (0 : Int)), (AV.dat 0 true 0 (fun (x2 : Nat) => (AV.v (Value.tuple #[])))), (AV.arr 32 1 (fun (x2 : Nat) => (AV.v (Value.int IntKind.u8 (0 : Int)))))])) ((0 + i) + i1)) (clA x)))) ∧
 ((I64 (((i + 1) : Nat) : Int)) ∧
 ((((0 : Int) ≤ (((i + 1) : Nat) : Int)) ∧ (((((i + 1) : Nat) : Int) ≤ (((i + (Int.toNat (((((List.length l) + 1) : Nat) : Int) - ((i : Nat) : Int)))) : Nat) : Int)) ∧ ((((i + (Int.toNat (((((List.length l) + 1) : Nat) : Int) - ((i : Nat) : Int)))) : Nat) : Int) ≤ (((i + (Int.toNat (((((List.length l) + 1) : Nat) : Int) - ((i : Nat) : Int)))) : Nat) : Int)))) ∧
 ((((0 : Int) ≤ ((i : Nat) : Int)) ∧ ((((i : Nat) : Int) ≤ (((List.length l) : Nat) : Int)) ∧ ((((List.length l) : Nat) : Int) ≤ ((rc : Nat) : Int)))) ∧
 ((∀ (i1 : Nat), ((i1 < (Min.min ((List.length l) - i) ((i + (Int.toNat (((((List.length l) + 1) : Nat) : Int) - ((i : Nat) : Int)))) - (i + 1)))) → (shp (lay (0 + i) (Min.min 1 ((i + (Int.toNat (((((List.length l) + 1) : Nat) : Int) - ((i : Nat) : Int)))) - i)) (cat i (fun (i2 : Nat) => (if ((0 + i2) < (List.length l)) then (clA (clAt l (0 + i2))) else (AV.st [(AV.v (List.getD (sp (0 + i2)) 0 (Value.tuple #[]))), (AV.v (List.getD (sp (0 + i2)) 1 (Value.tuple #[]))), (AV.v (List.getD (sp (0 + i2)) 2 (Value.tuple #[]))), (AV.arr 32 1 (fun (j : Nat) => (AV.v (List.getD (List.drop 3 (sp (0 + i2))) j (Value.tuple #[])))))]))) (fun (x1 : Nat) => (AV.st [(AV.i (0 : Int)), (AV.i (0 : Int)), (AV.dat 0 true 0 (fun (x2 : Nat) => (AV.v (Value.tuple #[])))), (AV.arr 32 1 (fun (x2 : Nat) => (AV.v (Value.int IntKind.u8 (0 : Int)))))]))) (fun (i2 : Nat) => (clA x)) ((0 + (i + 1)) + i1)) (if (((0 + i) + i1) < (List.length l)) then (clA (clAt l ((0 + i) + i1))) else (AV.st [(AV.v (List.getD (sp ((0 + i) + i1)) 0 (Value.tuple #[]))), (AV.v (List.getD (sp ((0 + i) + i1)) 1 (Value.tuple #[]))), (AV.v (List.getD (sp ((0 + i) + i1)) 2 (Value.tuple #[]))), (AV.arr 32 1 (fun (j : Nat) => (AV.v (List.getD (List.drop 3 (sp ((0 + i) + i1))) j (Value.tuple #[])))))]))))) ∧
 (Φ Ex.ret (St.mk [(0, (AV.sl 0 [] 0 (List.length l) rc true 35)), (1, (AV.i ((i : Nat) : Int))), (2, (AV.sl 1 [] 0 1 1 true 35)), (6, (AV.sl 40 [] 0 (i + (Int.toNat (((((List.length l) + 1) : Nat) : Int) - ((i : Nat) : Int)))) (i + (Int.toNat (((((List.length l) + 1) : Nat) : Int) - ((i : Nat) : Int)))) false 35)), (7, (AV.i (1 : Int))), (8, (AV.i (((List.length l) : Nat) : Int))), (9, (AV.sl 40 [] 0 (i + (Int.toNat (((((List.length l) + 1) : Nat) : Int) - ((i : Nat) : Int)))) (i + (Int.toNat (((((List.length l) + 1) : Nat) : Int) - ((i : Nat) : Int)))) false 35)), (16, (AV.v (Value.bool false))), (22, (AV.v (Value.bool false))), (31, (AV.v (Value.bool true)))] [(0, (Blk.c (AV.arr rc 35 (fun (j : Nat) => (if (j < (List.length l)) then (clA (clAt l j)) else (AV.st [(AV.v (List.getD (sp j) 0 (Value.tuple #[]))), (AV.v (List.getD (sp j) 1 (Value.tuple #[]))), (AV.v (List.getD (sp j) 2 (Value.tuple #[]))), (AV.arr 32 1 (fun (j1 : Nat) => (AV.v (List.getD (List.drop 3 (sp j)) j1 (Value.tuple #[])))))])))))), (1, (Blk.c (AV.arr 1 35 (fun (x1 : Nat) => (clA x))))), (40, (Blk.c (AV.arr (i + (Int.toNat (((((List.length l) + 1) : Nat) : Int) - ((i : Nat) : Int)))) 35 (lay (0 + (i + 1)) (Min.min ((List.length l) - i) ((i + (Int.toNat (((((List.length l) + 1) : Nat) : Int) - ((i : Nat) : Int)))) - (i + 1))) (lay (0 + i) (Min.min 1 ((i + (Int.toNat (((((List.length l) + 1) : Nat) : Int) - ((i : Nat) : Int)))) - i)) (cat i (fun (i1 : Nat) => (if ((0 + i1) < (List.length l)) then (clA (clAt l (0 + i1))) else (AV.st [(AV.v (List.getD (sp (0 + i1)) 0 (Value.tuple #[]))), (AV.v (List.getD (sp (0 + i1)) 1 (Value.tuple #[]))), (AV.v (List.getD (sp (0 + i1)) 2 (Value.tuple #[]))), (AV.arr 32 1 (fun (j : Nat) => (AV.v (List.getD (List.drop 3 (sp (0 + i1))) j (Value.tuple #[])))))]))) (fun (x1 : Nat) => (AV.st [(AV.i (0 : Int)), (AV.i (0 : Int)), (AV.dat 0 true 0 (fun (x2 : Nat) => (AV.v (Value.tuple #[])))), (AV.arr 32 1 (fun (x2 : Nat) => (AV.v (Value.int IntKind.u8 (0 : Int)))))]))) (fun (i1 : Nat) => (clA x))) (fun (i1 : Nat) => (if (((0 + i) + i1) < (List.length l)) then (clA (clAt l ((0 + i) + i1))) else (AV.st [(AV.v (List.getD (sp ((0 + i) + i1)) 0 (Value.tuple #[]))), (AV.v (List.getD (sp ((0 + i) + i1)) 1 (Value.tuple #[]))), (AV.v (List.getD (sp ((0 + i) + i1)) 2 (Value.tuple #[]))), (AV.arr 32 1 (fun (j : Nat) => (AV.v (List.getD (List.drop 3 (sp ((0 + i) + i1))) j (Value.tuple #[])))))])))))))] [40, 0, 1]))))))))))))))) ∧
 ((decide (((((List.length l) + 1) : Nat) : Int) > ((rc : Nat) : Int))) = false →
 ((I64 ((((List.length l) + 1) : Nat) : Int)) ∧
 ((((0 : Int) ≤ (0 : Int)) ∧ (((0 : Int) ≤ ((((List.length l) + 1) : Nat) : Int)) ∧ (((((List.length l) + 1) : Nat) : Int) ≤ ((rc : Nat) : Int)))) ∧
 ((I64 (((i + 1) : Nat) : Int)) ∧
 ((((0 : Int) ≤ (((i + 1) : Nat) : Int)) ∧ (((((i + 1) : Nat) : Int) ≤ ((((List.length l) + 1) : Nat) : Int)) ∧ (((((List.length l) + 1) : Nat) : Int) ≤ ((rc : Nat) : Int)))) ∧
 (Fun C P 77 [(AV.sl 0 [] 0 1 1 true 35), (AV.sl 1 [] (0 + (i + 1)) (((List.length l) + 1) - (i + 1)) (rc - (i + 1)) true 35)] [(0, (Blk.c (AV.arr 1 35 (fun (x1 : Nat) => (clA x))))), (1, (Blk.c (AV.arr rc 35 (fun (j : Nat) => (if (j < (List.length l)) then (clA (clAt l j)) else (AV.st [(AV.v (List.getD (sp j) 0 (Value.tuple #[]))), (AV.v (List.getD (sp j) 1 (Value.tuple #[]))), (AV.v (List.getD (sp j) 2 (Value.tuple #[]))), (AV.arr 32 1 (fun (j1 : Nat) => (AV.v (List.getD (List.drop 3 (sp j)) j1 (Value.tuple #[])))))]))))))] (AV.v (Value.bool false)) [(0, (Blk.c (AV.arr 1 35 (fun (x1 : Nat) => (clA x))))), (1, (Blk.c (AV.arr rc 35 (fun (j : Nat) => (if (j < (List.length l)) then (clA (clAt l j)) else (AV.st [(AV.v (List.getD (sp j) 0 (Value.tuple #[]))), (AV.v (List.getD (sp j) 1 (Value.tuple #[]))), (AV.v (List.getD (sp j) 2 (Value.tuple #[]))), (AV.arr 32 1 (fun (j1 : Nat) => (AV.v (List.getD (List.drop 3 (sp j)) j1 (Value.tuple #[])))))]))))))] ∧
 ((I64 (((i + 1) : Nat) : Int)) ∧
 ((((0 : Int) ≤ (((i + 1) : Nat) : Int)) ∧ (((((i + 1) : Nat) : Int) ≤ ((((List.length l) + 1) : Nat) : Int)) ∧ (((((List.length l) + 1) : Nat) : Int) ≤ ((rc : Nat) : Int)))) ∧
 ((((0 : Int) ≤ ((i : Nat) : Int)) ∧ ((((i : Nat) : Int) ≤ ((((List.length l) + 1) : Nat) : Int)) ∧ (((((List.length l) + 1) : Nat) : Int) ≤ ((rc : Nat) : Int)))) ∧
 ((∀ (i1 : Nat), ((i1 < (Min.min (((List.length l) + 1) - i) (((List.length l) + 1) - (i + 1)))) → (shp (if (((0 + (i + 1)) + i1) < (List.length l)) then (clA (clAt l ((0 + (i + 1)) + i1))) else (AV.st [(AV.v (List.getD (sp ((0 + (i + 1)) + i1)) 0 (Value.tuple #[]))), (AV.v (List.getD (sp ((0 + (i + 1)) + i1)) 1 (Value.tuple #[]))), (AV.v (List.getD (sp ((0 + (i + 1)) + i1)) 2 (Value.tuple #[]))), (AV.arr 32 1 (fun (j : Nat) => (AV.v (List.getD (List.drop 3 (sp ((0 + (i + 1)) + i1))) j (Value.tuple #[])))))])) (if (((0 + i) + i1) < (List.length l)) then (clA (clAt l ((0 + i) + i1))) else (AV.st [(AV.v (List.getD (sp ((0 + i) + i1)) 0 (Value.tuple #[]))), (AV.v (List.getD (sp ((0 + i) + i1)) 1 (Value.tuple #[]))), (AV.v (List.getD (sp ((0 + i) + i1)) 2 (Value.tuple #[]))), (AV.arr 32 1 (fun (j : Nat) => (AV.v (List.getD (List.drop 3 (sp ((0 + i) + i1))) j (Value.tuple #[])))))]))))) ∧
 ((((0 : Int) ≤ ((i : Nat) : Int)) ∧ ((((i : Nat) : Int) ≤ ((((List.length l) + 1) : Nat) : Int)) ∧ (((((List.length l) + 1) : Nat) : Int) ≤ ((rc : Nat) : Int)))) ∧
 ((∀ (i1 : Nat), ((i1 < (Min.min 1 (((List.length l) + 1) - i))) → (shp (lay (0 + (i + 1)) (Min.min (((List.length l) + 1) - i) (((List.length l) + 1) - (i + 1))) (fun (j : Nat) => (if (j < (List.length l)) then (clA (clAt l j)) else (AV.st [(AV.v (List.getD (sp j) 0 (Value.tuple #[]))), (AV.v (List.getD (sp j) 1 (Value.tuple #[]))), (AV.v (List.getD (sp j) 2 (Value.tuple #[]))), (AV.arr 32 1 (fun (j1 : Nat) => (AV.v (List.getD (List.drop 3 (sp j)) j1 (Value.tuple #[])))))]))) (fun (i2 : Nat) => (if (((0 + i) + i2) < (List.length l)) then (clA (clAt l ((0 + i) + i2))) else (AV.st [(AV.v (List.getD (sp ((0 + i) + i2)) 0 (Value.tuple #[]))), (AV.v (List.getD (sp ((0 + i) + i2)) 1 (Value.tuple #[]))), (AV.v (List.getD (sp ((0 + i) + i2)) 2 (Value.tuple #[]))), (AV.arr 32 1 (fun (j : Nat) => (AV.v (List.getD (List.drop 3 (sp ((0 + i) + i2))) j (Value.tuple #[])))))]))) ((0 + i) + i1)) (clA x)))) ∧
 (Φ Ex.ret (St.mk [(0, (AV.sl 0 [] 0 ((List.length l) + 1) rc true 35)), (1, (AV.i ((i : Nat) : Int))), (2, (AV.sl 1 [] 0 1 1 true 35)), (6, (AV.sl 0 [] 0 ((List.length l) + 1) rc true 35)), (7, (AV.i (1 : Int))), (8, (AV.i (((List.length l) : Nat) : Int))), (16, (AV.v (Value.bool false))), (22, (AV.v (Value.bool false))), (31, (AV.v (Value.bool false))), (68, (AV.v (Value.bool true)))] [(0, (Blk.c (AV.arr rc 35 (lay (0 + i) (Min.min 1 (((List.length l) + 1) - i)) (lay (0 + (i + 1)) (Min.min (((List.length l) + 1) - i) (((List.length l) + 1) - (i + 1))) (fun (j : Nat) => (if (j < (List.length l)) then (clA (clAt l j)) else (AV.st [(AV.v (List.getD (sp j) 0 (Value.tuple #[]))), (AV.v (List.getD (sp j) 1 (Value.tuple #[]))), (AV.v (List.getD (sp j) 2 (Value.tuple #[]))), (AV.arr 32 1 (fun (j1 : Nat) => (AV.v (List.getD (List.drop 3 (sp j)) j1 (Value.tuple #[])))))]))) (fun (i1 : Nat) => (if (((0 + i) + i1) < (List.length l)) then (clA (clAt l ((0 + i) + i1))) else (AV.st [(AV.v (List.getD (sp ((0 + i) + i1)) 0 (Value.tuple #[]))), (AV.v (List.getD (sp ((0 + i) + i1)) 1 (Value.tuple #[]))), (AV.v (List.getD (sp ((0 + i) + i1)) 2 (Value.tuple #[]))), (AV.arr 32 1 (fun (j : Nat) => (AV.v (List.getD (List.drop 3 (sp ((0 + i) + i1))) j (Value.tuple #[])))))])))) (fun (i1 : Nat) => (clA x)))))), (1, (Blk.c (AV.arr 1 35 (fun (x1 : Nat) => (clA x)))))] [0, 1]))))))))))))))))))))) := by kernel_rfl
theorem shpCC (a b : Cl) : shp (clA a) (clA b) := by simp [shp, shp.shps, leaf]
theorem shpMC (xs : List Value) (b : Cl) : shp (mkC xs) (clA b) := by simp [mkC, shp, shp.shps, leaf]
theorem shpMM (xs ys : List Value) : shp (mkC xs) (mkC ys) := by simp [mkC, shp, shp.shps, leaf]
theorem shpCM (xs : List Value) (b : Cl) : shp (clA b) (mkC xs) := by simp [mkC, shp, shp.shps, leaf]
abbrev clZ : AV := AV.st [(AV.i (0 : Int)), (AV.i (0 : Int)), nilS, zH]
theorem shpZC (b : Cl) : shp clZ (clA b) := by simp [shp, shp.shps, leaf]
theorem shpZM (xs : List Value) : shp clZ (mkC xs) := by simp [mkC, shp, shp.shps, leaf]
set_option maxRecDepth 100000 in
theorem ovl_fun {n c c' o n' : Nat} {ex ex' : Bool} {f g : Nat → AV} {m m' : Nat} : Fun C P 77 [.sl 0 [] 0 n c ex 35, .sl 1 [] o n' c' ex' 35] [(0, .c (.arr m 35 f)), (1, .c (.arr m' 35 g))] (.v (.bool false)) [(0, .c (.arr m 35 f)), (1, .c (.arr m' 35 g))] := by
 have hz : ∀ w, (Go.sizeOf 60).run P w = .ok 35 w := fun w => by rw [run_sizeOf ctx (t := 60) (by kernel_rfl)]; kernel_rfl
 exact fun_ovl (fn := Proofs.Tryd.f77) (tS := 24) (tR := 4) (et := 60) Proofs.Tryd.func77 (by kernel_rfl) (by kernel_rfl) (by kernel_rfl) (by kernel_rfl) (by kernel_rfl) 35 hz rfl (by decide)
theorem mkC_rep (w : World) (A : Nat → Prop) (xs : List Value) (hl : xs.length = 35) (hn : ∀ z, z ∈ xs → nota z = true) : Rep w A (fun _ => none) (mkC xs) xs := by
 match xs, hl with
 | x0 :: x1 :: x2 :: r, hl =>
  have hr : r.length = 32 := by simpa using hl
  have r1 : Rep w A (fun _ => none) (.arr 32 1 (fun j => .v (r.getD j undef))) r := rep_cells hr fun z hz => hn z (by simp [hz])
  exact .st (fun i => nthD [[x0], [x1], [x2], r] i []) (fun i x hx => by
   match i, hx with
   | 0, rfl => exact .v (hn x0 (by simp))
   | 1, rfl => exact .v (hn x1 (by simp))
   | 2, rfl => exact .v (hn x2 (by simp))
   | 3, rfl => exact r1
   | _ + 4, hx => cases hx) (by simp [flat, nthD])
theorem ins_row {l : List Cl} {i : Nat} {c : Cl} (hi : i ≤ l.length) (k : Nat) (hk : k < l.length + 1) : insF i (clA c) (rowC l) k = rowC (insRow l i c) k := by
 unfold insF insRow
 show _ = clA (clAt _ k)
 rw [clAt_app, List.length_take, Nat.min_eq_left hi]
 by_cases h1 : k < i
 ·rw [if_pos h1, if_pos h1]
  show clA (clAt l k) = clA (clAt (l.take i) k)
  congr 1
  rw [clAt_lt (by omega), clAt_lt (by rw [List.length_take]; omega), List.getElem_take]
 ·rw [if_neg h1, if_neg h1]
  by_cases h2 : k = i
  ·rw [if_pos h2, h2, Nat.sub_self]; rfl
  ·rw [if_neg h2]
   show clA (clAt l (k - 1)) = _
   congr 1
   obtain ⟨m, rfl⟩ : ∃ m, k = i + 1 + m := ⟨k - (i + 1), by omega⟩
   rw [show i + 1 + m - i = m + 1 by omega]
   show _ = clAt (l.drop i) m
   rw [clAt_lt (by omega), clAt_lt (by rw [List.length_drop]; omega), List.getElem_drop]
   congr 1
   omega
set_option maxRecDepth 100000 in
theorem insC_fun (l : List Cl) (x : Cl) (i : Nat) (hi : i ≤ l.length) (hn : l.length < 2 ^ 36) : Fun C P F_insC [.sl 0 [] 0 l.length l.length false 35, i64 i, .sl 1 [] 0 1 1 true 35] [(0, .c (.arr l.length 35 (rowC l))), (1, .c (.arr 1 35 (fun _ => clA x)))]
  (slC 2 (insRow l i x)) [(2, .c (arC (insRow l i x)))] := by
 have hil : (insRow l i x).length = l.length + 1 := by unfold insRow; rw [List.length_append, List.length_cons, List.length_take, List.length_drop]; omega
 show Fun C P F_insC _ _ (.sl 2 [] 0 (insRow l i x).length (insRow l i x).length false 35) [(2, .c (.arr (insRow l i x).length 35 (rowC (insRow l i x))))]
 rw [hil]
 by_cases he : i = l.length
 ·subst he
  refine in_insC (W := w_insC) rfl 2 (by simp) rfl two_id fun D => ?_
  refine of_eq (insC_AE l x 2 _) ⟨(by first | omega | decide | (unfold I64; omega)), fun h => (absurd h (by decide)), fun _ => ⟨fun _ => ⟨(by first | omega | decide | (unfold I64; omega)), post_row2 rfl rfl rfl (Nat.le_refl _) (Nat.le_refl _) rfl fun k hk => ?_⟩, fun h => by simp at h⟩⟩
  exact (ins_end (rowC l) (clA x) hk).trans (ins_row (Nat.le_refl _) k hk)
 ·have hlt : i < l.length := by omega
  refine fun_caps mkC (fun w A xs h1 h2 => mkC_rep w A xs h1 h2) rfl rfl ⟨_, _, _, _, _, _, rfl⟩ fun rc sp hrc hsl hsp => ?_
  by_cases hroom : l.length + 1 ≤ rc
  ·let G : Nat → AV := fun j => if j < l.length then rowC l j else mkC (sp j)
   refine ⟨0, rc, lay (0 + i) (min 1 (l.length + 1 - i)) (lay (0 + (i + 1)) (min (l.length + 1 - i) (l.length + 1 - (i + 1))) G (fun j => G (0 + i + j))) (fun _ => clA x), hroom, fun k hk => (ins_room G (clA x) hlt hk).trans ((ins_cut _ _ _ hlt hk).trans (ins_row hi k hk)), ?_⟩
   refine in_insC (W := w_insC) rfl 2 (by simp) rfl two_id fun D => ?_
   refine of_eq (insC_AX l x rc i sp 2 _) ⟨(by first | omega | decide | (unfold I64; omega)), fun h => (absurd h (by decide)), fun _ => ⟨fun h => by simp at h; omega, fun _ => ⟨(by first | omega | decide | (unfold I64; omega)), fun h => by simp at h; omega, fun _ => ?_⟩⟩⟩
   refine ⟨(by first | omega | decide | (unfold I64; omega)), (by first | omega | decide | (unfold I64; omega)), (by first | omega | decide | (unfold I64; omega)), (by first | omega | decide | (unfold I64; omega)), ovl_fun, (by first | omega | decide | (unfold I64; omega)), (by first | omega | decide | (unfold I64; omega)), (by first | omega | decide | (unfold I64; omega)), fun _ _ => shp_ite2 (shp_ite (shpCC _ _) (shpMC _ _)) (shp_ite (shpCM _ _) (shpMM _ _)), (by first | omega | decide | (unfold I64; omega)), fun _ _ => shp_lay (shp_ite (shpCC _ _) (shpMC _ _)) (shp_ite (shpCC _ _) (shpMC _ _)), ?_⟩
   exact post_row20 rfl rfl rfl (Nat.le_refl _) hroom rfl fun k hk => rfl
  ·refine ⟨2, l.length + 1, insF i (clA x) (fun j => if j < l.length then rowC l j else mkC (sp j)), Nat.le_refl _, fun k hk => (ins_cut _ _ _ hlt hk).trans (ins_row hi k hk), ?_⟩
   refine in_insC (W := w_insC) rfl 2 (by simp) rfl two_id fun D => ?_
   refine of_eq (insC_AX l x rc i sp 2 _) ⟨(by first | omega | decide | (unfold I64; omega)), fun h => (absurd h (by decide)), fun _ => ⟨fun h => by simp at h; omega, fun _ => ⟨(by first | omega | decide | (unfold I64; omega)), fun _ => ?_, fun h => by simp at h; omega⟩⟩⟩
   refine ⟨(by first | omega | decide | (unfold I64; omega)), (by first | omega | decide | (unfold I64; omega)), (by first | omega | decide | (unfold I64; omega)), (by first | omega | decide | (unfold I64; omega)), (by first | omega | decide | (unfold I64; omega)), (by first | omega | decide | (unfold I64; omega)), (by first | omega | decide | (unfold I64; omega)), fun _ _ => shp_cat (shp_ite (shpCC _ _) (shpMC _ _)) (shpZC _), (by first | omega | decide | (unfold I64; omega)), (by first | omega | decide | (unfold I64; omega)), (by first | omega | decide | (unfold I64; omega)), fun _ _ => shp_ite2 (shp_lay (shp_cat (shp_ite (shpCC _ _) (shpMC _ _)) (shpZC _)) (shpCC _ _)) (shp_lay (shp_cat (shp_ite (shpCM _ _) (shpMM _ _)) (shpZM _)) (shpCM _ _)), ?_⟩
   refine post_row2 rfl rfl (show i + (((l.length + 1 : Nat) : Int) - (i : Int)).toNat = l.length + 1 by omega) (Nat.le_refl _) (show l.length + 1 ≤ i + (((l.length + 1 : Nat) : Int) - (i : Int)).toNat by omega) (show i + (((l.length + 1 : Nat) : Int) - (i : Int)).toNat = l.length + 1 by omega) fun k hk => ?_
   exact ins_grow (fun j => if j < l.length then rowC l j else mkC (sp j)) clZ (clA x) hlt (show k < l.length + 1 by omega) (show (((l.length + 1 : Nat) : Int) - (i : Int)).toNat = l.length + 1 - i by omega)
end Go.Bu.W
namespace Go.Bu.W
open Sp
def crBsR : List AV → List (Nat × Blk) → Option (AV × List (Nat × Blk))
 | [.sl 0 [] 0 n _ _ _, x, _], [(0, .c (.arr _ _ f))] => some (.tup [.i (plC (rowCls n f) (toCl x) : Nat), .sb (hsC (rowCls n f) (toCl x))], [(0, .c (.arr n 35 f))])
 | _, _ => none
def crYJ : List AV → List (Nat × Blk) → Option (AV × List (Nat × Blk))
 | [x], [(0, .c (.sl 1 [] 0 _ _ _ _)), (1, .c (.arr n _ f))] => some (.v (.bool true), [(0, .c (slC 2 (perf (rowCls n f) (toJb x)))), (2, .c (arC (perf (rowCls n f) (toJb x))))])
 | _, _ => none
def crDone (g : Nat) (args : List AV) : Option (AV × List (Nat × Blk)) :=
 sel (Nat.beq g 65) (some (.sb true, [])) <| sel (Nat.beq g 44) (match args with | [.v (.int _ i), .pd (.dat _ _ _ f)] => some (.sb (asB (f i.toNat)), []) | _ => none) none
def wayY (keep : List Nat) (nt : Nat) (cuts : List Nat) : Way := ⟨fun g args H => sel (Nat.beq g 1000000) (crYJ args H) (crDone g args), fun _ => false, keep, [], nt, cuts, [0, 4]⟩
def crJobs : List AV → Option (AV × List (Nat × Blk))
 | [x, y] => some (.fn (.func 70) [.ptr 0 [], .ptr 1 []], [(0, .c x), (1, .c y)])
 | _ => none
def doneF : AV → Nat → Bool
 | .fn _ [.pd x] => fun i => (bLs x).getD i false
 | _ => fun _ => true
def crPerform : List AV → Option (AV × List (Nat × Blk))
 | [x, .fn _ [.pd d, .pd f]] => (fun l => some (slC 0 l, [(0, .c (arC l))])) (prN (doneF f) (toCls x) (toDk d).q (toDk d).q.length)
 | _ => none
def crT3 (g : Nat) (args : List AV) (H : List (Nat × Blk)) : Option (AV × List (Nat × Blk)) :=
 sel (Nat.beq g F_jobs) (crJobs args) <| sel (Nat.beq g F_perform) (crPerform args) <| crT2 g args H
def byrefP (g : Nat) : Bool := Nat.beq g F_insC || Nat.beq g F_delf || Nat.beq g F_bsC
def crT2b (g : Nat) (args : List AV) (H : List (Nat × Blk)) : Option (AV × List (Nat × Blk)) := sel (Nat.beq g F_bsC) (crBsR args H) <| crT2 g args H
def wayV (keep : List Nat) (nt : Nat) (cuts : List Nat) : Way := ⟨crT2b, byrefP, keep, [], nt, cuts, []⟩
def w_jobs1 : Way := wayY [0, 1, 2, 4, 5, 7, 8, 9, 10, 22] 24 []
def w_jobs : Way := wayV [0, 1, 2, 3, 4] 6 []
def w_perform : Way := wayV [0, 1, 2, 4, 5, 6, 7, 10, 11, 13, 24] 37 []
abbrev memJ (p : Nat) (l : List Cl) : List (Nat × Blk) := [(0, .c (slC p l)), (p, .c (arC l))]
def I_jbC (d : AV) (l : Nat) (q : List Jb) (ey : Bool) (L : Nat → List Cl) (i : Nat) : St := { tm := [(0, ryld l), (1, .pd d), (2, .pd (.fn (.func 65) [])), (7, jsA ey q), (8, .i q.length), (9, .i i)], hp := memJ 4 (L i), seen := [0, 4] }
def I_jbS (d : AV) (l : Nat) (q : List Jb) (ey ez : Bool) (dn : List Bool) (L : Nat → List Cl) (i : Nat) : St := { tm := [(0, ryld l), (1, .pd d), (2, .pd (.fn (.func 44) [.pd (bA ez dn)])), (7, jsA ey q), (8, .i q.length), (9, .i i)], hp := memJ 4 (L i), seen := [0, 4] }
def tmPf (x y : AV) : List (Nat × AV) := [(2, .ptr 0 []), (10, .fn (.func 70) [.pd x, .pd y])]
def S_pfb (x y : AV) (l : List Cl) (j : Jb) : St := { tm := parTm [11] [jbA j] (tmIn (posIn (memJ 1 l) [0, 4]) (tmPf x y)), hp := memJ 1 l, seen := [0, 1] }
def S_pf1 (x y : AV) (l : List Cl) : St := { tm := [(2, .ptr 2 []), (10, .fn (.func 70) [.pd x, .pd y])], hp := [(2, .c (slC 9 l)), (9, .c (arC l))], seen := [2, 9] }
def S_pfr (l : List Cl) : St := { tm := [(2, .ptr 2 [])], hp := [(2, .c (slC 2000 l)), (2000, .c (arC l))], seen := [2, 2000] }
def I_bsR (l : List Cl) (c : Cl) (s : Nat × Nat) : St := { tm := [(0, slC 0 l), (2, .fn (.func 50) []), (4, .ptr 4 []), (8, .i l.length), (9, .i s.1), (10, .i s.2)], hp := [(0, .c (arC l)), (4, .c (clA c))], seen := [0, 4] }
theorem bsC_AR (l : List Cl) (c : Cl) {D : Dom} (K : Nat) (Φ : Ex → St → Prop) :
 (Holds C P 49 D K Φ (vc C w_bsC b_bsC [] (start [slC 0 l, clA c, .fn (.func 50) []] [(0, .c (arC l))]) lf)) =
 (LoopOK C P 49 D K (bodyAt b_bsC [1, 1, 1, 0, 0]) (St.mk [(0, (AV.sl 0 [] 0 (List.length l) (List.length l) false 35)), (1, (clA c)), (2, (AV.fn (Fn.func (50 : FuncId)) [])), (4, (AV.ptr 4 [])), (6, (AV.i (0 : Int))), (7, (AV.v (Value.bool false))), (8, (AV.i (((List.length l) : Nat) : Int))), (9, (AV.i (0 : Int))), (10, (AV.i (((List.length l) : Nat) : Int)))] [(0, (Blk.c (AV.arr (List.length l) 35 (rowC l)))), (4, (Blk.c (clA c)))] [4, 0]) (fun (e : Ex) (S' : St) => Holds C P 49 D K Φ (after C w_bsC b_bsC [1, 1, 1, 0, 0] [] lf e S'))) := by kernel_rfl
theorem bsC_L0R (l : List Cl) (c : Cl) (s : Nat × Nat) {D : Dom} (K : Nat) (Φ : Ex → St → Prop) :
 (Holds C P 49 D K (RoundQ C 49 D K (I_bsR l c) (fun s => s.1 ≤ s.2 ∧ s.2 ≤ l.length ∧ (∀ k, k < s.1 → cmpC (clAt l k) c < 0) ∧ ∀ k, s.2 ≤ k → k < l.length → 0 ≤ cmpC (clAt l k) c) (fun s => s.2 - s.1) ((fun s => s.2 - s.1) (s)) (rest_bsC_0 D K Φ)) (vc C w_bsC bd_bsC_0 [] ((I_bsR l c) (s)) lf)) =
 (((decide ((((Prod.fst s) : Nat) : Int) < (((Prod.snd s) : Nat) : Int))) = true →
 ((I64 ((((Prod.fst s) + (Prod.snd s)) : Nat) : Int)) ∧
 (((0 : Int) ≤ (1 : Int)) ∧
 ((I64 (bShr IntKind.u64 (IntKind.wrap IntKind.u64 ((((Prod.fst s) + (Prod.snd s)) : Nat) : Int)) (1 : Int))) ∧
 ((((0 : Int) ≤ (bShr IntKind.u64 (IntKind.wrap IntKind.u64 ((((Prod.fst s) + (Prod.snd s)) : Nat) : Int)) (1 : Int))) ∧ ((bShr IntKind.u64 (IntKind.wrap IntKind.u64 ((((Prod.fst s) + (Prod.snd s)) : Nat) : Int)) (1 : Int)) < (((List.length l) : Nat) : Int))) ∧
 (Fun C P (50 : FuncId) [(clA (clAt l (0 + (Int.toNat (bShr IntKind.u64 (IntKind.wrap IntKind.u64 ((((Prod.fst s) + (Prod.snd s)) : Nat) : Int)) (1 : Int)))))), (clA c)] [] (AV.i (cmpC (toCl (clA (clAt l (0 + (Int.toNat (bShr IntKind.u64 (IntKind.wrap IntKind.u64 ((((Prod.fst s) + (Prod.snd s)) : Nat) : Int)) (1 : Int))))))) (toCl (clA c)))) [] ∧
 (True ∧
 (((decide ((cmpC (toCl (clA (clAt l (0 + (Int.toNat (bShr IntKind.u64 (IntKind.wrap IntKind.u64 ((((Prod.fst s) + (Prod.snd s)) : Nat) : Int)) (1 : Int))))))) (toCl (clA c))) < (0 : Int))) = true →
 ((I64 ((bShr IntKind.u64 (IntKind.wrap IntKind.u64 ((((Prod.fst s) + (Prod.snd s)) : Nat) : Int)) (1 : Int)) + (1 : Int))) ∧
 ((RoundQ C 49 D K (I_bsR l c) (fun s => s.1 ≤ s.2 ∧ s.2 ≤ l.length ∧ (∀ k, k < s.1 → cmpC (clAt l k) c < 0) ∧ ∀ k, s.2 ≤ k → k < l.length → 0 ≤ cmpC (clAt l k) c) (fun s => s.2 - s.1) ((fun s => s.2 - s.1) (s)) (rest_bsC_0 D K Φ)) Ex.normal (St.mk [(0, (AV.sl 0 [] 0 (List.length l) (List.length l) false 35)), (2, (AV.fn (Fn.func (50 : FuncId)) [])), (4, (AV.ptr 4 [])), (8, (AV.i (((List.length l) : Nat) : Int))), (9, (AV.i ((bShr IntKind.u64 (IntKind.wrap IntKind.u64 ((((Prod.fst s) + (Prod.snd s)) : Nat) : Int)) (1 : Int)) + (1 : Int)))), (10, (AV.i (((Prod.snd s) : Nat) : Int))), (11, (AV.i (bShr IntKind.u64 (IntKind.wrap IntKind.u64 ((((Prod.fst s) + (Prod.snd s)) : Nat) : Int)) (1 : Int)))), (17, (AV.v (Value.bool true))), (31, (AV.v (Value.bool true)))] [(0, (Blk.c (AV.arr (List.length l) 35 (rowC l)))), (4, (Blk.c (clA c)))] [0, 4])))) ∧
 ((decide ((cmpC (toCl (clA (clAt l (0 + (Int.toNat (bShr IntKind.u64 (IntKind.wrap IntKind.u64 ((((Prod.fst s) + (Prod.snd s)) : Nat) : Int)) (1 : Int))))))) (toCl (clA c))) < (0 : Int))) = false →
 ((RoundQ C 49 D K (I_bsR l c) (fun s => s.1 ≤ s.2 ∧ s.2 ≤ l.length ∧ (∀ k, k < s.1 → cmpC (clAt l k) c < 0) ∧ ∀ k, s.2 ≤ k → k < l.length → 0 ≤ cmpC (clAt l k) c) (fun s => s.2 - s.1) ((fun s => s.2 - s.1) (s)) (rest_bsC_0 D K Φ)) Ex.normal (St.mk [(0, (AV.sl 0 [] 0 (List.length l) (List.length l) false 35)), (2, (AV.fn (Fn.func (50 : FuncId)) [])), (4, (AV.ptr 4 [])), (8, (AV.i (((List.length l) : Nat) : Int))), (9, (AV.i (((Prod.fst s) : Nat) : Int))), (10, (AV.i (bShr IntKind.u64 (IntKind.wrap IntKind.u64 ((((Prod.fst s) + (Prod.snd s)) : Nat) : Int)) (1 : Int)))), (11, (AV.i (bShr IntKind.u64 (IntKind.wrap IntKind.u64 ((((Prod.fst s) + (Prod.snd s)) : Nat) : Int)) (1 : Int)))), (17, (AV.v (Value.bool true))), (31, (AV.v (Value.bool false)))] [(0, (Blk.c (AV.arr (List.length l) 35 (rowC l)))), (4, (Blk.c (clA c)))] [0, 4]))))))))))) ∧
 ((decide ((((Prod.fst s) : Nat) : Int) < (((Prod.snd s) : Nat) : Int))) = false →
 (((decide ((((Prod.fst s) : Nat) : Int) < (((List.length l) : Nat) : Int))) = true →
 ((((0 : Int) ≤ (((Prod.fst s) : Nat) : Int)) ∧ ((((Prod.fst s) : Nat) : Int) < (((List.length l) : Nat) : Int))) ∧
 (Fun C P (50 : FuncId) [(clA (clAt l (0 + (Prod.fst s)))), (clA c)] [] (AV.i (cmpC (toCl (clA (clAt l (0 + (Prod.fst s))))) (toCl (clA c)))) [] ∧
 (True ∧
 (Φ Ex.ret (St.mk [(0, (AV.sl 0 [] 0 (List.length l) (List.length l) false 35)), (2, (AV.fn (Fn.func (50 : FuncId)) [])), (4, (AV.ptr 4 [])), (6, (AV.i (((Prod.fst s) : Nat) : Int))), (7, (AV.sb ((cmpC (toCl (clA (clAt l (0 + (Prod.fst s))))) (toCl (clA c))) == (0 : Int)))), (8, (AV.i (((List.length l) : Nat) : Int))), (9, (AV.i (((Prod.fst s) : Nat) : Int))), (10, (AV.i (((Prod.snd s) : Nat) : Int))), (17, (AV.v (Value.bool false)))] [(0, (Blk.c (AV.arr (List.length l) 35 (rowC l)))), (4, (Blk.c (clA c)))] [0, 4])))))) ∧
 ((decide ((((Prod.fst s) : Nat) : Int) < (((List.length l) : Nat) : Int))) = false →
 (Φ Ex.ret (St.mk [(0, (AV.sl 0 [] 0 (List.length l) (List.length l) false 35)), (2, (AV.fn (Fn.func (50 : FuncId)) [])), (4, (AV.ptr 4 [])), (6, (AV.i (((Prod.fst s) : Nat) : Int))), (7, (AV.v (Value.bool false))), (8, (AV.i (((List.length l) : Nat) : Int))), (9, (AV.i (((Prod.fst s) : Nat) : Int))), (10, (AV.i (((Prod.snd s) : Nat) : Int))), (17, (AV.v (Value.bool false)))] [(0, (Blk.c (AV.arr (List.length l) 35 (rowC l)))), (4, (Blk.c (clA c)))] [0, 4])))))) := by kernel_rfl
theorem jobs_A (ex ey : Bool) (d : Dk) (g : Nat) (cs : List AV) {D : Dom} (K : Nat) (Φ : Ex → St → Prop) :
 (Holds C P 6 D K Φ (vc C w_jobs b_jobs [] (start [dkA ex ey d, .fn (.func g) cs] []) lf)) =
 (Φ Ex.ret (St.mk [(0, (dkA ex ey d)), (1, (AV.fn (Fn.func g) cs)), (2, (AV.ptr 2 [])), (3, (AV.ptr 3 [])), (4, (AV.fn (Fn.func 70) [(AV.ptr 2 []), (AV.ptr 3 [])]))] [(2, (Blk.c (dkA ex ey d))), (3, (Blk.c (AV.fn (Fn.func g) cs)))] [3, 2])) := by kernel_rfl
theorem jobs1_AC (ex ey : Bool) (d : Dk) (l : Nat) (L0 : List Cl) {D : Dom} (K : Nat) (Φ : Ex → St → Prop) :
 (Holds C P 24 D K Φ (vc C w_jobs1 b_jobs1 [] (start [ryld l, .pd (dkA ex ey d), .pd (.fn (.func 65) [])] (memJ 1 L0)) lf)) =
 (LoopOK C P 24 D K (bodyAt b_jobs1 [1, 0]) (St.mk [(0, (AV.v (Value.func (Fn.yield l) #[] #[]))), (1, (AV.pd (dkA ex ey d))), (2, (AV.pd (AV.fn (Fn.func (65 : FuncId)) []))), (7, (jsA ey (Dk.q d))), (8, (AV.i (((List.length (Dk.q d)) : Nat) : Int))), (9, (AV.i (0 : Int)))] [(0, (Blk.c (AV.sl 1 [] 0 (List.length L0) (List.length L0) false 35))), (1, (Blk.c (AV.arr (List.length L0) 35 (rowC L0))))] [0, 1]) (fun (e : Ex) (S' : St) => Holds C P 24 D K Φ (after C w_jobs1 b_jobs1 [1, 0] [] lf e S'))) := by kernel_rfl
noncomputable abbrev bd_jobs1_0 : Code := bodyAt (b_jobs1) [1, 0]
theorem ok_jobs1_0 : codeOK bd_jobs1_0 = true := by kernel_rfl
noncomputable abbrev rest_jobs1_0 (D : Dom) (K : Nat) (Φ : Ex → St → Prop) : Ex → St → Prop := fun e S' => Holds C P 24 D K Φ (after C w_jobs1 (b_jobs1) [1, 0] [] lf e S')
theorem jobs1_L0 (d : AV) (l : Nat) (q : List Jb) (ey : Bool) (L : Nat → List Cl) (i : Nat) {D : Dom} (K : Nat) (Φ : Ex → St → Prop) :
 (Holds C P 24 D K (RoundQ C 24 D K (I_jbC d l q ey L) (fun i => i ≤ q.length) (fun i => q.length - i) ((fun i => q.length - i) (i)) (rest_jobs1_0 D K Φ)) (vc C w_jobs1 bd_jobs1_0 [] ((I_jbC d l q ey L) (i)) lf)) =
 (((decide (((i : Nat) : Int) < (((List.length q) : Nat) : Int))) = true →
 ((((0 : Int) ≤ ((i : Nat) : Int)) ∧ (((i : Nat) : Int) < (((List.length q) : Nat) : Int))) ∧
 ((((true = true) ∧ (true = true)) ∧ ((((true = true) ∧ (true = true)) ∧ (((true = true) ∧ (true = true)) ∧ (((true = true) ∧ (true = true)) ∧ (((32 = 32) ∧ ((1 = 1) ∧ (∀ (i1 : Nat), ((i1 < 32) → ((true = true) ∧ (true = true)))))) ∧ True)))) ∧ True)) ∧
 (Fun C P (65 : FuncId) [(AV.i ((i : Nat) : Int))] [] (AV.sb true) [] ∧
 (True ∧
 ((true = true →
 (YFun C P D [0, 4] l [(jbA (jbAt q i))] [(0, (Blk.c (AV.sl 1 [] 0 (List.length (L i)) (List.length (L i)) false 35))), (1, (Blk.c (AV.arr (List.length (L i)) 35 (rowC (L i)))))] (AV.v (Value.bool true)) [(0, (Blk.c (AV.sl 2 [] 0 (List.length (perf (rowCls (List.length (L i)) (rowC (L i))) (toJb (jbA (jbAt q i))))) (List.length (perf (rowCls (List.length (L i)) (rowC (L i))) (toJb (jbA (jbAt q i))))) false 35))), (2, (Blk.c (AV.arr (List.length (perf (rowCls (List.length (L i)) (rowC (L i))) (toJb (jbA (jbAt q i))))) 35 (rowC (perf (rowCls (List.length (L i)) (rowC (L i))) (toJb (jbA (jbAt q i))))))))] ∧
 ((I64 (((i + 1) : Nat) : Int)) ∧
 ((RoundQ C 24 D K (I_jbC d l q ey L) (fun i => i ≤ q.length) (fun i => q.length - i) ((fun i => q.length - i) (i)) (rest_jobs1_0 D K Φ)) Ex.normal (St.mk [(0, (AV.v (Value.func (Fn.yield l) #[] #[]))), (1, (AV.pd d)), (2, (AV.pd (AV.fn (Fn.func (65 : FuncId)) []))), (4, (AV.i ((i : Nat) : Int))), (5, (AV.ptr 5 [])), (7, (jsA ey q)), (8, (AV.i (((List.length q) : Nat) : Int))), (9, (AV.i (((i + 1) : Nat) : Int))), (10, (AV.v (Value.bool true))), (22, (AV.v (Value.bool false)))] [(0, (Blk.c (AV.sl 20 [] 0 (List.length (perf (rowCls (List.length (L i)) (rowC (L i))) (toJb (jbA (jbAt q i))))) (List.length (perf (rowCls (List.length (L i)) (rowC (L i))) (toJb (jbA (jbAt q i))))) false 35))), (5, (Blk.c (jbA (jbAt q i)))), (20, (Blk.c (AV.arr (List.length (perf (rowCls (List.length (L i)) (rowC (L i))) (toJb (jbA (jbAt q i))))) 35 (rowC (perf (rowCls (List.length (L i)) (rowC (L i))) (toJb (jbA (jbAt q i))))))))] [20, 5, 0, 4]))))) ∧
 (true = false →
 ((I64 (((i + 1) : Nat) : Int)) ∧
 ((RoundQ C 24 D K (I_jbC d l q ey L) (fun i => i ≤ q.length) (fun i => q.length - i) ((fun i => q.length - i) (i)) (rest_jobs1_0 D K Φ)) Ex.normal (St.mk [(0, (AV.v (Value.func (Fn.yield l) #[] #[]))), (1, (AV.pd d)), (2, (AV.pd (AV.fn (Fn.func (65 : FuncId)) []))), (4, (AV.i ((i : Nat) : Int))), (5, (AV.ptr 5 [])), (7, (jsA ey q)), (8, (AV.i (((List.length q) : Nat) : Int))), (9, (AV.i (((i + 1) : Nat) : Int))), (10, (AV.v (Value.bool true))), (22, (AV.v (Value.bool false)))] [(0, (Blk.c (AV.sl 4 [] 0 (List.length (L i)) (List.length (L i)) false 35))), (4, (Blk.c (AV.arr (List.length (L i)) 35 (rowC (L i))))), (5, (Blk.c (jbA (jbAt q i))))] [5, 0, 4])))))))))) ∧
 ((decide (((i : Nat) : Int) < (((List.length q) : Nat) : Int))) = false →
 (Φ Ex.normal (St.mk [(0, (AV.v (Value.func (Fn.yield l) #[] #[]))), (1, (AV.pd d)), (2, (AV.pd (AV.fn (Fn.func (65 : FuncId)) []))), (7, (jsA ey q)), (8, (AV.i (((List.length q) : Nat) : Int))), (9, (AV.i ((i : Nat) : Int))), (10, (AV.v (Value.bool false)))] [(0, (Blk.c (AV.sl 4 [] 0 (List.length (L i)) (List.length (L i)) false 35))), (4, (Blk.c (AV.arr (List.length (L i)) 35 (rowC (L i)))))] [0, 4])))) := by kernel_rfl
theorem jobs1_AS (ex ey ez : Bool) (dn : List Bool) (d : Dk) (l : Nat) (L0 : List Cl) {D : Dom} (K : Nat) (Φ : Ex → St → Prop) :
 (Holds C P 24 D K Φ (vc C w_jobs1 b_jobs1 [] (start [ryld l, .pd (dkA ex ey d), .pd (.fn (.func 44) [.pd (bA ez dn)])] (memJ 1 L0)) lf)) =
 (LoopOK C P 24 D K (bodyAt b_jobs1 [1, 0]) (St.mk [(0, (AV.v (Value.func (Fn.yield l) #[] #[]))), (1, (AV.pd (dkA ex ey d))), (2, (AV.pd (AV.fn (Fn.func (44 : FuncId)) [(AV.pd (AV.dat (List.length dn) ez 1 (fun (i : Nat) => (AV.sb (List.getD dn i false)))))]))), (7, (jsA ey (Dk.q d))), (8, (AV.i (((List.length (Dk.q d)) : Nat) : Int))), (9, (AV.i (0 : Int)))] [(0, (Blk.c (AV.sl 1 [] 0 (List.length L0) (List.length L0) false 35))), (1, (Blk.c (AV.arr (List.length L0) 35 (rowC L0))))] [0, 1]) (fun (e : Ex) (S' : St) => Holds C P 24 D K Φ (after C w_jobs1 b_jobs1 [1, 0] [] lf e S'))) := by kernel_rfl
theorem jobs1_L0S (d : AV) (l : Nat) (q : List Jb) (ey ez : Bool) (dn : List Bool) (L : Nat → List Cl) (i : Nat) {D : Dom} (K : Nat) (Φ : Ex → St → Prop) :
 (Holds C P 24 D K (RoundQ C 24 D K (I_jbS d l q ey ez dn L) (fun i => i ≤ q.length) (fun i => q.length - i) ((fun i => q.length - i) (i)) (rest_jobs1_0 D K Φ)) (vc C w_jobs1 bd_jobs1_0 [] ((I_jbS d l q ey ez dn L) (i)) lf)) =
 (((decide (((i : Nat) : Int) < (((List.length q) : Nat) : Int))) = true →
 ((((0 : Int) ≤ ((i : Nat) : Int)) ∧ (((i : Nat) : Int) < (((List.length q) : Nat) : Int))) ∧
 ((((true = true) ∧ (true = true)) ∧ ((((true = true) ∧ (true = true)) ∧ (((true = true) ∧ (true = true)) ∧ (((true = true) ∧ (true = true)) ∧ (((32 = 32) ∧ ((1 = 1) ∧ (∀ (i1 : Nat), ((i1 < 32) → ((true = true) ∧ (true = true)))))) ∧ True)))) ∧ True)) ∧
 (Fun C P (44 : FuncId) [(AV.i ((i : Nat) : Int)), (AV.pd (AV.dat (List.length dn) ez 1 (fun (i1 : Nat) => (AV.sb (List.getD dn i1 false)))))] [] (AV.sb (asB (AV.sb (List.getD dn i false)))) [] ∧
 (True ∧
 (((asB (AV.sb (List.getD dn i false))) = true →
 (YFun C P D [0, 4] l [(jbA (jbAt q i))] [(0, (Blk.c (AV.sl 1 [] 0 (List.length (L i)) (List.length (L i)) false 35))), (1, (Blk.c (AV.arr (List.length (L i)) 35 (rowC (L i)))))] (AV.v (Value.bool true)) [(0, (Blk.c (AV.sl 2 [] 0 (List.length (perf (rowCls (List.length (L i)) (rowC (L i))) (toJb (jbA (jbAt q i))))) (List.length (perf (rowCls (List.length (L i)) (rowC (L i))) (toJb (jbA (jbAt q i))))) false 35))), (2, (Blk.c (AV.arr (List.length (perf (rowCls (List.length (L i)) (rowC (L i))) (toJb (jbA (jbAt q i))))) 35 (rowC (perf (rowCls (List.length (L i)) (rowC (L i))) (toJb (jbA (jbAt q i))))))))] ∧
 ((I64 (((i + 1) : Nat) : Int)) ∧
 ((RoundQ C 24 D K (I_jbS d l q ey ez dn L) (fun i => i ≤ q.length) (fun i => q.length - i) ((fun i => q.length - i) (i)) (rest_jobs1_0 D K Φ)) Ex.normal (St.mk [(0, (AV.v (Value.func (Fn.yield l) #[] #[]))), (1, (AV.pd d)), (2, (AV.pd (AV.fn (Fn.func (44 : FuncId)) [(AV.pd (AV.dat (List.length dn) ez 1 (fun (i1 : Nat) => (AV.sb (List.getD dn i1 false)))))]))), (4, (AV.i ((i : Nat) : Int))), (5, (AV.ptr 5 [])), (7, (jsA ey q)), (8, (AV.i (((List.length q) : Nat) : Int))), (9, (AV.i (((i + 1) : Nat) : Int))), (10, (AV.v (Value.bool true))), (22, (AV.v (Value.bool false)))] [(0, (Blk.c (AV.sl 20 [] 0 (List.length (perf (rowCls (List.length (L i)) (rowC (L i))) (toJb (jbA (jbAt q i))))) (List.length (perf (rowCls (List.length (L i)) (rowC (L i))) (toJb (jbA (jbAt q i))))) false 35))), (5, (Blk.c (jbA (jbAt q i)))), (20, (Blk.c (AV.arr (List.length (perf (rowCls (List.length (L i)) (rowC (L i))) (toJb (jbA (jbAt q i))))) 35 (rowC (perf (rowCls (List.length (L i)) (rowC (L i))) (toJb (jbA (jbAt q i))))))))] [20, 5, 0, 4]))))) ∧
 ((asB (AV.sb (List.getD dn i false))) = false →
 ((I64 (((i + 1) : Nat) : Int)) ∧
 ((RoundQ C 24 D K (I_jbS d l q ey ez dn L) (fun i => i ≤ q.length) (fun i => q.length - i) ((fun i => q.length - i) (i)) (rest_jobs1_0 D K Φ)) Ex.normal (St.mk [(0, (AV.v (Value.func (Fn.yield l) #[] #[]))), (1, (AV.pd d)), (2, (AV.pd (AV.fn (Fn.func (44 : FuncId)) [(AV.pd (AV.dat (List.length dn) ez 1 (fun (i1 : Nat) => (AV.sb (List.getD dn i1 false)))))]))), (4, (AV.i ((i : Nat) : Int))), (5, (AV.ptr 5 [])), (7, (jsA ey q)), (8, (AV.i (((List.length q) : Nat) : Int))), (9, (AV.i (((i + 1) : Nat) : Int))), (10, (AV.v (Value.bool true))), (22, (AV.v (Value.bool false)))] [(0, (Blk.c (AV.sl 4 [] 0 (List.length (L i)) (List.length (L i)) false 35))), (4, (Blk.c (AV.arr (List.length (L i)) 35 (rowC (L i))))), (5, (Blk.c (jbA (jbAt q i))))] [5, 0, 4])))))))))) ∧
 ((decide (((i : Nat) : Int) < (((List.length q) : Nat) : Int))) = false →
 (Φ Ex.normal (St.mk [(0, (AV.v (Value.func (Fn.yield l) #[] #[]))), (1, (AV.pd d)), (2, (AV.pd (AV.fn (Fn.func (44 : FuncId)) [(AV.pd (AV.dat (List.length dn) ez 1 (fun (i1 : Nat) => (AV.sb (List.getD dn i1 false)))))]))), (7, (jsA ey q)), (8, (AV.i (((List.length q) : Nat) : Int))), (9, (AV.i ((i : Nat) : Int))), (10, (AV.v (Value.bool false)))] [(0, (Blk.c (AV.sl 4 [] 0 (List.length (L i)) (List.length (L i)) false 35))), (4, (Blk.c (AV.arr (List.length (L i)) 35 (rowC (L i)))))] [0, 4])))) := by kernel_rfl
theorem perform_A (ex : Bool) (l : List Cl) (x y : AV) {D : Dom} (K : Nat) (Φ : Ex → St → Prop) :
 (Holds C P 37 D K Φ (vc C w_perform b_perform [] (start [csA ex l, .fn (.func 70) [.pd x, .pd y]] []) lf)) =
 (Fun C P 66 [(csA ex l)] [] (AV.sl 0 [] 0 (List.length l) (List.length l) false 35) [(0, (Blk.c (AV.arr (List.length l) 35 (fun (i : Nat) => (clA (clAt l i))))))] ∧
 (RngOK C P 37 D K (stmtAt b_perform [1, 1, 0, 1, 0]) (St.mk [(0, (csA ex l)), (1, (AV.fn (Fn.func (70 : FuncId)) [(AV.pd x), (AV.pd y)])), (2, (AV.ptr 2 [])), (4, (AV.dat 0 true 0 (fun (x1 : Nat) => (AV.v (Value.tuple #[]))))), (10, (AV.fn (Fn.func (70 : FuncId)) [(AV.pd x), (AV.pd y)]))] [(2, (Blk.c (AV.sl 9 [] 0 (List.length l) (List.length l) false 35))), (9, (Blk.c (AV.arr (List.length l) 35 (fun (i : Nat) => (clA (clAt l i))))))] [9, 2]) (fun (e : Ex) (S' : St) => Holds C P 37 D K Φ (after C w_perform b_perform [1, 1, 0, 1, 0] [] lf e S')))) := by kernel_rfl
theorem perform_B0 (x y : AV) (l : List Cl) (j : Jb) {D : Dom} (K : Nat) (Φ : Ex → St → Prop) :
 (Holds C P 37 D K Φ (vc C w_perform asg_perform_0 [] (S_pfb x y l j) (nx fun S' => vc C w_perform rbd_perform_0 [] S' lf))) =
 ((((true = true) ∧ (true = true)) ∧ ((((true = true) ∧ (true = true)) ∧ (((true = true) ∧ (true = true)) ∧ (((true = true) ∧ (true = true)) ∧ (((32 = 32) ∧ ((1 = 1) ∧ (∀ (i : Nat), ((i < 32) → ((true = true) ∧ (true = true)))))) ∧ True)))) ∧ True)) ∧
 (((Jb.dr j) = true →
 (Fun C P 58 [(AV.sl 0 [] 0 (List.length l) (List.length l) false 35), (AV.fn (Fn.func 67) [(AV.ptr 1 [])])] [(0, (Blk.c (AV.arr (List.length l) 35 (rowC l)))), (1, (Blk.c (jbA j)))] (AV.sl 2 [] 0 (List.length (delL (hitP (toJb (jbA j))) (rowCls (List.length l) (rowC l)))) (List.length (delL (hitP (toJb (jbA j))) (rowCls (List.length l) (rowC l)))) false 35) [(2, (Blk.c (AV.arr (List.length (delL (hitP (toJb (jbA j))) (rowCls (List.length l) (rowC l)))) 35 (rowC (delL (hitP (toJb (jbA j))) (rowCls (List.length l) (rowC l)))))))] ∧
 (Φ Ex.normal (St.mk [(2, (AV.ptr 0 [])), (5, (AV.ptr 5 [])), (10, (AV.fn (Fn.func (70 : FuncId)) [(AV.pd x), (AV.pd y)])), (11, (jbA j)), (13, (AV.v (Value.bool true)))] [(0, (Blk.c (AV.sl 16 [] 0 (List.length (delL (hitP (toJb (jbA j))) (rowCls (List.length l) (rowC l)))) (List.length (delL (hitP (toJb (jbA j))) (rowCls (List.length l) (rowC l)))) false 35))), (16, (Blk.c (AV.arr (List.length (delL (hitP (toJb (jbA j))) (rowCls (List.length l) (rowC l)))) 35 (rowC (delL (hitP (toJb (jbA j))) (rowCls (List.length l) (rowC l)))))))] [16, 5, 0, 1])))) ∧
 ((Jb.dr j) = false →
 (Fun C P 68 [(AV.sl 0 [] 0 (List.length l) (List.length l) false 35), (clA (Jb.c j)), (AV.fn (Fn.func 50) [])] [(0, (Blk.c (AV.arr (List.length l) 35 (rowC l))))] (AV.tup [(AV.i (((plC (rowCls (List.length l) (rowC l)) (toCl (clA (Jb.c j)))) : Nat) : Int)), (AV.sb (hsC (rowCls (List.length l) (rowC l)) (toCl (clA (Jb.c j)))))]) [(0, (Blk.c (AV.arr (List.length l) 35 (rowC l))))] ∧
 (((hsC (rowCls (List.length l) (rowC l)) (toCl (clA (Jb.c j)))) = true →
 ((((0 : Int) ≤ (((plC (rowCls (List.length l) (rowC l)) (toCl (clA (Jb.c j)))) : Nat) : Int)) ∧ ((((plC (rowCls (List.length l) (rowC l)) (toCl (clA (Jb.c j)))) : Nat) : Int) < (((List.length l) : Nat) : Int))) ∧
 ((((true = true) ∧ (true = true)) ∧ (((true = true) ∧ (true = true)) ∧ (((true = true) ∧ (true = true)) ∧ (((32 = 32) ∧ ((1 = 1) ∧ (∀ (i : Nat), ((i < 32) → ((true = true) ∧ (true = true)))))) ∧ True)))) ∧
 (Φ Ex.normal (St.mk [(2, (AV.ptr 0 [])), (5, (AV.ptr 5 [])), (6, (AV.i (((plC (rowCls (List.length l) (rowC l)) (toCl (clA (Jb.c j)))) : Nat) : Int))), (7, (AV.sb (hsC (rowCls (List.length l) (rowC l)) (toCl (clA (Jb.c j)))))), (10, (AV.fn (Fn.func (70 : FuncId)) [(AV.pd x), (AV.pd y)])), (11, (jbA j)), (13, (AV.v (Value.bool false))), (24, (AV.v (Value.bool true)))] [(0, (Blk.c (AV.sl 1 [] 0 (List.length l) (List.length l) false 35))), (1, (Blk.c (AV.arr (List.length l) 35 (fun (j1 : Nat) => (if (j1 = (0 + (plC (rowCls (List.length l) (rowC l)) (toCl (clA (Jb.c j)))))) then (clA (Jb.c j)) else (clA (clAt l j1))))))), (5, (Blk.c (jbA j)))] [5, 0, 1]))))) ∧
 ((hsC (rowCls (List.length l) (rowC l)) (toCl (clA (Jb.c j)))) = false →
 (Fun C P 69 [(AV.sl 0 [] 0 (List.length l) (List.length l) false 35), (AV.i (((plC (rowCls (List.length l) (rowC l)) (toCl (clA (Jb.c j)))) : Nat) : Int)), (AV.sl 1 [] 0 1 1 true 35)] [(0, (Blk.c (AV.arr (List.length l) 35 (rowC l)))), (1, (Blk.c (AV.st [(clA (Jb.c j))])))] (AV.sl 2 [] 0 (List.length (insRow (rowCls (List.length l) (rowC l)) (Int.toNat (((plC (rowCls (List.length l) (rowC l)) (toCl (clA (Jb.c j)))) : Nat) : Int)) (toCl (clA (Jb.c j))))) (List.length (insRow (rowCls (List.length l) (rowC l)) (Int.toNat (((plC (rowCls (List.length l) (rowC l)) (toCl (clA (Jb.c j)))) : Nat) : Int)) (toCl (clA (Jb.c j))))) false 35) [(2, (Blk.c (AV.arr (List.length (insRow (rowCls (List.length l) (rowC l)) (Int.toNat (((plC (rowCls (List.length l) (rowC l)) (toCl (clA (Jb.c j)))) : Nat) : Int)) (toCl (clA (Jb.c j))))) 35 (rowC (insRow (rowCls (List.length l) (rowC l)) (Int.toNat (((plC (rowCls (List.length l) (rowC l)) (toCl (clA (Jb.c j)))) : Nat) : Int)) (toCl (clA (Jb.c j))))))))] ∧
 (Φ Ex.normal (St.mk [(2, (AV.ptr 0 [])), (5, (AV.ptr 5 [])), (6, (AV.i (((plC (rowCls (List.length l) (rowC l)) (toCl (clA (Jb.c j)))) : Nat) : Int))), (7, (AV.sb (hsC (rowCls (List.length l) (rowC l)) (toCl (clA (Jb.c j)))))), (10, (AV.fn (Fn.func (70 : FuncId)) [(AV.pd x), (AV.pd y)])), (11, (jbA j)), (13, (AV.v (Value.bool false))), (24, (AV.v (Value.bool false)))] [(0, (Blk.c (AV.sl 35 [] 0 (List.length (insRow (rowCls (List.length l) (rowC l)) (Int.toNat (((plC (rowCls (List.length l) (rowC l)) (toCl (clA (Jb.c j)))) : Nat) : Int)) (toCl (clA (Jb.c j))))) (List.length (insRow (rowCls (List.length l) (rowC l)) (Int.toNat (((plC (rowCls (List.length l) (rowC l)) (toCl (clA (Jb.c j)))) : Nat) : Int)) (toCl (clA (Jb.c j))))) false 35))), (5, (Blk.c (jbA j))), (35, (Blk.c (AV.arr (List.length (insRow (rowCls (List.length l) (rowC l)) (Int.toNat (((plC (rowCls (List.length l) (rowC l)) (toCl (clA (Jb.c j)))) : Nat) : Int)) (toCl (clA (Jb.c j))))) 35 (rowC (insRow (rowCls (List.length l) (rowC l)) (Int.toNat (((plC (rowCls (List.length l) (rowC l)) (toCl (clA (Jb.c j)))) : Nat) : Int)) (toCl (clA (Jb.c j))))))))] [35, 34, 5, 0, 1]))))))))) := by kernel_rfl
theorem perform_R0 (l : List Cl) {D : Dom} (K : Nat) (Φ : Ex → St → Prop) :
 (Holds C P 37 D K Φ (after C w_perform b_perform [1, 1, 0, 1, 0] [] lf .normal (S_pfr l))) =
 (Φ Ex.ret (St.mk [(2, (AV.ptr 2 [])), (4, (AV.sl 2000 [] 0 (List.length l) (List.length l) false 35))] [(2, (Blk.c (AV.sl 2000 [] 0 (List.length l) (List.length l) false 35))), (2000, (Blk.c (AV.arr (List.length l) 35 (rowC l))))] [2, 2000])) := by kernel_rfl
theorem rowCls_A (l : List Cl) : rowCls l.length (rowC l) = l := toCls_A false l
theorem bsR_fun (l : List Cl) (c : Cl) (hn : l.length < 2 ^ 60) (so : SoC l) : Fun C P F_bsC [slC 0 l, clA c, .fn (.func 50) []] [(0, .c (arC l))] (.tup [.i (plC l c : Nat), .sb (hsC l c)]) [(0, .c (arC l))] := by
 refine in_bsC (W := w_bsC) rfl 1 (by simp) rfl one_id fun D => ?_
 refine of_eq (bsC_AR l c 1 _) ?_
 refine loop_inv (W := w_bsC) ctx mixed ok_bsC_0 (I_bsR l c) (fun s => s.1 ≤ s.2 ∧ s.2 ≤ l.length ∧ (∀ k, k < s.1 → cmpC (clAt l k) c < 0) ∧ ∀ k, s.2 ≤ k → k < l.length → 0 ≤ cmpC (clAt l k) c) (fun s => s.2 - s.1) (0, l.length) ⟨Nat.zero_le _, Nat.le_refl _, fun k hk => by omega, fun k h1 h2 => by omega⟩ ?_ fun s hs => ?_
 ·exact ent_of [(0, 0), (4, 4)] rfl (tm_cons rfl (sm_sl rfl rfl (Nat.le_refl _) (Nat.le_refl _) (fun h => ⟨h, rfl⟩)) (tm_cons rfl (sm_same rfl) (tm_cons rfl (sm_ptr rfl) (tm_cons rfl (sm_same rfl) (tm_cons rfl (sm_same rfl) (tm_cons rfl (sm_same rfl) tm_nil)))))) (hp_cons rfl rfl (sm_same rfl) (hp_cons rfl rfl (sm_same rfl) hp_nil))
 obtain ⟨i, j⟩ := s
 obtain ⟨h1, h2, h3, h4⟩ := hs
 dsimp only at h1 h2 h3 h4
 refine of_eq (bsC_L0R l c (i, j) 1 _) ?_
 dsimp only
 rw [half (i + j) (by omega)]
 have fin : ∀ {S : St}, S.tm = S.tm → (∀ {D : Dom}, Ent C 49 D 1 S { tm := [(6, .i (plC l c : Nat)), (7, .sb (hsC l c))], hp := [(0, .c (arC l))], seen := [0, 4] }) → FunPost C 49 1 [.tmp 6, .tmp 7] (.tup [.i (plC l c : Nat), .sb (hsC l c)]) [(0, .c (arC l))] .ret S := fun _ he =>
  funPost_of (by simp) he (r' := .tup [.i (plC l c : Nat), .sb (hsC l c)]) rfl (sm_same rfl) fun _ _ h => h
 refine ⟨fun h => ?_, fun h => ?_⟩
 ·simp only [decide_eq_true_eq] at h
  have hlt : i < j := by omega
  obtain ⟨m, hm'⟩ : ∃ m, m = (i + j) / 2 := ⟨_, rfl⟩
  rw [← hm', Int.toNat_natCast, toCl_A, toCl_A, Nat.zero_add]
  have hmono : ∀ a b, a < b → b < l.length → cmpC (clAt l b) c < 0 → cmpC (clAt l a) c < 0 := fun a b hab hb hc => by
   rw [cmpC_neg] at hc ⊢
   exact lt_trans (so_at so hab hb) hc
  refine ⟨(by first | omega | decide | (unfold I64; omega)), (by first | omega | decide | (unfold I64; omega)), (by first | omega | decide | (unfold I64; omega)), (by first | omega | decide | (unfold I64; omega)), compare_fun (clAt l m) c, trivial, fun h5 => ⟨(by first | omega | decide | (unfold I64; omega)), ?_⟩, fun h5 => ?_⟩
  ·have h5 : cmpC (clAt l m) c < 0 := of_decide_eq_true h5
   exact round_end (m + 1, j) ⟨by dsimp only; omega, h2, fun k hk => by
    dsimp only at hk
    by_cases e : k = m
    ·rw [e]; exact h5
    ·exact hmono k m (by omega) (by omega) h5, h4⟩ (ent_of [(0, 0), (4, 4)] rfl (tm_cons rfl (sm_sl rfl rfl (Nat.le_refl _) (Nat.le_refl _) (fun h => ⟨h, rfl⟩)) (tm_cons rfl (sm_same rfl) (tm_cons rfl (sm_ptr rfl) (tm_cons rfl (sm_same rfl) (tm_cons rfl (sm_same rfl) (tm_cons rfl (sm_same rfl) tm_nil)))))) (hp_cons rfl rfl (sm_same rfl) (hp_cons rfl rfl (sm_same rfl) hp_nil))) (by dsimp only; omega)
  ·have h5 : ¬ cmpC (clAt l m) c < 0 := of_decide_eq_false h5
   exact round_end (i, m) ⟨by dsimp only; omega, by dsimp only; omega, h3, fun k hk hkl => by
    dsimp only at hk
    by_cases e : k = m
    ·rw [e]; omega
    ·by_cases hc : cmpC (clAt l k) c < 0
     ·exact absurd (hmono m k (by omega) hkl hc) h5
     ·omega⟩ (ent_of [(0, 0), (4, 4)] rfl (tm_cons rfl (sm_sl rfl rfl (Nat.le_refl _) (Nat.le_refl _) (fun h => ⟨h, rfl⟩)) (tm_cons rfl (sm_same rfl) (tm_cons rfl (sm_ptr rfl) (tm_cons rfl (sm_same rfl) (tm_cons rfl (sm_same rfl) (tm_cons rfl (sm_same rfl) tm_nil)))))) (hp_cons rfl rfl (sm_same rfl) (hp_cons rfl rfl (sm_same rfl) hp_nil))) (by dsimp only; omega)
 ·simp only [decide_eq_false_iff_not] at h
  obtain rfl : j = i := by omega
  have hI : plC l c = j := pl_at h2 h3 h4
  rw [toCl_A, toCl_A, Nat.zero_add]
  refine ⟨fun h5 => ⟨by simp only [decide_eq_true_eq] at h5; omega, compare_fun (clAt l j) c, trivial, ?_⟩, fun h5 => ?_⟩
  ·simp only [decide_eq_true_eq] at h5
   have e2 := hs_at so (by omega) h3 (h4 j (Nat.le_refl _) (by omega))
   exact fin rfl (ent_of [(0, 0)] rfl (tm_cons rfl (sm_int (by omega)) (tm_cons rfl (sm_sb e2.symm) tm_nil)) (hp_cons rfl rfl (sm_same rfl) hp_nil))
  ·simp only [decide_eq_false_iff_not] at h5
   have e2 := hs_none (l := l) (c := c) fun k hk => h3 k (by omega)
   exact fin rfl (ent_of [(0, 0)] rfl (tm_cons rfl (sm_int (by omega)) (tm_cons rfl (by rw [e2]; exact sm_b rfl) tm_nil)) (hp_cons rfl rfl (sm_same rfl) hp_nil))
theorem jobs_fun (ex ey : Bool) (d : Dk) (g : Nat) (cs : List AV) (hc : AV.noid.noids cs = true) : Fun C P F_jobs [dkA ex ey d, .fn (.func g) cs] [] (.fn (.func 70) [.ptr 0 [], .ptr 1 []]) [(0, .c (dkA ex ey d)), (1, .c (.fn (.func g) cs))] := by
 refine in_jobs (W := w_jobs) rfl 0 (by simp) rfl (fun id h => absurd rfl h) fun D => ?_
 refine of_eq (jobs_A ex ey d g cs 0 _) ?_
 exact funPost_of (r' := .fn (.func 70) [.ptr 0 [], .ptr 1 []]) (S2 := { tm := [(4, .fn (.func 70) [.ptr 0 [], .ptr 1 []])], hp := [(0, .c (dkA ex ey d)), (1, .c (.fn (.func g) cs))], seen := [0, 1] }) (by simp)
  (ent_of [(2, 0), (3, 1)] rfl (tm_cons rfl (sm_fn (sms_cons (sm_ptr rfl) (sms_cons (sm_ptr rfl) sms_nil))) tm_nil) (hp_cons rfl rfl (sm_same rfl) (hp_cons rfl rfl (sm_same hc) hp_nil))) rfl (sm_fn (sms_cons (sm_ptr rfl) (sms_cons (sm_ptr rfl) sms_nil))) fun _ _ h => h
theorem memJ_id {a b : List Cl} (id : Nat) (h : look (memJ 1 a) id ≠ none) {p : Nat} (hp : p ≠ 1) (h2 : look (memJ p b) id ≠ none) : id < 1 := by
 refine Classical.byContradiction fun hc => ?_
 by_cases e : id = 1
 ·subst e
  apply h2; unfold memJ
  simp only [look, beq_false hp]
 ·apply h; unfold memJ
  simp only [look, beq_false (show (0 : Nat) ≠ id by omega), beq_false (show (1 : Nat) ≠ id by omega)]
theorem perf_del {l : List Cl} {j : Jb} (hd : j.dr = true) : perf l j = delL (hitP j) l := by
 unfold perf delL
 rw [if_pos hd]
 congr 1
 funext a
 unfold hitP
 by_cases h : a.i = j.c.i <;> simp [h]
theorem pfb (x y : AV) {la : Nat} {q : Loop} (hq : RecOf 37 #[11] asg_perform_0 rbd_perform_0 q) (n : Nat) (l : List Cl) (j : Jb) (so : SoC l) (hn : l.length < 2 ^ 36) :
  YFun C P (domR n (tmPf x y) la q) [0, 4] la [jbA j] (memJ 1 l) (.v (.bool true)) (memJ 2 (perf l j)) := by
 refine body_ok ctx mixed (W := w_perform) (k := 1) (p1 := []) (p2 := []) hq oka_perform_0 okr_perform_0 rfl (fun p hp => ?_) (fun id h h2 => memJ_id id h (by decide) h2) rfl fun m => ?_
 ·simp at hp; rw [hp]; exact (by decide)
 have hA := perform_B0 x y l j (D := { base := m, round := some la }) 1 (fun e S' => e = .normal ∧ ∃ S2, (∀ {D : Dom}, Ent C 37 D 1 S' S2) ∧ ∀ id b, look (memJ 2 (perf l j)) id = some b → look S2.hp id = some b)
 refine of_eq hA ?_
 rw [rowCls_A, toCl_A, toJb_A]
 refine ⟨⟨⟨rfl, rfl⟩, TC4, trivial⟩, fun h => ?_, fun h => ?_⟩
 ·rw [perf_del h]
  exact ⟨delf_fun l j (by omega), rfl, { tm := [], hp := memJ 2 (delL (hitP j) l), seen := [0, 2] }, ent_of [(0, 0), (16, 2)] rfl tm_nil (hp_cons rfl rfl (sm_sl rfl rfl (Nat.le_refl _) (Nat.le_refl _) (fun h => ⟨h, rfl⟩)) (hp_cons rfl rfl (sm_same rfl) hp_nil)), fun _ _ h => h⟩
 ·obtain ⟨dr, c⟩ := j
  dsimp only at h
  subst h
  refine ⟨bsR_fun l c (by omega) so, fun h2 => ?_, fun h2 => ?_⟩
  ·have h2 : hsC l c = true := h2
   obtain ⟨e1, e2⟩ := perf_set so h2
   have hl : (perf l ⟨false, c⟩).length = l.length := by rw [e2, List.length_append, List.length_cons, List.length_take, List.length_drop]; omega
   refine ⟨⟨by omega, by show ((plC l c : Nat) : Int) < _; omega⟩, TC4, rfl, { tm := [], hp := memJ 2 (perf l ⟨false, c⟩), seen := [0, 2] }, ent_of [(0, 0), (1, 2)] rfl tm_nil (hp_cons rfl rfl (sm_sl rfl hl.symm (by omega) (by omega) (by simp)) (hp_cons rfl rfl (sm_arr' hl.symm fun k hk => ?_) hp_nil)), fun _ _ h => h⟩
   show (if k = 0 + plC l c then clA c else clA (clAt l k)) = clA (clAt (perf l ⟨false, c⟩) k)
   rw [e2, clAt_app, List.length_take, Nat.min_eq_left (by omega), Nat.zero_add]
   by_cases h3 : k = plC l c
   ·rw [if_pos h3, if_neg (by omega), h3, Nat.sub_self]; rfl
   ·rw [if_neg h3]
    congr 1
    by_cases h4 : k < plC l c
    ·rw [if_pos h4, clAt_lt hk, clAt_lt (by rw [List.length_take]; omega), List.getElem_take]
    ·rw [if_neg h4]
     obtain ⟨m, rfl⟩ : ∃ m, k = plC l c + 1 + m := ⟨k - (plC l c + 1), by omega⟩
     rw [show plC l c + 1 + m - plC l c = m + 1 by omega]
     show _ = clAt (l.drop (plC l c + 1)) m
     rw [clAt_lt hk, clAt_lt (by rw [List.length_drop]; omega), List.getElem_drop]
  ·have h2 : hsC l c = false := h2
   have e2 := perf_ins so h2
   have hle : plC l c ≤ l.length := List.length_filter_le _ _
   have hi := insC_fun l c (plC l c) hle (by omega)
   refine ⟨?_, ?_⟩
   ·rw [Int.toNat_natCast]
    exact hi.sim ⟨sm_sl rfl rfl (Nat.le_refl _) (Nat.le_refl _) (by simp), sm_int rfl, sm_sl rfl rfl (Nat.le_refl _) (Nat.le_refl _) (fun h => ⟨h, rfl⟩), trivial⟩ ⟨rfl, sm_same rfl, rfl, sm_row rfl rfl rfl (fun i x hx => by match i, hx with | 0, rfl => rfl | _ + 1, hx => cases hx), trivial⟩
   ·rw [Int.toNat_natCast, e2]
    exact ⟨rfl, { tm := [], hp := memJ 2 (insRow l (plC l c) c), seen := [0, 2] }, ent_of [(0, 0), (35, 2)] rfl tm_nil (hp_cons rfl rfl (sm_sl rfl rfl (Nat.le_refl _) (Nat.le_refl _) (fun h => ⟨h, rfl⟩)) (hp_cons rfl rfl (sm_same rfl) hp_nil)), fun _ _ h => h⟩
theorem jobs1_itC (ex ey : Bool) (d : Dk) (hn : d.q.length < 2 ^ 60) (L : Nat → List Cl) (hL : ∀ i, L (i + 1) = if (fun _ => true) i = true then perf (L i) (jbAt d.q i) else L i) {tm : List (Nat × AV)} {l : Nat} {q : Loop} (htd : distinct (keysOf tm) = true) (hfx : tmIn (under 1) tm = tm)
  (hY : ∀ n i, i < d.q.length → YFun C P (domR n tm l q) [0, 4] l [jbA (jbAt d.q i)] (memJ 1 (L i)) (.v (.bool true)) (memJ 2 (perf (L i) (jbAt d.q i)))) :
  FunE C P (extOf tm q.tmps) (some (l, q)) 1 F_jobs1 [ryld l, .pd (dkA ex ey d), .pd (.fn (.func 65) [])] (memJ 1 (L 0)) (.tup []) (memJ 4 (L d.q.length)) := by
 refine inE_jobs1 (W := w_jobs1) rfl 1 (by simp) rfl htd hfx fun n => ?_
 refine of_eq (jobs1_AC ex ey d l (L 0) 1 _) ?_
 refine loop_inv (W := w_jobs1) ctx mixed ok_jobs1_0 (I_jbC (dkA ex ey d) l d.q ey L) (fun i => i ≤ d.q.length) (fun i => d.q.length - i) 0 (Nat.zero_le _) ?_ fun i hi => ?_
 ·exact ent_of [(0, 0), (1, 4)] rfl (tm_cons rfl (sm_same rfl) (tm_cons rfl (sm_same rfl) (tm_cons rfl (sm_same rfl) (tm_cons rfl (sm_same rfl) (tm_cons rfl (sm_same rfl) (tm_cons rfl (sm_same rfl) tm_nil)))))) (hp_cons rfl rfl (sm_sl rfl rfl (Nat.le_refl _) (Nat.le_refl _) (fun h => ⟨h, rfl⟩)) (hp_cons rfl rfl (sm_same rfl) hp_nil))
 refine of_eq (jobs1_L0 (dkA ex ey d) l d.q ey L i 1 _) ⟨fun h => ?_, fun h => ?_⟩
 ·simp only [decide_eq_true_eq] at h
  rw [rowCls_A, toJb_A]
  have e := hL i
  refine ⟨(by first | omega | decide | (unfold I64; omega)), ⟨⟨rfl, rfl⟩, TC4, trivial⟩, cont1_fun _, trivial, fun h2 => ⟨hY n i (by omega), (by first | omega | decide | (unfold I64; omega)), round_end (i + 1) (by omega) ?_ (by dsimp only; omega)⟩, fun h2 => ?_⟩
  ·unfold I_jbC
   rw [e, if_pos rfl]
   exact ent_of [(0, 0), (20, 4)] rfl (tm_cons rfl (sm_same rfl) (tm_cons rfl (sm_same rfl) (tm_cons rfl (sm_same rfl) (tm_cons rfl (sm_same rfl) (tm_cons rfl (sm_same rfl) (tm_cons rfl (sm_same rfl) tm_nil)))))) (hp_cons rfl rfl (sm_sl rfl rfl (Nat.le_refl _) (Nat.le_refl _) (fun h => ⟨h, rfl⟩)) (hp_cons rfl rfl (sm_same rfl) hp_nil))
  ·refine ⟨(by first | omega | decide | (unfold I64; omega)), round_end (i + 1) (by omega) ?_ (by dsimp only; omega)⟩
   unfold I_jbC
   rw [e, if_neg (by cases h2)]
   exact ent_of [(0, 0), (4, 4)] rfl (tm_cons rfl (sm_same rfl) (tm_cons rfl (sm_same rfl) (tm_cons rfl (sm_same rfl) (tm_cons rfl (sm_same rfl) (tm_cons rfl (sm_same rfl) (tm_cons rfl (sm_same rfl) tm_nil)))))) (hp_cons rfl rfl (sm_sl rfl rfl (Nat.le_refl _) (Nat.le_refl _) (fun h => ⟨h, rfl⟩)) (hp_cons rfl rfl (sm_same rfl) hp_nil))
 ·simp only [decide_eq_false_iff_not] at h
  obtain rfl : i = d.q.length := by omega
  exact funPost_of (S2 := { tm := [], hp := memJ 4 (L d.q.length), seen := [0, 4] }) (by simp) (ent_of [(0, 0), (4, 4)] rfl tm_nil (hp_cons rfl rfl (sm_sl rfl rfl (Nat.le_refl _) (Nat.le_refl _) (fun h => ⟨h, rfl⟩)) (hp_cons rfl rfl (sm_same rfl) hp_nil))) rfl (.inl ⟨rfl, rfl⟩) fun _ _ h => h
theorem jobs1_itS (ex ey : Bool) (ez : Bool) (dn : List Bool) (d : Dk) (hn : d.q.length < 2 ^ 60) (L : Nat → List Cl) (hL : ∀ i, L (i + 1) = if (fun i => dn.getD i false) i = true then perf (L i) (jbAt d.q i) else L i) {tm : List (Nat × AV)} {l : Nat} {q : Loop} (htd : distinct (keysOf tm) = true) (hfx : tmIn (under 1) tm = tm)
  (hY : ∀ n i, i < d.q.length → YFun C P (domR n tm l q) [0, 4] l [jbA (jbAt d.q i)] (memJ 1 (L i)) (.v (.bool true)) (memJ 2 (perf (L i) (jbAt d.q i)))) :
  FunE C P (extOf tm q.tmps) (some (l, q)) 1 F_jobs1 [ryld l, .pd (dkA ex ey d), .pd (.fn (.func 44) [.pd (bA ez dn)])] (memJ 1 (L 0)) (.tup []) (memJ 4 (L d.q.length)) := by
 refine inE_jobs1 (W := w_jobs1) rfl 1 (by simp) rfl htd hfx fun n => ?_
 refine of_eq (jobs1_AS ex ey ez dn d l (L 0) 1 _) ?_
 refine loop_inv (W := w_jobs1) ctx mixed ok_jobs1_0 (I_jbS (dkA ex ey d) l d.q ey ez dn L) (fun i => i ≤ d.q.length) (fun i => d.q.length - i) 0 (Nat.zero_le _) ?_ fun i hi => ?_
 ·exact ent_of [(0, 0), (1, 4)] rfl (tm_cons rfl (sm_same rfl) (tm_cons rfl (sm_same rfl) (tm_cons rfl (sm_same rfl) (tm_cons rfl (sm_same rfl) (tm_cons rfl (sm_same rfl) (tm_cons rfl (sm_same rfl) tm_nil)))))) (hp_cons rfl rfl (sm_sl rfl rfl (Nat.le_refl _) (Nat.le_refl _) (fun h => ⟨h, rfl⟩)) (hp_cons rfl rfl (sm_same rfl) hp_nil))
 refine of_eq (jobs1_L0S (dkA ex ey d) l d.q ey ez dn L i 1 _) ⟨fun h => ?_, fun h => ?_⟩
 ·simp only [decide_eq_true_eq] at h
  rw [rowCls_A, toJb_A]
  have e := hL i
  refine ⟨(by first | omega | decide | (unfold I64; omega)), ⟨⟨rfl, rfl⟩, TC4, trivial⟩, crash1_fun i ez dn, trivial, fun h2 => ⟨hY n i (by omega), (by first | omega | decide | (unfold I64; omega)), round_end (i + 1) (by omega) ?_ (by dsimp only; omega)⟩, fun h2 => ?_⟩
  ·unfold I_jbS
   rw [e, if_pos (show (fun i => dn.getD i false) i = true from h2)]
   exact ent_of [(0, 0), (20, 4)] rfl (tm_cons rfl (sm_same rfl) (tm_cons rfl (sm_same rfl) (tm_cons rfl (sm_same rfl) (tm_cons rfl (sm_same rfl) (tm_cons rfl (sm_same rfl) (tm_cons rfl (sm_same rfl) tm_nil)))))) (hp_cons rfl rfl (sm_sl rfl rfl (Nat.le_refl _) (Nat.le_refl _) (fun h => ⟨h, rfl⟩)) (hp_cons rfl rfl (sm_same rfl) hp_nil))
  ·refine ⟨(by first | omega | decide | (unfold I64; omega)), round_end (i + 1) (by omega) ?_ (by dsimp only; omega)⟩
   unfold I_jbS
   rw [e, if_neg (show ¬ (fun i => dn.getD i false) i = true from fun hh => tf_no hh h2)]
   exact ent_of [(0, 0), (4, 4)] rfl (tm_cons rfl (sm_same rfl) (tm_cons rfl (sm_same rfl) (tm_cons rfl (sm_same rfl) (tm_cons rfl (sm_same rfl) (tm_cons rfl (sm_same rfl) (tm_cons rfl (sm_same rfl) tm_nil)))))) (hp_cons rfl rfl (sm_sl rfl rfl (Nat.le_refl _) (Nat.le_refl _) (fun h => ⟨h, rfl⟩)) (hp_cons rfl rfl (sm_same rfl) hp_nil))
 ·simp only [decide_eq_false_iff_not] at h
  obtain rfl : i = d.q.length := by omega
  exact funPost_of (S2 := { tm := [], hp := memJ 4 (L d.q.length), seen := [0, 4] }) (by simp) (ent_of [(0, 0), (4, 4)] rfl tm_nil (hp_cons rfl rfl (sm_sl rfl rfl (Nat.le_refl _) (Nat.le_refl _) (fun h => ⟨h, rfl⟩)) (hp_cons rfl rfl (sm_same rfl) hp_nil))) rfl (.inl ⟨rfl, rfl⟩) fun _ _ h => h
theorem perform_gen (ex : Bool) (l l' : List Cl) (x y : AV) (hn : l.length < 2 ^ 38) (hit : ∀ la q, RecOf 37 #[11] asg_perform_0 rbd_perform_0 q → FunE C P (extOf (tmPf x y) q.tmps) (some (la, q)) 1 F_jobs1 [ryld la, .pd x, .pd y] (memJ 1 l) (.tup []) (memJ 4 l')) :
  Fun C P F_perform [csA ex l, .fn (.func 70) [.pd x, .pd y]] [] (slC 0 l') [(0, .c (arC l'))] := by
 refine inR_perform (W := w_perform) rfl 0 (by simp) rfl (fun id h => absurd rfl h) fun n => ?_
 refine of_eq (perform_A ex l x y 0 _) ?_
 refine ⟨cloneC_fun ex l hn, RngOK.ent (S1 := S_pf1 x y l) (ent_of [(2, 2), (9, 9)] rfl (tm_cons rfl (sm_ptr rfl) (tm_cons rfl (sm_same rfl) tm_nil)) (hp_cons rfl rfl (sm_sl rfl rfl (Nat.le_refl _) (Nat.le_refl _) (fun h => ⟨h, rfl⟩)) (hp_cons rfl rfl (sm_same rfl) hp_nil))) (rng_at (D := { base := n }) rfl rfl st_perform_0 (S2 := S_pfr l') rfl Proofs.Tryd.func70 nm_jobs1 ng_jobs1 [2, 9] (args' := [.pd x, .pd y]) (H := memJ 1 l) (H' := memJ 4 l') (r := .tup [])
  (e := { v := .tup [], wr := [(2, .c (slC 2000 l')), (2000, .c (arC l'))], dead := [9], rd := [2, 9] }) (tmL := tmPf x y) rfl
  (by kernel_rfl) (by kernel_rfl) (by kernel_rfl) (by kernel_rfl) (by kernel_rfl) (by kernel_rfl) hit (fun id h h2 => memJ_id id h (by decide) h2) (by kernel_rfl) (ent_of [(2, 2), (2000, 2000)] rfl (tm_cons rfl (sm_ptr rfl) tm_nil) (hp_cons rfl rfl (sm_sl rfl rfl (Nat.le_refl _) (Nat.le_refl _) (fun h => ⟨h, rfl⟩)) (hp_cons rfl rfl (sm_same rfl) hp_nil))) ?_)⟩
 exact of_eq (perform_R0 l' 0 _) (post_row rfl rfl rfl (Nat.le_refl _) (Nat.le_refl _) rfl fun _ _ => rfl)
theorem performC_fun (ex ea ey : Bool) (d : Dk) (so : SoC d.l) (hn : d.l.length + d.q.length < 2 ^ 36) : Fun C P F_perform [csA ex d.l, .fn (.func 70) [.pd (dkA ea ey d), .pd (.fn (.func 65) [])]] [] (slC 0 (cont d)) [(0, .c (arC (cont d)))] := by
 refine perform_gen ex d.l (cont d) _ _ (by omega) fun la q hq => ?_
 refine jobs1_itC ea ey d (by omega) (prN (fun _ => true) d.l d.q) (fun i => rfl) rfl (by kernel_rfl) fun n i hi => ?_
 have hl := prN_len (f := fun _ => true) so d.q i
 exact pfb _ _ hq n _ _ (prN_so so d.q i) (by omega)
theorem performS_fun (ex ea ey ez : Bool) (d : Dk) (dn : List Bool) (so : SoC d.l) (hn : d.l.length + d.q.length < 2 ^ 36) : Fun C P F_perform [csA ex d.l, .fn (.func 70) [.pd (dkA ea ey d), .pd (.fn (.func 44) [.pd (bA ez dn)])]] [] (slC 0 (crashD d dn).l) [(0, .c (arC (crashD d dn).l))] := by
 refine perform_gen ex d.l (crashD d dn).l _ _ (by omega) fun la q hq => ?_
 refine jobs1_itS ea ey ez dn d (by omega) (prN (fun i => dn.getD i false) d.l d.q) (fun i => rfl) rfl (by kernel_rfl) fun n i hi => ?_
 have hl := prN_len (f := fun i => dn.getD i false) so d.q i
 exact pfb _ _ hq n _ _ (prN_so so d.q i) (by omega)
end Go.Bu.W

