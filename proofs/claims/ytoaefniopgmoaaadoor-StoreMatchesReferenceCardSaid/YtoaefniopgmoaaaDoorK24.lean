/- Which disks are valid. -/
import Derived.Test.YtoaefniopgmoaaaDoorK23
namespace Go.Bu.W
open Sp
def h0B (c : Cl) : Bool := (List.range 32).all fun i => ((c.h i : Nat) : Int) == 0
def jobB (j : Jb) : Bool := if j.dr = true then inRng j.c.i 0 && (decide (j.c.s = 0) && (decide (j.c.b.length = 0) && h0B j.c)) else rpB j.c && whC j.c
def ordB (l : List Cl) (i : Nat) : Bool := decide (i = 0) || ltC (clAt l (i - 1)) (clAt l i)
def cellB (l : List Cl) (i : Nat) : Bool := rpB (clAt l i) && ordB l i
def vldB (d : Dk) : Bool := ((List.range d.l.length).all fun i => cellB d.l i) && ((List.range d.q.length).all fun i => jobB (jbAt d.q i))
def crPJob : List AV → Option (AV × List (Nat × Blk))
 | [x] => some (.sb (jobB (toJb x)), [])
 | _ => none
def crValid : List AV → Option (AV × List (Nat × Blk))
 | [x] => some (.sb (vldB (toDk x)), [])
 | _ => none
def crT8 (g : Nat) (args : List AV) (H : List (Nat × Blk)) : Option (AV × List (Nat × Blk)) :=
 sel (Nat.beq g F_rpjob) (crPJob args) <| sel (Nat.beq g F_rvalid) (crValid args) <| sel (Nat.beq g F_valid) (crValid args) <| crT7 g args H
def wayA8 (keep : List Nat) (nt : Nat) (cuts : List Nat) : Way := ⟨crT8, fun _ => false, keep, [], nt, cuts, []⟩
def w_rpjob : Way := wayA8 [0, 1, 2, 5] 44 []
def w_rvalid : Way := wayA8 [0, 1, 2, 3, 4, 9, 37, 42, 51] 52 []
def w_valid : Way := wayA8 [0, 1, 2, 3, 4, 6, 7, 9, 10, 11, 12, 24, 37, 40, 41, 42, 43, 66, 85] 87 []
def I_rv0 (ex ey : Bool) (d : Dk) (i : Nat) : St := { tm := [(1, .ptr 1 []), (3, .i i)], hp := [(1, .c (dkA ex ey d))], seen := [1] }
def I_rv1 (ex ey : Bool) (d : Dk) (i : Nat) : St := { tm := [(1, .ptr 1 []), (4, .i i)], hp := [(1, .c (dkA ex ey d))], seen := [1] }
def I_va0 (ex ey : Bool) (d : Dk) (i : Nat) : St := { tm := [(1, .ptr 1 []), (9, csA ex d.l), (10, .i d.l.length), (11, .i i)], hp := [(1, .c (dkA ex ey d))], seen := [1] }
def I_va1 (ex ey : Bool) (d : Dk) (i : Nat) : St := { tm := [(40, jsA ey d.q), (41, .i d.q.length), (42, .i i)], hp := [], seen := [] }
set_option maxRecDepth 1000000 in
theorem rpjob_A (j : Jb) {D : Dom} (K : Nat) (Φ : Ex → St → Prop) :
 (Holds C P 44 D K Φ (vc C w_rpjob b_rpjob [] (start [jbA j] []) lf)) =
 (((! (Jb.dr j)) = true →
 (Fun C P 47 [(clA (Jb.c j))] [] (AV.sb (rpB (toCl (clA (Jb.c j))))) [] ∧
 (True ∧
 (((rpB (toCl (clA (Jb.c j)))) = true →
 (Fun C P 59 [(clA (Jb.c j))] [] (AV.sb (whC (toCl (clA (Jb.c j))))) [] ∧
 (True ∧
 (Φ Ex.ret (St.mk [(0, (jbA j)), (1, (AV.ptr 1 [])), (2, (AV.sb (whC (toCl (clA (Jb.c j)))))), (5, (AV.v (Value.bool true)))] [(1, (Blk.c (jbA j)))] [1]))))) ∧
 ((rpB (toCl (clA (Jb.c j)))) = false →
 (Φ Ex.ret (St.mk [(0, (jbA j)), (1, (AV.ptr 1 [])), (2, (AV.v (Value.bool false))), (5, (AV.v (Value.bool true)))] [(1, (Blk.c (jbA j)))] [1]))))))) ∧
 ((! (Jb.dr j)) = false →
 (((decide ((Cl.i (Jb.c j)) ≥ (0 : Int))) = true →
 (((decide ((Cl.i (Jb.c j)) < (4096 : Int))) = true →
 ((((Cl.s (Jb.c j)) == (0 : Int)) = true →
 ((((((List.length (Cl.b (Jb.c j))) : Nat) : Int) == (0 : Int)) = true →
 ((∀ (i : Nat), ((i < 32) → ((IntKind.u8 = IntKind.u8) ∧ (IntKind.u8 = IntKind.u8)))) ∧
 (Φ Ex.ret (St.mk [(0, (jbA j)), (1, (AV.ptr 1 [])), (2, (AV.sb (List.all (List.range 32) (fun (i : Nat) => ((((Cl.h (Jb.c j) i) : Nat) : Int) == (0 : Int)))))), (5, (AV.v (Value.bool false)))] [(1, (Blk.c (jbA j)))] [1])))) ∧
 (((((List.length (Cl.b (Jb.c j))) : Nat) : Int) == (0 : Int)) = false →
 (Φ Ex.ret (St.mk [(0, (jbA j)), (1, (AV.ptr 1 [])), (2, (AV.v (Value.bool false))), (5, (AV.v (Value.bool false)))] [(1, (Blk.c (jbA j)))] [1]))))) ∧
 (((Cl.s (Jb.c j)) == (0 : Int)) = false →
 (Φ Ex.ret (St.mk [(0, (jbA j)), (1, (AV.ptr 1 [])), (2, (AV.v (Value.bool false))), (5, (AV.v (Value.bool false)))] [(1, (Blk.c (jbA j)))] [1]))))) ∧
 ((decide ((Cl.i (Jb.c j)) < (4096 : Int))) = false →
 (Φ Ex.ret (St.mk [(0, (jbA j)), (1, (AV.ptr 1 [])), (2, (AV.v (Value.bool false))), (5, (AV.v (Value.bool false)))] [(1, (Blk.c (jbA j)))] [1]))))) ∧
 ((decide ((Cl.i (Jb.c j)) ≥ (0 : Int))) = false →
 (Φ Ex.ret (St.mk [(0, (jbA j)), (1, (AV.ptr 1 [])), (2, (AV.v (Value.bool false))), (5, (AV.v (Value.bool false)))] [(1, (Blk.c (jbA j)))] [1])))))) := by kernel_rfl
theorem rvalid_A (ex ey : Bool) (d : Dk) {D : Dom} (K : Nat) (Φ : Ex → St → Prop) :
 (Holds C P 52 D K Φ (vc C w_rvalid b_rvalid [] (start [dkA ex ey d] []) lf)) =
 (LoopOK C P 52 D K (bodyAt b_rvalid [1, 0, 1, 0]) (St.mk [(0, (dkA ex ey d)), (1, (AV.ptr 1 [])), (2, (AV.v (Value.bool false))), (3, (AV.i (0 : Int)))] [(1, (Blk.c (dkA ex ey d)))] [1]) (fun (e : Ex) (S' : St) => Holds C P 52 D K Φ (after C w_rvalid b_rvalid [1, 0, 1, 0] [] lf e S'))) := by kernel_rfl
noncomputable abbrev bd_rvalid_0 : Code := bodyAt (b_rvalid) [1, 0, 1, 0]
theorem ok_rvalid_0 : codeOK bd_rvalid_0 = true := by kernel_rfl
noncomputable abbrev rest_rvalid_0 (D : Dom) (K : Nat) (Φ : Ex → St → Prop) : Ex → St → Prop := fun e S' => Holds C P 52 D K Φ (after C w_rvalid (b_rvalid) [1, 0, 1, 0] [] lf e S')
theorem rvalid_L0 (ex ey : Bool) (d : Dk) (i : Nat) {D : Dom} (K : Nat) (Φ : Ex → St → Prop) :
 (Holds C P 52 D K (RoundQ C 52 D K (I_rv0 ex ey d) (fun i => i ≤ d.l.length ∧ ∀ k, k < i → cellB d.l k = true) (fun i => d.l.length - i) ((fun i => d.l.length - i) (i)) (rest_rvalid_0 D K Φ)) (vc C w_rvalid bd_rvalid_0 [] ((I_rv0 ex ey d) (i)) lf)) =
 (((decide (((i : Nat) : Int) < (((List.length (Dk.l d)) : Nat) : Int))) = true →
 ((((0 : Int) ≤ ((i : Nat) : Int)) ∧ (((i : Nat) : Int) < (((List.length (Dk.l d)) : Nat) : Int))) ∧
 (Fun C P 47 [(clA (clAt (Dk.l d) i))] [] (AV.sb (rpB (toCl (clA (clAt (Dk.l d) i))))) [] ∧
 (True ∧
 (((! (rpB (toCl (clA (clAt (Dk.l d) i))))) = true →
 (Φ Ex.ret (St.mk [(1, (AV.ptr 1 [])), (2, (AV.v (Value.bool false))), (3, (AV.i ((i : Nat) : Int))), (9, (AV.v (Value.bool true))), (37, (AV.v (Value.bool true)))] [(1, (Blk.c (dkA ex ey d)))] [1]))) ∧
 ((! (rpB (toCl (clA (clAt (Dk.l d) i))))) = false →
 (((decide (((i : Nat) : Int) > (0 : Int))) = true →
 ((I64 (((i : Nat) : Int) - (1 : Int))) ∧
 ((((0 : Int) ≤ (((i : Nat) : Int) - (1 : Int))) ∧ ((((i : Nat) : Int) - (1 : Int)) < (((List.length (Dk.l d)) : Nat) : Int))) ∧
 ((((0 : Int) ≤ ((i : Nat) : Int)) ∧ (((i : Nat) : Int) < (((List.length (Dk.l d)) : Nat) : Int))) ∧
 (Fun C P 48 [(clA (clAt (Dk.l d) (Int.toNat (((i : Nat) : Int) - (1 : Int))))), (clA (clAt (Dk.l d) i))] [] (AV.sb (ltC (toCl (clA (clAt (Dk.l d) (Int.toNat (((i : Nat) : Int) - (1 : Int)))))) (toCl (clA (clAt (Dk.l d) i))))) [] ∧
 (True ∧
 (((! (ltC (toCl (clA (clAt (Dk.l d) (Int.toNat (((i : Nat) : Int) - (1 : Int)))))) (toCl (clA (clAt (Dk.l d) i))))) = true →
 (Φ Ex.ret (St.mk [(1, (AV.ptr 1 [])), (2, (AV.v (Value.bool false))), (3, (AV.i ((i : Nat) : Int))), (9, (AV.v (Value.bool true))), (37, (AV.v (Value.bool true)))] [(1, (Blk.c (dkA ex ey d)))] [1]))) ∧
 ((! (ltC (toCl (clA (clAt (Dk.l d) (Int.toNat (((i : Nat) : Int) - (1 : Int)))))) (toCl (clA (clAt (Dk.l d) i))))) = false →
 ((I64 (((i + 1) : Nat) : Int)) ∧
 ((RoundQ C 52 D K (I_rv0 ex ey d) (fun i => i ≤ d.l.length ∧ ∀ k, k < i → cellB d.l k = true) (fun i => d.l.length - i) ((fun i => d.l.length - i) (i)) (rest_rvalid_0 D K Φ)) Ex.normal (St.mk [(1, (AV.ptr 1 [])), (3, (AV.i (((i + 1) : Nat) : Int))), (9, (AV.v (Value.bool true))), (37, (AV.v (Value.bool false)))] [(1, (Blk.c (dkA ex ey d)))] [1]))))))))))) ∧
 ((decide (((i : Nat) : Int) > (0 : Int))) = false →
 ((I64 (((i + 1) : Nat) : Int)) ∧
 ((RoundQ C 52 D K (I_rv0 ex ey d) (fun i => i ≤ d.l.length ∧ ∀ k, k < i → cellB d.l k = true) (fun i => d.l.length - i) ((fun i => d.l.length - i) (i)) (rest_rvalid_0 D K Φ)) Ex.normal (St.mk [(1, (AV.ptr 1 [])), (3, (AV.i (((i + 1) : Nat) : Int))), (9, (AV.v (Value.bool true))), (37, (AV.v (Value.bool false)))] [(1, (Blk.c (dkA ex ey d)))] [1]))))))))))) ∧
 ((decide (((i : Nat) : Int) < (((List.length (Dk.l d)) : Nat) : Int))) = false →
 (LoopOK C P 52 D K (bodyAt b_rvalid [1, 1, 0, 1, 0]) (St.mk [(1, (AV.ptr 1 [])), (3, (AV.i ((i : Nat) : Int))), (4, (AV.i (0 : Int))), (9, (AV.v (Value.bool false)))] [(1, (Blk.c (dkA ex ey d)))] [1]) (fun (e : Ex) (S' : St) => Holds C P 52 D K Φ (after C w_rvalid b_rvalid [1, 1, 0, 1, 0] [] lf e S'))))) := by kernel_rfl
noncomputable abbrev bd_rvalid_1 : Code := bodyAt (b_rvalid) [1, 1, 0, 1, 0]
theorem ok_rvalid_1 : codeOK bd_rvalid_1 = true := by kernel_rfl
noncomputable abbrev rest_rvalid_1 (D : Dom) (K : Nat) (Φ : Ex → St → Prop) : Ex → St → Prop := fun e S' => Holds C P 52 D K Φ (after C w_rvalid (b_rvalid) [1, 1, 0, 1, 0] [] lf e S')
theorem rvalid_L1 (ex ey : Bool) (d : Dk) (i : Nat) {D : Dom} (K : Nat) (Φ : Ex → St → Prop) :
 (Holds C P 52 D K (RoundQ C 52 D K (I_rv1 ex ey d) (fun i => i ≤ d.q.length ∧ ∀ k, k < i → jobB (jbAt d.q k) = true) (fun i => d.q.length - i) ((fun i => d.q.length - i) (i)) (rest_rvalid_1 D K Φ)) (vc C w_rvalid bd_rvalid_1 [] ((I_rv1 ex ey d) (i)) lf)) =
 (((decide (((i : Nat) : Int) < (((List.length (Dk.q d)) : Nat) : Int))) = true →
 ((((0 : Int) ≤ ((i : Nat) : Int)) ∧ (((i : Nat) : Int) < (((List.length (Dk.q d)) : Nat) : Int))) ∧
 (Fun C P 49 [(jbA (jbAt (Dk.q d) i))] [] (AV.sb (jobB (toJb (jbA (jbAt (Dk.q d) i))))) [] ∧
 (True ∧
 (((! (jobB (toJb (jbA (jbAt (Dk.q d) i))))) = true →
 (Φ Ex.ret (St.mk [(1, (AV.ptr 1 [])), (2, (AV.v (Value.bool false))), (4, (AV.i ((i : Nat) : Int))), (42, (AV.v (Value.bool true))), (51, (AV.v (Value.bool true)))] [(1, (Blk.c (dkA ex ey d)))] [1]))) ∧
 ((! (jobB (toJb (jbA (jbAt (Dk.q d) i))))) = false →
 ((I64 (((i + 1) : Nat) : Int)) ∧
 ((RoundQ C 52 D K (I_rv1 ex ey d) (fun i => i ≤ d.q.length ∧ ∀ k, k < i → jobB (jbAt d.q k) = true) (fun i => d.q.length - i) ((fun i => d.q.length - i) (i)) (rest_rvalid_1 D K Φ)) Ex.normal (St.mk [(1, (AV.ptr 1 [])), (4, (AV.i (((i + 1) : Nat) : Int))), (42, (AV.v (Value.bool true))), (51, (AV.v (Value.bool false)))] [(1, (Blk.c (dkA ex ey d)))] [1]))))))))) ∧
 ((decide (((i : Nat) : Int) < (((List.length (Dk.q d)) : Nat) : Int))) = false →
 (Φ Ex.ret (St.mk [(1, (AV.ptr 1 [])), (2, (AV.v (Value.bool true))), (4, (AV.i ((i : Nat) : Int))), (42, (AV.v (Value.bool false)))] [(1, (Blk.c (dkA ex ey d)))] [1])))) := by kernel_rfl
theorem valid_A (ex ey : Bool) (d : Dk) {D : Dom} (K : Nat) (Φ : Ex → St → Prop) :
 (Holds C P 87 D K Φ (vc C w_valid b_valid [] (start [dkA ex ey d] []) lf)) =
 (LoopOK C P 87 D K (bodyAt b_valid [1, 0, 1, 0]) (St.mk [(0, (dkA ex ey d)), (1, (AV.ptr 1 [])), (2, (AV.v (Value.bool false))), (9, (csA ex (Dk.l d))), (10, (AV.i (((List.length (Dk.l d)) : Nat) : Int))), (11, (AV.i (0 : Int)))] [(1, (Blk.c (dkA ex ey d)))] [1]) (fun (e : Ex) (S' : St) => Holds C P 87 D K Φ (after C w_valid b_valid [1, 0, 1, 0] [] lf e S'))) := by kernel_rfl
noncomputable abbrev bd_valid_0 : Code := bodyAt (b_valid) [1, 0, 1, 0]
theorem ok_valid_0 : codeOK bd_valid_0 = true := by kernel_rfl
noncomputable abbrev rest_valid_0 (D : Dom) (K : Nat) (Φ : Ex → St → Prop) : Ex → St → Prop := fun e S' => Holds C P 87 D K Φ (after C w_valid (b_valid) [1, 0, 1, 0] [] lf e S')
theorem valid_L0 (ex ey : Bool) (d : Dk) (i : Nat) {D : Dom} (K : Nat) (Φ : Ex → St → Prop) :
 (Holds C P 87 D K (RoundQ C 87 D K (I_va0 ex ey d) (fun i => i ≤ d.l.length ∧ ∀ k, k < i → cellB d.l k = true) (fun i => d.l.length - i) ((fun i => d.l.length - i) (i)) (rest_valid_0 D K Φ)) (vc C w_valid bd_valid_0 [] ((I_va0 ex ey d) (i)) lf)) =
 (((decide (((i : Nat) : Int) < (((List.length (Dk.l d)) : Nat) : Int))) = true →
 ((((0 : Int) ≤ ((i : Nat) : Int)) ∧ (((i : Nat) : Int) < (((List.length (Dk.l d)) : Nat) : Int))) ∧
 ((((true = true) ∧ (true = true)) ∧ (((true = true) ∧ (true = true)) ∧ (((true = true) ∧ (true = true)) ∧ (((32 = 32) ∧ ((1 = 1) ∧ (∀ (i1 : Nat), ((i1 < 32) → ((true = true) ∧ (true = true)))))) ∧ True)))) ∧
 (Fun C P 40 [(clA (clAt (Dk.l d) i))] [] (AV.sb (inRng (Cl.i (toCl (clA (clAt (Dk.l d) i)))) (Cl.s (toCl (clA (clAt (Dk.l d) i)))))) [] ∧
 (True ∧
 (((! (inRng (Cl.i (toCl (clA (clAt (Dk.l d) i)))) (Cl.s (toCl (clA (clAt (Dk.l d) i)))))) = true →
 (Φ Ex.ret (St.mk [(1, (AV.ptr 1 [])), (2, (AV.v (Value.bool false))), (3, (AV.i ((i : Nat) : Int))), (4, (AV.ptr 4 [])), (9, (csA ex (Dk.l d))), (10, (AV.i (((List.length (Dk.l d)) : Nat) : Int))), (11, (AV.i ((i : Nat) : Int))), (12, (AV.v (Value.bool true))), (24, (AV.v (Value.bool true)))] [(1, (Blk.c (dkA ex ey d))), (4, (Blk.c (clA (clAt (Dk.l d) i))))] [4, 1]))) ∧
 ((! (inRng (Cl.i (toCl (clA (clAt (Dk.l d) i)))) (Cl.s (toCl (clA (clAt (Dk.l d) i)))))) = false →
 (((decide ((((List.length (Cl.b (clAt (Dk.l d) i))) : Nat) : Int) > (1048576 : Int))) = true →
 (Φ Ex.ret (St.mk [(1, (AV.ptr 1 [])), (2, (AV.v (Value.bool false))), (3, (AV.i ((i : Nat) : Int))), (4, (AV.ptr 4 [])), (9, (csA ex (Dk.l d))), (10, (AV.i (((List.length (Dk.l d)) : Nat) : Int))), (11, (AV.i ((i : Nat) : Int))), (12, (AV.v (Value.bool true))), (24, (AV.v (Value.bool true)))] [(1, (Blk.c (dkA ex ey d))), (4, (Blk.c (clA (clAt (Dk.l d) i))))] [4, 1]))) ∧
 ((decide ((((List.length (Cl.b (clAt (Dk.l d) i))) : Nat) : Int) > (1048576 : Int))) = false →
 (((decide (((i : Nat) : Int) > (0 : Int))) = true →
 ((I64 (((i : Nat) : Int) - (1 : Int))) ∧
 ((((0 : Int) ≤ (((i : Nat) : Int) - (1 : Int))) ∧ ((((i : Nat) : Int) - (1 : Int)) < (((List.length (Dk.l d)) : Nat) : Int))) ∧
 (Fun C P 50 [(clA (clAt (Dk.l d) (Int.toNat (((i : Nat) : Int) - (1 : Int))))), (clA (clAt (Dk.l d) i))] [] (AV.i (cmpC (toCl (clA (clAt (Dk.l d) (Int.toNat (((i : Nat) : Int) - (1 : Int)))))) (toCl (clA (clAt (Dk.l d) i))))) [] ∧
 (True ∧
 (((decide ((cmpC (toCl (clA (clAt (Dk.l d) (Int.toNat (((i : Nat) : Int) - (1 : Int)))))) (toCl (clA (clAt (Dk.l d) i)))) ≥ (0 : Int))) = true →
 (Φ Ex.ret (St.mk [(1, (AV.ptr 1 [])), (2, (AV.v (Value.bool false))), (3, (AV.i ((i : Nat) : Int))), (4, (AV.ptr 4 [])), (9, (csA ex (Dk.l d))), (10, (AV.i (((List.length (Dk.l d)) : Nat) : Int))), (11, (AV.i ((i : Nat) : Int))), (12, (AV.v (Value.bool true))), (24, (AV.v (Value.bool false))), (37, (AV.v (Value.bool true)))] [(1, (Blk.c (dkA ex ey d))), (4, (Blk.c (clA (clAt (Dk.l d) i))))] [4, 1]))) ∧
 ((decide ((cmpC (toCl (clA (clAt (Dk.l d) (Int.toNat (((i : Nat) : Int) - (1 : Int)))))) (toCl (clA (clAt (Dk.l d) i)))) ≥ (0 : Int))) = false →
 ((I64 (((i + 1) : Nat) : Int)) ∧
 ((RoundQ C 87 D K (I_va0 ex ey d) (fun i => i ≤ d.l.length ∧ ∀ k, k < i → cellB d.l k = true) (fun i => d.l.length - i) ((fun i => d.l.length - i) (i)) (rest_valid_0 D K Φ)) Ex.normal (St.mk [(1, (AV.ptr 1 [])), (3, (AV.i ((i : Nat) : Int))), (4, (AV.ptr 4 [])), (9, (csA ex (Dk.l d))), (10, (AV.i (((List.length (Dk.l d)) : Nat) : Int))), (11, (AV.i (((i + 1) : Nat) : Int))), (12, (AV.v (Value.bool true))), (24, (AV.v (Value.bool false))), (37, (AV.v (Value.bool false)))] [(1, (Blk.c (dkA ex ey d))), (4, (Blk.c (clA (clAt (Dk.l d) i))))] [4, 1])))))))))) ∧
 ((decide (((i : Nat) : Int) > (0 : Int))) = false →
 ((I64 (((i + 1) : Nat) : Int)) ∧
 ((RoundQ C 87 D K (I_va0 ex ey d) (fun i => i ≤ d.l.length ∧ ∀ k, k < i → cellB d.l k = true) (fun i => d.l.length - i) ((fun i => d.l.length - i) (i)) (rest_valid_0 D K Φ)) Ex.normal (St.mk [(1, (AV.ptr 1 [])), (3, (AV.i ((i : Nat) : Int))), (4, (AV.ptr 4 [])), (9, (csA ex (Dk.l d))), (10, (AV.i (((List.length (Dk.l d)) : Nat) : Int))), (11, (AV.i (((i + 1) : Nat) : Int))), (12, (AV.v (Value.bool true))), (24, (AV.v (Value.bool false))), (37, (AV.v (Value.bool false)))] [(1, (Blk.c (dkA ex ey d))), (4, (Blk.c (clA (clAt (Dk.l d) i))))] [4, 1])))))))))))))) ∧
 ((decide (((i : Nat) : Int) < (((List.length (Dk.l d)) : Nat) : Int))) = false →
 (LoopOK C P 87 D K (bodyAt b_valid [1, 1, 0, 1, 0]) (St.mk [(1, (AV.ptr 1 [])), (9, (csA ex (Dk.l d))), (10, (AV.i (((List.length (Dk.l d)) : Nat) : Int))), (11, (AV.i ((i : Nat) : Int))), (12, (AV.v (Value.bool false))), (40, (jsA ey (Dk.q d))), (41, (AV.i (((List.length (Dk.q d)) : Nat) : Int))), (42, (AV.i (0 : Int)))] [(1, (Blk.c (dkA ex ey d)))] [1]) (fun (e : Ex) (S' : St) => Holds C P 87 D K Φ (after C w_valid b_valid [1, 1, 0, 1, 0] [] lf e S'))))) := by kernel_rfl
noncomputable abbrev bd_valid_1 : Code := bodyAt (b_valid) [1, 1, 0, 1, 0]
theorem ok_valid_1 : codeOK bd_valid_1 = true := by kernel_rfl
noncomputable abbrev rest_valid_1 (D : Dom) (K : Nat) (Φ : Ex → St → Prop) : Ex → St → Prop := fun e S' => Holds C P 87 D K Φ (after C w_valid (b_valid) [1, 1, 0, 1, 0] [] lf e S')
theorem valid_L1 (ex ey : Bool) (d : Dk) (i : Nat) {D : Dom} (K : Nat) (Φ : Ex → St → Prop) :
 (Holds C P 87 D K (RoundQ C 87 D K (I_va1 ex ey d) (fun i => i ≤ d.q.length ∧ ∀ k, k < i → jobB (jbAt d.q k) = true) (fun i => d.q.length - i) ((fun i => d.q.length - i) (i)) (rest_valid_1 D K Φ)) (vc C w_valid bd_valid_1 [] ((I_va1 ex ey d) (i)) lf)) =
 (((decide (((i : Nat) : Int) < (((List.length (Dk.q d)) : Nat) : Int))) = true →
 ((((0 : Int) ≤ ((i : Nat) : Int)) ∧ (((i : Nat) : Int) < (((List.length (Dk.q d)) : Nat) : Int))) ∧
 ((((true = true) ∧ (true = true)) ∧ ((((true = true) ∧ (true = true)) ∧ (((true = true) ∧ (true = true)) ∧ (((true = true) ∧ (true = true)) ∧ (((32 = 32) ∧ ((1 = 1) ∧ (∀ (i1 : Nat), ((i1 < 32) → ((true = true) ∧ (true = true)))))) ∧ True)))) ∧ True)) ∧
 ((((true = true) ∧ (true = true)) ∧ (((true = true) ∧ (true = true)) ∧ (((true = true) ∧ (true = true)) ∧ (((32 = 32) ∧ ((1 = 1) ∧ (∀ (i1 : Nat), ((i1 < 32) → ((true = true) ∧ (true = true)))))) ∧ True)))) ∧
 (Fun C P 40 [(clA (Jb.c (jbAt (Dk.q d) i)))] [] (AV.sb (inRng (Cl.i (toCl (clA (Jb.c (jbAt (Dk.q d) i))))) (Cl.s (toCl (clA (Jb.c (jbAt (Dk.q d) i))))))) [] ∧
 (True ∧
 (((! (inRng (Cl.i (toCl (clA (Jb.c (jbAt (Dk.q d) i))))) (Cl.s (toCl (clA (Jb.c (jbAt (Dk.q d) i))))))) = true →
 (Φ Ex.ret (St.mk [(2, (AV.v (Value.bool false))), (6, (AV.ptr 6 [])), (7, (AV.ptr 7 [])), (40, (jsA ey (Dk.q d))), (41, (AV.i (((List.length (Dk.q d)) : Nat) : Int))), (42, (AV.i ((i : Nat) : Int))), (43, (AV.v (Value.bool true))), (66, (AV.v (Value.bool true)))] [(6, (Blk.c (jbA (jbAt (Dk.q d) i)))), (7, (Blk.c (clA (Jb.c (jbAt (Dk.q d) i)))))] [7, 6]))) ∧
 ((! (inRng (Cl.i (toCl (clA (Jb.c (jbAt (Dk.q d) i))))) (Cl.s (toCl (clA (Jb.c (jbAt (Dk.q d) i))))))) = false →
 (((decide ((((List.length (Cl.b (Jb.c (jbAt (Dk.q d) i)))) : Nat) : Int) > (1048576 : Int))) = true →
 (Φ Ex.ret (St.mk [(2, (AV.v (Value.bool false))), (6, (AV.ptr 6 [])), (7, (AV.ptr 7 [])), (40, (jsA ey (Dk.q d))), (41, (AV.i (((List.length (Dk.q d)) : Nat) : Int))), (42, (AV.i ((i : Nat) : Int))), (43, (AV.v (Value.bool true))), (66, (AV.v (Value.bool true)))] [(6, (Blk.c (jbA (jbAt (Dk.q d) i)))), (7, (Blk.c (clA (Jb.c (jbAt (Dk.q d) i)))))] [7, 6]))) ∧
 ((decide ((((List.length (Cl.b (Jb.c (jbAt (Dk.q d) i)))) : Nat) : Int) > (1048576 : Int))) = false →
 (((! (Jb.dr (jbAt (Dk.q d) i))) = true →
 (Fun C P 51 [(clA (Jb.c (jbAt (Dk.q d) i)))] [] (AV.sb (whC (toCl (clA (Jb.c (jbAt (Dk.q d) i)))))) [] ∧
 (True ∧
 (((! (whC (toCl (clA (Jb.c (jbAt (Dk.q d) i)))))) = true →
 (Φ Ex.ret (St.mk [(2, (AV.v (Value.bool false))), (6, (AV.ptr 6 [])), (7, (AV.ptr 7 [])), (40, (jsA ey (Dk.q d))), (41, (AV.i (((List.length (Dk.q d)) : Nat) : Int))), (42, (AV.i ((i : Nat) : Int))), (43, (AV.v (Value.bool true))), (66, (AV.v (Value.bool true)))] [(6, (Blk.c (jbA (jbAt (Dk.q d) i)))), (7, (Blk.c (clA (Jb.c (jbAt (Dk.q d) i)))))] [7, 6]))) ∧
 ((! (whC (toCl (clA (Jb.c (jbAt (Dk.q d) i)))))) = false →
 (((Jb.dr (jbAt (Dk.q d) i)) = true →
 ((((Cl.s (Jb.c (jbAt (Dk.q d) i))) != (0 : Int)) = true →
 (Φ Ex.ret (St.mk [(2, (AV.v (Value.bool false))), (6, (AV.ptr 6 [])), (7, (AV.ptr 7 [])), (40, (jsA ey (Dk.q d))), (41, (AV.i (((List.length (Dk.q d)) : Nat) : Int))), (42, (AV.i ((i : Nat) : Int))), (43, (AV.v (Value.bool true))), (66, (AV.v (Value.bool false))), (85, (AV.v (Value.bool true)))] [(6, (Blk.c (jbA (jbAt (Dk.q d) i)))), (7, (Blk.c (clA (Jb.c (jbAt (Dk.q d) i)))))] [7, 6]))) ∧
 (((Cl.s (Jb.c (jbAt (Dk.q d) i))) != (0 : Int)) = false →
 (((decide ((((List.length (Cl.b (Jb.c (jbAt (Dk.q d) i)))) : Nat) : Int) > (0 : Int))) = true →
 (Φ Ex.ret (St.mk [(2, (AV.v (Value.bool false))), (6, (AV.ptr 6 [])), (7, (AV.ptr 7 [])), (40, (jsA ey (Dk.q d))), (41, (AV.i (((List.length (Dk.q d)) : Nat) : Int))), (42, (AV.i ((i : Nat) : Int))), (43, (AV.v (Value.bool true))), (66, (AV.v (Value.bool false))), (85, (AV.v (Value.bool true)))] [(6, (Blk.c (jbA (jbAt (Dk.q d) i)))), (7, (Blk.c (clA (Jb.c (jbAt (Dk.q d) i)))))] [7, 6]))) ∧
 ((decide ((((List.length (Cl.b (Jb.c (jbAt (Dk.q d) i)))) : Nat) : Int) > (0 : Int))) = false →
 ((∀ (i1 : Nat), ((i1 < 32) → ((IntKind.u8 = IntKind.u8) ∧ (IntKind.u8 = IntKind.u8)))) ∧
 (((! (List.all (List.range 32) (fun (i1 : Nat) => ((((Cl.h (Jb.c (jbAt (Dk.q d) i)) i1) : Nat) : Int) == (0 : Int))))) = true →
 (Φ Ex.ret (St.mk [(2, (AV.v (Value.bool false))), (6, (AV.ptr 6 [])), (7, (AV.ptr 7 [])), (40, (jsA ey (Dk.q d))), (41, (AV.i (((List.length (Dk.q d)) : Nat) : Int))), (42, (AV.i ((i : Nat) : Int))), (43, (AV.v (Value.bool true))), (66, (AV.v (Value.bool false))), (85, (AV.v (Value.bool true)))] [(6, (Blk.c (jbA (jbAt (Dk.q d) i)))), (7, (Blk.c (clA (Jb.c (jbAt (Dk.q d) i)))))] [7, 6]))) ∧
 ((! (List.all (List.range 32) (fun (i1 : Nat) => ((((Cl.h (Jb.c (jbAt (Dk.q d) i)) i1) : Nat) : Int) == (0 : Int))))) = false →
 ((I64 (((i + 1) : Nat) : Int)) ∧
 ((RoundQ C 87 D K (I_va1 ex ey d) (fun i => i ≤ d.q.length ∧ ∀ k, k < i → jobB (jbAt d.q k) = true) (fun i => d.q.length - i) ((fun i => d.q.length - i) (i)) (rest_valid_1 D K Φ)) Ex.normal (St.mk [(6, (AV.ptr 6 [])), (7, (AV.ptr 7 [])), (40, (jsA ey (Dk.q d))), (41, (AV.i (((List.length (Dk.q d)) : Nat) : Int))), (42, (AV.i (((i + 1) : Nat) : Int))), (43, (AV.v (Value.bool true))), (66, (AV.v (Value.bool false))), (85, (AV.v (Value.bool false)))] [(6, (Blk.c (jbA (jbAt (Dk.q d) i)))), (7, (Blk.c (clA (Jb.c (jbAt (Dk.q d) i)))))] [7, 6]))))))))))) ∧
 ((Jb.dr (jbAt (Dk.q d) i)) = false →
 ((I64 (((i + 1) : Nat) : Int)) ∧
 ((RoundQ C 87 D K (I_va1 ex ey d) (fun i => i ≤ d.q.length ∧ ∀ k, k < i → jobB (jbAt d.q k) = true) (fun i => d.q.length - i) ((fun i => d.q.length - i) (i)) (rest_valid_1 D K Φ)) Ex.normal (St.mk [(6, (AV.ptr 6 [])), (7, (AV.ptr 7 [])), (40, (jsA ey (Dk.q d))), (41, (AV.i (((List.length (Dk.q d)) : Nat) : Int))), (42, (AV.i (((i + 1) : Nat) : Int))), (43, (AV.v (Value.bool true))), (66, (AV.v (Value.bool false))), (85, (AV.v (Value.bool false)))] [(6, (Blk.c (jbA (jbAt (Dk.q d) i)))), (7, (Blk.c (clA (Jb.c (jbAt (Dk.q d) i)))))] [7, 6])))))))))) ∧
 ((! (Jb.dr (jbAt (Dk.q d) i))) = false →
 (((Jb.dr (jbAt (Dk.q d) i)) = true →
 ((((Cl.s (Jb.c (jbAt (Dk.q d) i))) != (0 : Int)) = true →
 (Φ Ex.ret (St.mk [(2, (AV.v (Value.bool false))), (6, (AV.ptr 6 [])), (7, (AV.ptr 7 [])), (40, (jsA ey (Dk.q d))), (41, (AV.i (((List.length (Dk.q d)) : Nat) : Int))), (42, (AV.i ((i : Nat) : Int))), (43, (AV.v (Value.bool true))), (66, (AV.v (Value.bool false))), (85, (AV.v (Value.bool true)))] [(6, (Blk.c (jbA (jbAt (Dk.q d) i)))), (7, (Blk.c (clA (Jb.c (jbAt (Dk.q d) i)))))] [7, 6]))) ∧
 (((Cl.s (Jb.c (jbAt (Dk.q d) i))) != (0 : Int)) = false →
 (((decide ((((List.length (Cl.b (Jb.c (jbAt (Dk.q d) i)))) : Nat) : Int) > (0 : Int))) = true →
 (Φ Ex.ret (St.mk [(2, (AV.v (Value.bool false))), (6, (AV.ptr 6 [])), (7, (AV.ptr 7 [])), (40, (jsA ey (Dk.q d))), (41, (AV.i (((List.length (Dk.q d)) : Nat) : Int))), (42, (AV.i ((i : Nat) : Int))), (43, (AV.v (Value.bool true))), (66, (AV.v (Value.bool false))), (85, (AV.v (Value.bool true)))] [(6, (Blk.c (jbA (jbAt (Dk.q d) i)))), (7, (Blk.c (clA (Jb.c (jbAt (Dk.q d) i)))))] [7, 6]))) ∧
 ((decide ((((List.length (Cl.b (Jb.c (jbAt (Dk.q d) i)))) : Nat) : Int) > (0 : Int))) = false →
 ((∀ (i1 : Nat), ((i1 < 32) → ((IntKind.u8 = IntKind.u8) ∧ (IntKind.u8 = IntKind.u8)))) ∧
 (((! (List.all (List.range 32) (fun (i1 : Nat) => ((((Cl.h (Jb.c (jbAt (Dk.q d) i)) i1) : Nat) : Int) == (0 : Int))))) = true →
 (Φ Ex.ret (St.mk [(2, (AV.v (Value.bool false))), (6, (AV.ptr 6 [])), (7, (AV.ptr 7 [])), (40, (jsA ey (Dk.q d))), (41, (AV.i (((List.length (Dk.q d)) : Nat) : Int))), (42, (AV.i ((i : Nat) : Int))), (43, (AV.v (Value.bool true))), (66, (AV.v (Value.bool false))), (85, (AV.v (Value.bool true)))] [(6, (Blk.c (jbA (jbAt (Dk.q d) i)))), (7, (Blk.c (clA (Jb.c (jbAt (Dk.q d) i)))))] [7, 6]))) ∧
 ((! (List.all (List.range 32) (fun (i1 : Nat) => ((((Cl.h (Jb.c (jbAt (Dk.q d) i)) i1) : Nat) : Int) == (0 : Int))))) = false →
 ((I64 (((i + 1) : Nat) : Int)) ∧
 ((RoundQ C 87 D K (I_va1 ex ey d) (fun i => i ≤ d.q.length ∧ ∀ k, k < i → jobB (jbAt d.q k) = true) (fun i => d.q.length - i) ((fun i => d.q.length - i) (i)) (rest_valid_1 D K Φ)) Ex.normal (St.mk [(6, (AV.ptr 6 [])), (7, (AV.ptr 7 [])), (40, (jsA ey (Dk.q d))), (41, (AV.i (((List.length (Dk.q d)) : Nat) : Int))), (42, (AV.i (((i + 1) : Nat) : Int))), (43, (AV.v (Value.bool true))), (66, (AV.v (Value.bool false))), (85, (AV.v (Value.bool false)))] [(6, (Blk.c (jbA (jbAt (Dk.q d) i)))), (7, (Blk.c (clA (Jb.c (jbAt (Dk.q d) i)))))] [7, 6]))))))))))) ∧
 ((Jb.dr (jbAt (Dk.q d) i)) = false →
 ((I64 (((i + 1) : Nat) : Int)) ∧
 ((RoundQ C 87 D K (I_va1 ex ey d) (fun i => i ≤ d.q.length ∧ ∀ k, k < i → jobB (jbAt d.q k) = true) (fun i => d.q.length - i) ((fun i => d.q.length - i) (i)) (rest_valid_1 D K Φ)) Ex.normal (St.mk [(6, (AV.ptr 6 [])), (7, (AV.ptr 7 [])), (40, (jsA ey (Dk.q d))), (41, (AV.i (((List.length (Dk.q d)) : Nat) : Int))), (42, (AV.i (((i + 1) : Nat) : Int))), (43, (AV.v (Value.bool true))), (66, (AV.v (Value.bool false))), (85, (AV.v (Value.bool false)))] [(6, (Blk.c (jbA (jbAt (Dk.q d) i)))), (7, (Blk.c (clA (Jb.c (jbAt (Dk.q d) i)))))] [7, 6]))))))))))))))))) ∧
 ((decide (((i : Nat) : Int) < (((List.length (Dk.q d)) : Nat) : Int))) = false →
 (Φ Ex.ret (St.mk [(2, (AV.v (Value.bool true))), (40, (jsA ey (Dk.q d))), (41, (AV.i (((List.length (Dk.q d)) : Nat) : Int))), (42, (AV.i ((i : Nat) : Int))), (43, (AV.v (Value.bool false)))] [] [])))) := by kernel_rfl
theorem vld_noC {d : Dk} {i : Nat} (hi : i < d.l.length) (h : cellB d.l i = false) : vldB d = false := by
 unfold vldB
 have : ((List.range d.l.length).all fun i => cellB d.l i) = false := by
  rw [List.all_eq_false]
  exact ⟨i, List.mem_range.2 hi, by rw [h]; simp⟩
 rw [this]; rfl
theorem vld_noJ {d : Dk} {i : Nat} (hi : i < d.q.length) (h : jobB (jbAt d.q i) = false) : vldB d = false := by
 unfold vldB
 have : ((List.range d.q.length).all fun i => jobB (jbAt d.q i)) = false := by
  rw [List.all_eq_false]
  exact ⟨i, List.mem_range.2 hi, by rw [h]; simp⟩
 rw [this, Bool.and_false]
theorem vld_yes {d : Dk} (h1 : ∀ k, k < d.l.length → cellB d.l k = true) (h2 : ∀ k, k < d.q.length → jobB (jbAt d.q k) = true) : vldB d = true := by
 unfold vldB
 rw [Bool.and_eq_true, List.all_eq_true, List.all_eq_true]
 exact ⟨fun k hk => h1 k (List.mem_range.1 hk), fun k hk => h2 k (List.mem_range.1 hk)⟩
theorem jbAt_lt {l : List Jb} {i : Nat} (h : i < l.length) : jbAt l i = l[i] := by
 unfold jbAt
 rw [List.getD_eq_getElem?_getD, List.getElem?_eq_getElem h]; rfl
theorem rpB_iff {c : Cl} : rpB c = true ↔ inRng c.i c.s = true ∧ c.b.length ≤ 1048576 := by
 unfold rpB
 rw [Bool.and_eq_true, decide_eq_true_eq]
 constructor <;> rintro ⟨h1, h2⟩ <;> exact ⟨h1, by omega⟩
theorem VD.vld {d : Dk} (h : VD d) : vldB d = true := by
 have hc : ∀ {c : Cl}, okC c → rpB c = true := fun {c} hc => rpB_iff.2 ⟨inRng_iff.2 ⟨hc.1, hc.2.1, hc.2.2.1, hc.2.2.2.1⟩, hc.2.2.2.2.1⟩
 refine vld_yes (fun k hk => ?_) fun k hk => ?_
 ·unfold cellB ordB
  have h1 := hc (h.cs (clAt d.l k) (by rw [clAt_lt hk]; exact List.getElem_mem hk))
  rw [h1, Bool.true_and]
  by_cases h0 : k = 0
  ·simp [h0]
  ·rw [so_at h.so (show k - 1 < k by omega) hk, Bool.or_true]
 ·have hj := h.js (jbAt d.q k) (by rw [jbAt_lt hk]; exact List.getElem_mem hk)
  obtain ⟨g1, g2, g3⟩ := hj
  unfold jobB
  split
  ·rename_i hd
   obtain ⟨e1, e2, e3⟩ := g3 hd
   have e4 : inRng (jbAt d.q k).c.i 0 = true := inRng_iff.2 ⟨g1.1, g1.2.1, by decide, by decide⟩
   have e5 : h0B (jbAt d.q k).c = true := by
    unfold h0B
    rw [List.all_eq_true]
    intro m hm
    rw [e3 m (List.mem_range.1 hm)]; rfl
   rw [e4, e5, e1, e2]; rfl
  ·rename_i hd
   rw [hc g1, g2 (by simpa using hd)]; rfl
theorem rpjob_fun (j : Jb) (hs : Small j.c.b) : Fun C P F_rpjob [jbA j] [] (.sb (jobB j)) [] := by
 refine in_rpjob (W := w_rpjob) rfl 0 (by simp) rfl (fun id h => absurd rfl h) fun D => ?_
 rw [rpjob_A j 0 _, toCl_A]
 have F : jobB j = false → ∀ {S : St}, look S.tm 2 = some (.v (.bool false)) → FunPost C 44 0 [.tmp 2] (.sb (jobB j)) [] .ret S := fun h S g => by rw [h]; exact post_tmp g (sm_b rfl)
 refine ⟨fun hd => ?_, fun hd => ?_⟩
 ·have hd := bnt hd
  have e : jobB j = (rpB j.c && whC j.c) := by unfold jobB; rw [if_neg (by rw [hd]; simp)]
  refine ⟨rproper_fun _, trivial, fun h => ⟨rwhole_fun _ hs (by have := (rpB_iff.1 h).2; omega), trivial, post_tmp rfl (sm_sb (by rw [e, h]; rfl))⟩, fun h => F (by rw [e, h]; rfl) rfl⟩
 ·have hd := bnf hd
  have e : jobB j = (inRng j.c.i 0 && (decide (j.c.s = 0) && (decide (j.c.b.length = 0) && h0B j.c))) := by unfold jobB; rw [if_pos hd]
  have nr : ¬ (0 ≤ j.c.i ∧ j.c.i < 4096) → inRng j.c.i 0 = false := fun h => by
   rw [Bool.eq_false_iff]
   intro h2
   obtain ⟨a, b, _⟩ := inRng_iff.1 h2
   exact h ⟨a, b⟩
  refine ⟨fun h1 => ⟨fun h2 => ⟨fun h3 => ⟨fun h4 => ⟨fun _ _ => ⟨rfl, rfl⟩, post_tmp rfl (sm_sb ?_)⟩, fun h4 => F ?_ rfl⟩, fun h3 => F ?_ rfl⟩, fun h2 => F ?_ rfl⟩, fun h1 => F ?_ rfl⟩
  ·simp only [ge_iff_le, decide_eq_true_eq] at h1 h2
   have h3 : j.c.s = 0 := by simpa using h3
   have h4 : j.c.b.length = 0 := by
    have : ((j.c.b.length : Nat) : Int) = 0 := by simpa using h4
    omega
   rw [e, inRng_iff.2 ⟨h1, h2, by decide, by decide⟩, decide_eq_true h3, decide_eq_true h4]; rfl
  ·have h4 : j.c.b.length ≠ 0 := by
    have : ((j.c.b.length : Nat) : Int) ≠ 0 := by simpa using h4
    omega
   rw [e, decide_eq_false h4]; simp
  ·have h3 : j.c.s ≠ 0 := by simpa using h3
   rw [e, decide_eq_false h3]; simp
  ·simp only [decide_eq_false_iff_not] at h2
   rw [e, nr (fun h => h2 h.2)]; rfl
  ·simp only [ge_iff_le, decide_eq_false_iff_not] at h1
   rw [e, nr (fun h => h1 h.1)]; rfl
structure SmV (d : Dk) : Prop where
  l : d.l.length < 2 ^ 60
  q : d.q.length < 2 ^ 60
  j : ∀ j, j ∈ d.q → Small j.c.b
theorem VD.smV {d : Dk} (h : VD d) (hn : d.l.length + d.q.length < 2 ^ 60) : SmV d := ⟨by omega, by omega, fun j hj => (h.js j hj).1.2.2.2.2.2.1⟩
theorem SmV.at {d : Dk} (h : SmV d) {i : Nat} (hi : i < d.q.length) : Small (jbAt d.q i).c.b := h.j _ (by rw [jbAt_lt hi]; exact List.getElem_mem hi)
theorem rvalid_fun (ex ey : Bool) (d : Dk) (hd : SmV d) : Fun C P F_rvalid [dkA ex ey d] [] (.sb (vldB d)) [] := by
 refine in_rvalid (W := w_rvalid) rfl 0 (by simp) rfl (fun id h => absurd rfl h) fun D => ?_
 rw [rvalid_A ex ey d 0 _]
 have F : vldB d = false → ∀ {S : St}, look S.tm 2 = some (.v (.bool false)) → FunPost C 52 0 [.tmp 2] (.sb (vldB d)) [] .ret S := fun h S g => by rw [h]; exact post_tmp g (sm_b rfl)
 have hl := hd.l
 have hq := hd.q
 refine loop_inv (W := w_rvalid) ctx mixed ok_rvalid_0 (I_rv0 ex ey d) (fun i => i ≤ d.l.length ∧ ∀ k, k < i → cellB d.l k = true) (fun i => d.l.length - i) 0 ⟨Nat.zero_le _, fun k hk => absurd hk (Nat.not_lt_zero k)⟩ ?_ fun i hi => ?_
 ·exact ent_of [(1, 1)] rfl (tm_cons rfl (sm_ptr rfl) (tm_cons rfl (sm_same rfl) tm_nil)) (hp_cons rfl rfl (sm_same rfl) hp_nil)
 obtain ⟨h1, h2⟩ := hi
 refine of_eq (rvalid_L0 ex ey d i 0 _) ?_
 refine ⟨fun h => ?_, fun h => ?_⟩
 ·simp only [decide_eq_true_eq] at h
  have hlt : i < d.l.length := by omega
  rw [toCl_A, toCl_A]
  have step : cellB d.l i = true → (i + 1 ≤ d.l.length ∧ ∀ k, k < i + 1 → cellB d.l k = true) := fun hc => ⟨hlt, fun k hk => by
   by_cases e : k = i
   ·rw [e]; exact hc
   ·exact h2 k (by omega)⟩
  refine ⟨(by first | omega | decide | (unfold I64; omega)), rproper_fun _, trivial, fun h3 => F (vld_noC hlt ?_) rfl, fun h3 => ⟨fun h4 => ?_, fun h4 => ⟨(by first | omega | decide | (unfold I64; omega)), round_end (i + 1) (step ?_) (ent_of [(1, 1)] rfl (tm_cons rfl (sm_ptr rfl) (tm_cons rfl (sm_same rfl) tm_nil)) (hp_cons rfl rfl (sm_same rfl) hp_nil)) (by dsimp only; omega)⟩⟩⟩
  ·unfold cellB; rw [bnt h3]; rfl
  ·simp only [gt_iff_lt, decide_eq_true_eq] at h4
   have e1 : Int.toNat ((i : Int) - 1) = i - 1 := by omega
   rw [e1]
   refine ⟨(by first | omega | decide | (unfold I64; omega)), (by first | omega | decide | (unfold I64; omega)), (by first | omega | decide | (unfold I64; omega)), rbefore_fun _ _, trivial, fun h5 => F (vld_noC hlt ?_) rfl, fun h5 => ⟨(by first | omega | decide | (unfold I64; omega)), round_end (i + 1) (step ?_) (ent_of [(1, 1)] rfl (tm_cons rfl (sm_ptr rfl) (tm_cons rfl (sm_same rfl) tm_nil)) (hp_cons rfl rfl (sm_same rfl) hp_nil)) (by dsimp only; omega)⟩⟩
   ·unfold cellB ordB; rw [bnt h5, decide_eq_false (show ¬ i = 0 by omega)]; simp
   ·unfold cellB ordB; rw [bnf h3, bnf h5]; simp
  ·simp only [gt_iff_lt, decide_eq_false_iff_not] at h4
   unfold cellB ordB; rw [bnf h3, decide_eq_true (show i = 0 by omega)]; rfl
 ·simp only [decide_eq_false_iff_not] at h
  obtain rfl : i = d.l.length := by omega
  refine loop_inv (W := w_rvalid) ctx mixed ok_rvalid_1 (I_rv1 ex ey d) (fun i => i ≤ d.q.length ∧ ∀ k, k < i → jobB (jbAt d.q k) = true) (fun i => d.q.length - i) 0 ⟨Nat.zero_le _, fun k hk => absurd hk (Nat.not_lt_zero k)⟩ ?_ fun i hi => ?_
  ·exact ent_of [(1, 1)] rfl (tm_cons rfl (sm_ptr rfl) (tm_cons rfl (sm_same rfl) tm_nil)) (hp_cons rfl rfl (sm_same rfl) hp_nil)
  obtain ⟨g1, g2⟩ := hi
  refine of_eq (rvalid_L1 ex ey d i 0 _) ?_
  rw [toJb_A]
  refine ⟨fun h => ?_, fun h => ?_⟩
  ·simp only [decide_eq_true_eq] at h
   have hlt : i < d.q.length := by omega
   have m1 := hd.at hlt
   refine ⟨(by first | omega | decide | (unfold I64; omega)), rpjob_fun _ m1, trivial, fun h3 => F (vld_noJ hlt (bnt h3)) rfl, fun h3 => ⟨(by first | omega | decide | (unfold I64; omega)), round_end (i + 1) ⟨hlt, fun k hk => ?_⟩ (ent_of [(1, 1)] rfl (tm_cons rfl (sm_ptr rfl) (tm_cons rfl (sm_same rfl) tm_nil)) (hp_cons rfl rfl (sm_same rfl) hp_nil)) (by dsimp only; omega)⟩⟩
   by_cases e : k = i
   ·rw [e]; exact bnf h3
   ·exact g2 k (by omega)
  ·simp only [decide_eq_false_iff_not] at h
   obtain rfl : i = d.q.length := by omega
   rw [vld_yes h2 g2]
   exact post_tmp rfl (sm_b rfl)
theorem valid_fun (ex ey : Bool) (d : Dk) (hd : SmV d) : Fun C P F_valid [dkA ex ey d] [] (.sb (vldB d)) [] := by
 refine in_valid (W := w_valid) rfl 0 (by simp) rfl (fun id h => absurd rfl h) fun D => ?_
 rw [valid_A ex ey d 0 _]
 have F : vldB d = false → ∀ {S : St}, look S.tm 2 = some (.v (.bool false)) → FunPost C 87 0 [.tmp 2] (.sb (vldB d)) [] .ret S := fun h S g => by rw [h]; exact post_tmp g (sm_b rfl)
 have hl := hd.l
 have hq := hd.q
 refine loop_inv (W := w_valid) ctx mixed ok_valid_0 (I_va0 ex ey d) (fun i => i ≤ d.l.length ∧ ∀ k, k < i → cellB d.l k = true) (fun i => d.l.length - i) 0 ⟨Nat.zero_le _, fun k hk => absurd hk (Nat.not_lt_zero k)⟩ ?_ fun i hi => ?_
 ·exact ent_of [(1, 1)] rfl (tm_cons rfl (sm_ptr rfl) (tm_cons rfl (sm_same rfl) (tm_cons rfl (sm_same rfl) (tm_cons rfl (sm_same rfl) tm_nil)))) (hp_cons rfl rfl (sm_same rfl) hp_nil)
 obtain ⟨h1, h2⟩ := hi
 refine of_eq (valid_L0 ex ey d i 0 _) ?_
 refine ⟨fun h => ?_, fun h => ?_⟩
 ·simp only [decide_eq_true_eq] at h
  have hlt : i < d.l.length := by omega
  rw [toCl_A, toCl_A]
  have step : cellB d.l i = true → (i + 1 ≤ d.l.length ∧ ∀ k, k < i + 1 → cellB d.l k = true) := fun hc => ⟨hlt, fun k hk => by
   by_cases e : k = i
   ·rw [e]; exact hc
   ·exact h2 k (by omega)⟩
  refine ⟨(by first | omega | decide | (unfold I64; omega)), TC4, inrange_fun _, trivial, fun h3 => F (vld_noC hlt ?_) rfl, fun h3 => ⟨fun h4 => F (vld_noC hlt ?_) rfl, fun h4 => ?_⟩⟩
  ·unfold cellB rpB; rw [bnt h3]; rfl
  ·simp only [gt_iff_lt, decide_eq_true_eq] at h4
   unfold cellB rpB; rw [decide_eq_false (show ¬ ((clAt d.l i).b.length : Int) ≤ 1048576 by omega)]; simp
  simp only [gt_iff_lt, decide_eq_false_iff_not] at h4
  have hr : rpB (clAt d.l i) = true := rpB_iff.2 ⟨bnf h3, by omega⟩
  refine ⟨fun h5 => ?_, fun h5 => ⟨(by first | omega | decide | (unfold I64; omega)), round_end (i + 1) (step ?_) (ent_of [(1, 1)] rfl (tm_cons rfl (sm_ptr rfl) (tm_cons rfl (sm_same rfl) (tm_cons rfl (sm_same rfl) (tm_cons rfl (sm_same rfl) tm_nil)))) (hp_cons rfl rfl (sm_same rfl) hp_nil)) (by dsimp only; omega)⟩⟩
  ·simp only [gt_iff_lt, decide_eq_true_eq] at h5
   have e1 : Int.toNat ((i : Int) - 1) = i - 1 := by omega
   rw [e1]
   refine ⟨(by first | omega | decide | (unfold I64; omega)), (by first | omega | decide | (unfold I64; omega)), compare_fun _ _, trivial, fun h6 => F (vld_noC hlt ?_) rfl, fun h6 => ⟨(by first | omega | decide | (unfold I64; omega)), round_end (i + 1) (step ?_) (ent_of [(1, 1)] rfl (tm_cons rfl (sm_ptr rfl) (tm_cons rfl (sm_same rfl) (tm_cons rfl (sm_same rfl) (tm_cons rfl (sm_same rfl) tm_nil)))) (hp_cons rfl rfl (sm_same rfl) hp_nil)) (by dsimp only; omega)⟩⟩
   ·simp only [ge_iff_le, decide_eq_true_eq] at h6
    have : ltC (clAt d.l (i - 1)) (clAt d.l i) = false := by
     rw [Bool.eq_false_iff]
     intro h7
     have := cmpC_neg.2 h7
     omega
    unfold cellB ordB; rw [this, decide_eq_false (show ¬ i = 0 by omega)]; simp
   ·simp only [ge_iff_le, decide_eq_false_iff_not] at h6
    have : ltC (clAt d.l (i - 1)) (clAt d.l i) = true := cmpC_neg.1 (by omega)
    unfold cellB ordB; rw [hr, this]; simp
  ·simp only [gt_iff_lt, decide_eq_false_iff_not] at h5
   unfold cellB ordB; rw [hr, decide_eq_true (show i = 0 by omega)]; rfl
 ·simp only [decide_eq_false_iff_not] at h
  obtain rfl : i = d.l.length := by omega
  refine loop_inv (W := w_valid) ctx mixed ok_valid_1 (I_va1 ex ey d) (fun i => i ≤ d.q.length ∧ ∀ k, k < i → jobB (jbAt d.q k) = true) (fun i => d.q.length - i) 0 ⟨Nat.zero_le _, fun k hk => absurd hk (Nat.not_lt_zero k)⟩ ?_ fun i hi => ?_
  ·exact ent_of [] rfl (tm_cons rfl (sm_same rfl) (tm_cons rfl (sm_same rfl) (tm_cons rfl (sm_same rfl) tm_nil))) hp_nil
  obtain ⟨g1, g2⟩ := hi
  refine of_eq (valid_L1 ex ey d i 0 _) ?_
  refine ⟨fun h => ?_, fun h => ?_⟩
  ·simp only [decide_eq_true_eq] at h
   have hlt : i < d.q.length := by omega
   have m1 := hd.at hlt
   obtain ⟨j, ej⟩ : ∃ j, j = jbAt d.q i := ⟨_, rfl⟩
   rw [toCl_A, ← ej]
   rw [← ej] at m1
   have step : jobB j = true → (i + 1 ≤ d.q.length ∧ ∀ k, k < i + 1 → jobB (jbAt d.q k) = true) := fun hc => ⟨hlt, fun k hk => by
    by_cases e : k = i
    ·rw [e, ← ej]; exact hc
    ·exact g2 k (by omega)⟩
   have no : jobB j = false → vldB d = false := fun hj => vld_noJ hlt (by rw [← ej]; exact hj)
   have eT : j.dr = true → jobB j = (inRng j.c.i 0 && (decide (j.c.s = 0) && (decide (j.c.b.length = 0) && h0B j.c))) := fun hd => by unfold jobB; rw [if_pos hd]
   have eF : j.dr = false → jobB j = (rpB j.c && whC j.c) := fun hd => by unfold jobB; rw [if_neg (by rw [hd]; simp)]
   have inr : inRng j.c.i j.c.s = false → jobB j = false := fun hr => by
    cases hdr : j.dr with
    | true =>
     rw [eT hdr]
     by_cases h0 : j.c.s = 0
     ·rw [h0] at hr; rw [hr]; rfl
     ·rw [decide_eq_false h0]; simp
    | false => rw [eF hdr]; unfold rpB; rw [hr]; rfl
   refine ⟨(by first | omega | decide | (unfold I64; omega)), ⟨⟨rfl, rfl⟩, TC4, trivial⟩, TC4, inrange_fun _, trivial, fun h3 => F (no (inr (bnt h3))) rfl, fun h3 => ⟨fun h4 => F (no ?_) rfl, fun h4 => ?_⟩⟩
   ·simp only [gt_iff_lt, decide_eq_true_eq] at h4
    cases hdr : j.dr with
    | true => rw [eT hdr, decide_eq_false (show ¬ j.c.b.length = 0 by omega)]; simp
    | false => rw [eF hdr]; unfold rpB; rw [decide_eq_false (show ¬ (j.c.b.length : Int) ≤ 1048576 by omega)]; simp
   simp only [gt_iff_lt, decide_eq_false_iff_not] at h4
   have hr : rpB j.c = true := rpB_iff.2 ⟨bnf h3, by omega⟩
   have h3 := bnf h3
   refine ⟨fun h5 => ?_, fun h5 => ?_⟩
   ·have h5 := bnt h5
    refine ⟨whole_fun _ m1 (by omega), trivial, fun h6 => F (no (by rw [eF h5, bnt h6]; simp)) rfl, fun h6 => ⟨fun h7 => tf_no h7 h5 |>.elim, fun _ => ⟨(by first | omega | decide | (unfold I64; omega)), round_end (i + 1) (step (by rw [eF h5, hr, bnf h6]; rfl)) (ent_of [] rfl (tm_cons rfl (sm_same rfl) (tm_cons rfl (sm_same rfl) (tm_cons rfl (sm_same rfl) tm_nil))) hp_nil) (by dsimp only; omega)⟩⟩⟩
   ·have h5 := bnf h5
    refine ⟨fun _ => ⟨fun h6 => F (no ?_) rfl, fun h6 => ⟨fun h7 => F (no ?_) rfl, fun h7 => ⟨fun _ _ => ⟨rfl, rfl⟩, fun h8 => F (no ?_) rfl, fun h8 => ⟨(by first | omega | decide | (unfold I64; omega)), round_end (i + 1) (step ?_) (ent_of [] rfl (tm_cons rfl (sm_same rfl) (tm_cons rfl (sm_same rfl) (tm_cons rfl (sm_same rfl) tm_nil))) hp_nil) (by dsimp only; omega)⟩⟩⟩⟩, fun h7 => tf_no h5 h7 |>.elim⟩
    ·have h6 : j.c.s ≠ 0 := by simpa using h6
     rw [eT h5, decide_eq_false h6]; simp
    ·simp only [gt_iff_lt, decide_eq_true_eq] at h7
     rw [eT h5, decide_eq_false (show ¬ j.c.b.length = 0 by omega)]; simp
    ·have h8 : h0B j.c = false := bnt h8
     rw [eT h5, h8]; simp
    ·have h6 : j.c.s = 0 := by simpa using h6
     simp only [gt_iff_lt, decide_eq_false_iff_not] at h7
     have h8 : h0B j.c = true := bnf h8
     rw [h6] at h3
     rw [eT h5, h3, h8, decide_eq_true h6, decide_eq_true (show j.c.b.length = 0 by omega)]; rfl
  ·simp only [decide_eq_false_iff_not] at h
   obtain rfl : i = d.q.length := by omega
   rw [vld_yes h2 g2]
   exact post_tmp rfl (sm_b rfl)
end Go.Bu.W

