/- Jobs put, dropped; the reference's ones. -/
import Derived.Test.YtoaefniopgmoaaaDoorK17
namespace Go.Bu.W
open Sp
def crPut : List AV → Option (AV × List (Nat × Blk))
 | [x, i, s, .dat n _ _ f] => some (.tup [dkA false false (putD (toDk x) (asI i) (asI s) (bytesL n f)), .i (putE (asI i) (asI s) (bytesL n f))], [])
 | _ => none
def crRPut : List AV → Option (AV × List (Nat × Blk))
 | [x, i, s, .dat n _ _ f] => some (.st [dkA false false (putD (toDk x) (asI i) (asI s) (bytesL n f)), .i (putE (asI i) (asI s) (bytesL n f))], [])
 | _ => none
def crDrop : List AV → Option (AV × List (Nat × Blk))
 | [x, i] => some (dkA false false (dropD (toDk x) (asI i)), [])
 | _ => none
def rpB (c : Cl) : Bool := inRng c.i c.s && decide ((c.b.length : Int) ≤ 1048576)
def crRProper : List AV → Option (AV × List (Nat × Blk))
 | [x] => some (.sb (rpB (toCl x)), [])
 | _ => none
def crBefore : List AV → Option (AV × List (Nat × Blk))
 | [x, y] => some (.sb (ltC (toCl x) (toCl y)), [])
 | _ => none
def crS4 (g : Nat) (args : List AV) (H : List (Nat × Blk)) : Option (AV × List (Nat × Blk)) :=
 sel (Nat.beq g F_put) (crPut args) <| sel (Nat.beq g F_lput) (crRPut args) <| sel (Nat.beq g F_rput) (crRPut args) <| sel (Nat.beq g F_drop) (crDrop args) <| sel (Nat.beq g F_rdrop) (crDrop args) <| sel (Nat.beq g F_rqueued) (crPush args) <|
 sel (Nat.beq g F_rproper) (crRProper args) <| sel (Nat.beq g F_rbefore) (crBefore args) <| crS3 g args H
def wayG (keep : List Nat) (nt : Nat) (cuts : List Nat) : Way := ⟨crS4, fun _ => false, keep, [], nt, cuts, []⟩
def w_put : Way := wayG [0, 1, 2, 3, 4, 8, 9, 10, 16, 21] 33 []
def w_drop : Way := wayG [0, 1, 2, 4, 5, 10] 16 []
def w_rqueued : Way := wayG [0, 1, 2, 3, 4, 5] 16 []
def w_rdrop : Way := wayG [0, 1, 2, 4, 10] 17 []
def w_lput : Way := wayG [0, 1, 2, 3, 4, 8, 9, 10] 22 []
abbrev dbA (ex : Bool) (b : List Nat) : AV := .dat b.length ex 1 (rowL b)
theorem put_A (ex ey : Bool) (d : Dk) (i s : Int) (ez : Bool) (b : List Nat) {D : Dom} (K : Nat) (Φ : Ex → St → Prop) :
 (Holds C P 33 D K Φ (vc C w_put b_put [] (start [dkA ex ey d, .i i, .i s, dbA ez b] []) lf)) =
 (Fun C P 62 [(AV.dat (List.length b) ez 1 (rowL b))] [] (AV.dat (List.length b) false 1 (rowL b)) [] ∧
 ((((true = true) ∧ (true = true)) ∧ (((true = true) ∧ (true = true)) ∧ (((true = true) ∧ (true = true)) ∧ (((32 = 32) ∧ ((1 = 1) ∧ (∀ (i1 : Nat), ((i1 < 32) → ((true = true) ∧ (true = true)))))) ∧ True)))) ∧
 (Fun C P 40 [(AV.st [(AV.i i), (AV.i s), (AV.dat (List.length b) false 1 (rowL b)), (AV.arr 32 1 (fun (x : Nat) => (AV.v (Value.int IntKind.u8 (0 : Int)))))])] [] (AV.sb (inRng (Cl.i (toCl (AV.st [(AV.i i), (AV.i s), (AV.dat (List.length b) false 1 (rowL b)), (AV.arr 32 1 (fun (x : Nat) => (AV.v (Value.int IntKind.u8 (0 : Int)))))]))) (Cl.s (toCl (AV.st [(AV.i i), (AV.i s), (AV.dat (List.length b) false 1 (rowL b)), (AV.arr 32 1 (fun (x : Nat) => (AV.v (Value.int IntKind.u8 (0 : Int)))))]))))) [] ∧
 (True ∧
 (((! (inRng (Cl.i (toCl (AV.st [(AV.i i), (AV.i s), (AV.dat (List.length b) false 1 (rowL b)), (AV.arr 32 1 (fun (x : Nat) => (AV.v (Value.int IntKind.u8 (0 : Int)))))]))) (Cl.s (toCl (AV.st [(AV.i i), (AV.i s), (AV.dat (List.length b) false 1 (rowL b)), (AV.arr 32 1 (fun (x : Nat) => (AV.v (Value.int IntKind.u8 (0 : Int)))))]))))) = true →
 ((((true = true) ∧ (true = true)) ∧ (((true = true) ∧ (true = true)) ∧ True)) ∧
 (Φ Ex.ret (St.mk [(0, (dkA ex ey d)), (1, (AV.i i)), (2, (AV.i s)), (3, (AV.dat (List.length b) ez 1 (rowL b))), (4, (AV.ptr 4 [])), (8, (AV.ptr 8 [])), (9, (AV.i (1 : Int))), (10, (AV.ptr 10 [])), (16, (AV.v (Value.bool true)))] [(4, (Blk.c (dkA ex ey d))), (8, (Blk.c (dkA ex ey d))), (10, (Blk.c (AV.st [(AV.i i), (AV.i s), (AV.dat (List.length b) false 1 (rowL b)), (AV.arr 32 1 (fun (x : Nat) => (AV.v (Value.int IntKind.u8 (0 : Int)))))])))] [10, 8, 4])))) ∧
 ((! (inRng (Cl.i (toCl (AV.st [(AV.i i), (AV.i s), (AV.dat (List.length b) false 1 (rowL b)), (AV.arr 32 1 (fun (x : Nat) => (AV.v (Value.int IntKind.u8 (0 : Int)))))]))) (Cl.s (toCl (AV.st [(AV.i i), (AV.i s), (AV.dat (List.length b) false 1 (rowL b)), (AV.arr 32 1 (fun (x : Nat) => (AV.v (Value.int IntKind.u8 (0 : Int)))))]))))) = false →
 (((decide ((((List.length b) : Nat) : Int) > (1048576 : Int))) = true →
 ((((true = true) ∧ (true = true)) ∧ (((true = true) ∧ (true = true)) ∧ True)) ∧
 (Φ Ex.ret (St.mk [(0, (dkA ex ey d)), (1, (AV.i i)), (2, (AV.i s)), (3, (AV.dat (List.length b) ez 1 (rowL b))), (4, (AV.ptr 4 [])), (8, (AV.ptr 8 [])), (9, (AV.i (2 : Int))), (10, (AV.ptr 10 [])), (16, (AV.v (Value.bool false))), (21, (AV.v (Value.bool true)))] [(4, (Blk.c (dkA ex ey d))), (8, (Blk.c (dkA ex ey d))), (10, (Blk.c (AV.st [(AV.i i), (AV.i s), (AV.dat (List.length b) false 1 (rowL b)), (AV.arr 32 1 (fun (x : Nat) => (AV.v (Value.int IntKind.u8 (0 : Int)))))])))] [10, 8, 4])))) ∧
 ((decide ((((List.length b) : Nat) : Int) > (1048576 : Int))) = false →
 (Fun C P 63 [(AV.dat (List.length b) ez 1 (rowL b))] [] (hA (Sp.sumN (bytesL (List.length b) (rowL b)))) [] ∧
 ((∀ (i1 : Nat), ((i1 < 32) → True)) ∧
 (((32 = 32) ∧ ((1 = 1) ∧ (∀ (i1 : Nat), ((i1 < 32) → ((true = true) ∧ (true = true)))))) ∧
 (Fun C P 41 [(dkA ex ey d), (AV.st [(AV.v (Value.bool false)), (AV.st [(AV.i i), (AV.i s), (AV.dat (List.length b) false 1 (rowL b)), (hA (Sp.sumN (bytesL (List.length b) (rowL b))))])])] [] (dkA false false (pushD (toDk (dkA ex ey d)) (toJb (AV.st [(AV.v (Value.bool false)), (AV.st [(AV.i i), (AV.i s), (AV.dat (List.length b) false 1 (rowL b)), (hA (Sp.sumN (bytesL (List.length b) (rowL b))))])])))) [] ∧
 ((((true = true) ∧ (true = true)) ∧ (((true = true) ∧ (true = true)) ∧ True)) ∧
 (Φ Ex.ret (St.mk [(0, (dkA ex ey d)), (1, (AV.i i)), (2, (AV.i s)), (3, (AV.dat (List.length b) ez 1 (rowL b))), (4, (AV.ptr 4 [])), (8, (AV.ptr 8 [])), (9, (AV.i (0 : Int))), (10, (AV.ptr 10 [])), (16, (AV.v (Value.bool false))), (21, (AV.v (Value.bool false)))] [(4, (Blk.c (dkA ex ey d))), (8, (Blk.c (dkA false false (pushD (toDk (dkA ex ey d)) (toJb (AV.st [(AV.v (Value.bool false)), (AV.st [(AV.i i), (AV.i s), (AV.dat (List.length b) false 1 (rowL b)), (hA (Sp.sumN (bytesL (List.length b) (rowL b))))])])))))), (10, (Blk.c (AV.st [(AV.i i), (AV.i s), (AV.dat (List.length b) false 1 (rowL b)), (hA (Sp.sumN (bytesL (List.length b) (rowL b))))])))] [10, 8, 4]))))))))))))))) := by kernel_rfl
theorem lput_A (ex ey : Bool) (d : Dk) (i s : Int) (ez : Bool) (b : List Nat) {D : Dom} (K : Nat) (Φ : Ex → St → Prop) :
 (Holds C P 22 D K Φ (vc C w_lput b_lput [] (start [dkA ex ey d, .i i, .i s, dbA ez b] []) lf)) =
 (Fun C P 39 [(dkA ex ey d), (AV.i i), (AV.i s), (AV.dat (List.length b) ez 1 (rowL b))] [] (AV.tup [(dkA false false (putD (toDk (dkA ex ey d)) i s (bytesL (List.length b) (rowL b)))), (AV.i (putE i s (bytesL (List.length b) (rowL b))))]) [] ∧
 ((((true = true) ∧ (true = true)) ∧ (((true = true) ∧ (true = true)) ∧ True)) ∧
 (((((true = true) ∧ (true = true)) ∧ (((true = true) ∧ (true = true)) ∧ True)) ∧ (((true = true) ∧ (true = true)) ∧ True)) ∧
 (Φ Ex.ret (St.mk [(0, (dkA ex ey d)), (1, (AV.i i)), (2, (AV.i s)), (3, (AV.dat (List.length b) ez 1 (rowL b))), (4, (AV.ptr 4 [])), (8, (AV.ptr 8 [])), (9, (AV.ptr 9 [])), (10, (AV.i (putE i s (bytesL (List.length b) (rowL b)))))] [(4, (Blk.c (dkA ex ey d))), (8, (Blk.c (AV.st [(dkA false false (putD (toDk (dkA ex ey d)) i s (bytesL (List.length b) (rowL b)))), (AV.i (putE i s (bytesL (List.length b) (rowL b))))]))), (9, (Blk.c (dkA false false (putD (toDk (dkA ex ey d)) i s (bytesL (List.length b) (rowL b))))))] [9, 8, 4]))))) := by kernel_rfl
theorem drop_A (ex ey : Bool) (d : Dk) (i : Int) {D : Dom} (K : Nat) (Φ : Ex → St → Prop) :
 (Holds C P 16 D K Φ (vc C w_drop b_drop [] (start [dkA ex ey d, .i i] []) lf)) =
 ((((true = true) ∧ (true = true)) ∧ (((true = true) ∧ (true = true)) ∧ (((true = true) ∧ (true = true)) ∧ (((32 = 32) ∧ ((1 = 1) ∧ (∀ (i1 : Nat), ((i1 < 32) → ((true = true) ∧ (true = true)))))) ∧ True)))) ∧
 (Fun C P 40 [(AV.st [(AV.i i), (AV.i (0 : Int)), (AV.dat 0 true 0 (fun (x : Nat) => (AV.v (Value.tuple #[])))), (AV.arr 32 1 (fun (x : Nat) => (AV.v (Value.int IntKind.u8 (0 : Int)))))])] [] (AV.sb (inRng (Cl.i (toCl (AV.st [(AV.i i), (AV.i (0 : Int)), (AV.dat 0 true 0 (fun (x : Nat) => (AV.v (Value.tuple #[])))), (AV.arr 32 1 (fun (x : Nat) => (AV.v (Value.int IntKind.u8 (0 : Int)))))]))) (Cl.s (toCl (AV.st [(AV.i i), (AV.i (0 : Int)), (AV.dat 0 true 0 (fun (x : Nat) => (AV.v (Value.tuple #[])))), (AV.arr 32 1 (fun (x : Nat) => (AV.v (Value.int IntKind.u8 (0 : Int)))))]))))) [] ∧
 (True ∧
 (((! (inRng (Cl.i (toCl (AV.st [(AV.i i), (AV.i (0 : Int)), (AV.dat 0 true 0 (fun (x : Nat) => (AV.v (Value.tuple #[])))), (AV.arr 32 1 (fun (x : Nat) => (AV.v (Value.int IntKind.u8 (0 : Int)))))]))) (Cl.s (toCl (AV.st [(AV.i i), (AV.i (0 : Int)), (AV.dat 0 true 0 (fun (x : Nat) => (AV.v (Value.tuple #[])))), (AV.arr 32 1 (fun (x : Nat) => (AV.v (Value.int IntKind.u8 (0 : Int)))))]))))) = true →
 ((((true = true) ∧ (true = true)) ∧ (((true = true) ∧ (true = true)) ∧ True)) ∧
 (Φ Ex.ret (St.mk [(0, (dkA ex ey d)), (1, (AV.i i)), (2, (AV.ptr 2 [])), (4, (AV.ptr 4 [])), (5, (AV.ptr 5 [])), (10, (AV.v (Value.bool true)))] [(2, (Blk.c (dkA ex ey d))), (4, (Blk.c (dkA ex ey d))), (5, (Blk.c (AV.st [(AV.i i), (AV.i (0 : Int)), (AV.dat 0 true 0 (fun (x : Nat) => (AV.v (Value.tuple #[])))), (AV.arr 32 1 (fun (x : Nat) => (AV.v (Value.int IntKind.u8 (0 : Int)))))])))] [5, 4, 2])))) ∧
 ((! (inRng (Cl.i (toCl (AV.st [(AV.i i), (AV.i (0 : Int)), (AV.dat 0 true 0 (fun (x : Nat) => (AV.v (Value.tuple #[])))), (AV.arr 32 1 (fun (x : Nat) => (AV.v (Value.int IntKind.u8 (0 : Int)))))]))) (Cl.s (toCl (AV.st [(AV.i i), (AV.i (0 : Int)), (AV.dat 0 true 0 (fun (x : Nat) => (AV.v (Value.tuple #[])))), (AV.arr 32 1 (fun (x : Nat) => (AV.v (Value.int IntKind.u8 (0 : Int)))))]))))) = false →
 (Fun C P 41 [(dkA ex ey d), (AV.st [(AV.v (Value.bool true)), (AV.st [(AV.i i), (AV.i (0 : Int)), (AV.dat 0 true 0 (fun (x : Nat) => (AV.v (Value.tuple #[])))), (AV.arr 32 1 (fun (x : Nat) => (AV.v (Value.int IntKind.u8 (0 : Int)))))])])] [] (dkA false false (pushD (toDk (dkA ex ey d)) (toJb (AV.st [(AV.v (Value.bool true)), (AV.st [(AV.i i), (AV.i (0 : Int)), (AV.dat 0 true 0 (fun (x : Nat) => (AV.v (Value.tuple #[])))), (AV.arr 32 1 (fun (x : Nat) => (AV.v (Value.int IntKind.u8 (0 : Int)))))])])))) [] ∧
 ((((true = true) ∧ (true = true)) ∧ (((true = true) ∧ (true = true)) ∧ True)) ∧
 (Φ Ex.ret (St.mk [(0, (dkA ex ey d)), (1, (AV.i i)), (2, (AV.ptr 2 [])), (4, (AV.ptr 4 [])), (5, (AV.ptr 5 [])), (10, (AV.v (Value.bool false)))] [(2, (Blk.c (dkA ex ey d))), (4, (Blk.c (dkA false false (pushD (toDk (dkA ex ey d)) (toJb (AV.st [(AV.v (Value.bool true)), (AV.st [(AV.i i), (AV.i (0 : Int)), (AV.dat 0 true 0 (fun (x : Nat) => (AV.v (Value.tuple #[])))), (AV.arr 32 1 (fun (x : Nat) => (AV.v (Value.int IntKind.u8 (0 : Int)))))])])))))), (5, (Blk.c (AV.st [(AV.i i), (AV.i (0 : Int)), (AV.dat 0 true 0 (fun (x : Nat) => (AV.v (Value.tuple #[])))), (AV.arr 32 1 (fun (x : Nat) => (AV.v (Value.int IntKind.u8 (0 : Int)))))])))] [5, 4, 2]))))))))) := by kernel_rfl
set_option maxRecDepth 1000000 in
theorem rdrop_A (ex ey : Bool) (d : Dk) (i : Int) {D : Dom} (K : Nat) (Φ : Ex → St → Prop) :
 (Holds C P 17 D K Φ (vc C w_rdrop b_rdrop [] (start [dkA ex ey d, .i i] []) lf)) =
 (((decide (i < (0 : Int))) = true →
 ((((true = true) ∧ (true = true)) ∧ (((true = true) ∧ (true = true)) ∧ True)) ∧
 (Φ Ex.ret (St.mk [(0, (dkA ex ey d)), (1, (AV.i i)), (2, (AV.ptr 2 [])), (4, (AV.ptr 4 [])), (10, (AV.v (Value.bool true)))] [(2, (Blk.c (dkA ex ey d))), (4, (Blk.c (dkA ex ey d)))] [4, 2])))) ∧
 ((decide (i < (0 : Int))) = false →
 (((decide (i ≥ (4096 : Int))) = true →
 ((((true = true) ∧ (true = true)) ∧ (((true = true) ∧ (true = true)) ∧ True)) ∧
 (Φ Ex.ret (St.mk [(0, (dkA ex ey d)), (1, (AV.i i)), (2, (AV.ptr 2 [])), (4, (AV.ptr 4 [])), (10, (AV.v (Value.bool true)))] [(2, (Blk.c (dkA ex ey d))), (4, (Blk.c (dkA ex ey d)))] [4, 2])))) ∧
 ((decide (i ≥ (4096 : Int))) = false →
 (Fun C P 60 [(dkA ex ey d), (AV.st [(AV.v (Value.bool true)), (AV.st [(AV.i i), (AV.i (0 : Int)), (AV.dat 0 true 0 (fun (x : Nat) => (AV.v (Value.tuple #[])))), (AV.arr 32 1 (fun (x : Nat) => (AV.v (Value.int IntKind.u8 (0 : Int)))))])])] [] (dkA false false (pushD (toDk (dkA ex ey d)) (toJb (AV.st [(AV.v (Value.bool true)), (AV.st [(AV.i i), (AV.i (0 : Int)), (AV.dat 0 true 0 (fun (x : Nat) => (AV.v (Value.tuple #[])))), (AV.arr 32 1 (fun (x : Nat) => (AV.v (Value.int IntKind.u8 (0 : Int)))))])])))) [] ∧
 ((((true = true) ∧ (true = true)) ∧ (((true = true) ∧ (true = true)) ∧ True)) ∧
 (Φ Ex.ret (St.mk [(0, (dkA ex ey d)), (1, (AV.i i)), (2, (AV.ptr 2 [])), (4, (AV.ptr 4 [])), (10, (AV.v (Value.bool false)))] [(2, (Blk.c (dkA ex ey d))), (4, (Blk.c (dkA false false (pushD (toDk (dkA ex ey d)) (toJb (AV.st [(AV.v (Value.bool true)), (AV.st [(AV.i i), (AV.i (0 : Int)), (AV.dat 0 true 0 (fun (x : Nat) => (AV.v (Value.tuple #[])))), (AV.arr 32 1 (fun (x : Nat) => (AV.v (Value.int IntKind.u8 (0 : Int)))))])]))))))] [4, 2])))))))) := by kernel_rfl
theorem rqueued_A (ex ey : Bool) (d : Dk) (j : Jb) {D : Dom} (K : Nat) (Φ : Ex → St → Prop) :
 (Holds C P 16 D K Φ (vc C w_rqueued b_rqueued [] (start [dkA ex ey d, jbA j] []) lf)) =
 ((((0 + (List.length (Dk.q d))) * 80) ≤ 140737488355328) ∧
 (((((0 + (List.length (Dk.q d))) + 1) * 80) ≤ 140737488355328) ∧
 ((((true = true) ∧ (true = true)) ∧ (((true = true) ∧ (true = true)) ∧ True)) ∧
 (Φ Ex.ret (St.mk [(0, (dkA ex ey d)), (1, (jbA j)), (2, (AV.ptr 2 [])), (3, (AV.ptr 3 [])), (4, (AV.ptr 4 [])), (5, (AV.sl 9 [] 0 (0 + (List.length (Dk.q d))) (0 + (List.length (Dk.q d))) false 36))] [(2, (Blk.c (AV.st [(csA ex (Dk.l d)), (AV.sl 13 [] 0 ((0 + (List.length (Dk.q d))) + 1) ((0 + (List.length (Dk.q d))) + 1) false 36)]))), (3, (Blk.c (jbA j))), (4, (Blk.c (AV.st [(csA ex (Dk.l d)), (AV.sl 13 [] 0 ((0 + (List.length (Dk.q d))) + 1) ((0 + (List.length (Dk.q d))) + 1) false 36)]))), (12, (Blk.c (AV.st [(jbA j)]))), (13, (Blk.c (AV.arr ((0 + (List.length (Dk.q d))) + 1) 36 (cat (0 + (List.length (Dk.q d))) (fun (i : Nat) => (jbA (jbAt (Dk.q d) (0 + i)))) (fun (i : Nat) => (nthD [(jbA j)] (0 + i) (AV.v (Value.tuple #[]))))))))] [13, 12, 9, 6, 4, 3, 2]))))) := by kernel_rfl
theorem toCl_raw (i s : Int) (b : List Nat) (ex : Bool) : toCl (AV.st [(AV.i i), (AV.i s), (AV.dat (List.length b) ex 1 (rowL b)), (AV.arr 32 1 (fun (_ : Nat) => (AV.v (Value.int IntKind.u8 (0 : Int)))))]) = ⟨i, s, b, hz⟩ := by
 show Cl.mk (asI (.i i)) (asI (.i s)) (bytesL b.length (rowL b)) hz = _
 rw [bytesL_row]; rfl
abbrev nilS : AV := AV.dat 0 true 0 (fun (_ : Nat) => (AV.v (Value.tuple (List.toArray []))))
abbrev zH : AV := AV.arr 32 1 (fun (_ : Nat) => (AV.v (Value.int IntKind.u8 (0 : Int))))
theorem toCl_nil (i s : Int) : toCl (AV.st [(AV.i i), (AV.i s), nilS, zH]) = ⟨i, s, [], hz⟩ := rfl
theorem sm_nilS {m : Nat → Option Nat} (f : Nat → AV) : simR m nilS (.dat 0 false 1 f) := .inr ⟨rfl, by simp, .inl rfl, fun i hi => absurd hi (Nat.not_lt_zero i)⟩
theorem sm_nilC {m : Nat → Option Nat} (i s : Int) : simR m (AV.st [(AV.i i), (AV.i s), nilS, zH]) (clA ⟨i, s, [], hz⟩) := sm_st (sms_cons (sm_int rfl) (sms_cons (sm_int rfl) (sms_cons (sm_nilS _) (sms_cons (sm_arr fun k _ => rfl) sms_nil))))
theorem sm_dk {m : Nat → Option Nat} (ex ey : Bool) (d : Dk) : simR m (dkA ex ey d) (dkA false false d) := sm_st (sms_cons (sm_dat (by simp) fun i _ => rfl) (sms_cons (sm_dat (by simp) fun i _ => rfl) sms_nil))
abbrev TD2 : (((true = true) ∧ (true = true)) ∧ (((true = true) ∧ (true = true)) ∧ True)) := ⟨⟨rfl, rfl⟩, ⟨rfl, rfl⟩, trivial⟩
abbrev TC4 : (((true = true) ∧ (true = true)) ∧ (((true = true) ∧ (true = true)) ∧ (((true = true) ∧ (true = true)) ∧ (((32 = 32) ∧ ((1 = 1) ∧ (∀ (i1 : Nat), ((i1 < 32) → ((true = true) ∧ (true = true)))))) ∧ True)))) := ⟨⟨rfl, rfl⟩, ⟨rfl, rfl⟩, ⟨rfl, rfl⟩, ⟨rfl, rfl, fun _ _ => ⟨rfl, rfl⟩⟩, trivial⟩
theorem drop_fun (ex ey : Bool) (d : Dk) (i : Int) (hn : d.q.length < 2 ^ 38) : Fun C P F_drop [dkA ex ey d, .i i] [] (dkA false false (dropD d i)) [] := by
 refine in_drop (W := w_drop) rfl 0 (by simp) rfl (fun id h => absurd rfl h) fun D => ?_
 refine of_eq (drop_A ex ey d i 0 _) ?_
 rw [toCl_nil, toDk_A]
 have hj : toJb (AV.st [(AV.v (Value.bool true)), (AV.st [(AV.i i), (AV.i (0 : Int)), nilS, zH])]) = dropJ i := rfl
 rw [hj]
 have hp : Fun C P F_push [dkA ex ey d, AV.st [(AV.v (Value.bool true)), (AV.st [(AV.i i), (AV.i (0 : Int)), nilS, zH])]] [] (dkA false false (pushD d (dropJ i))) [] := (push_fun ex ey d (dropJ i) hn).sim ⟨sm_same rfl, sm_st (sms_cons (sm_b rfl) (sms_cons (sm_nilC i 0) sms_nil)), trivial⟩ trivial
 refine ⟨TC4, (inrange_fun ⟨i, 0, [], hz⟩).sim ⟨sm_nilC i 0, trivial⟩ trivial, trivial, fun h => ?_, fun h => ?_⟩
 ·have e : dropD d i = d := by
   unfold dropD
   rw [if_neg]
   intro h2
   rw [show inRng i 0 = true from h2] at h; cases h
  rw [e]
  exact ⟨TD2, post_cell rfl rfl (sm_dk ex ey d) rfl⟩
 ·have e : dropD d i = pushD d (dropJ i) := by
   unfold dropD
   rw [if_pos]
   have h : (!inRng i 0) = false := h
   simpa using h
  rw [e]
  exact ⟨hp, TD2, post_cell rfl rfl (sm_same rfl) rfl⟩
theorem put_fun (ex ey : Bool) (d : Dk) (i s : Int) (ez : Bool) (b : List Nat) (hs : Small b) (hb : b.length < 2 ^ 40) (hn : d.q.length < 2 ^ 38) : Fun C P F_put [dkA ex ey d, .i i, .i s, dbA ez b] [] (.tup [dkA false false (putD d i s b), .i (putE i s b)]) [] := by
 refine in_put (W := w_put) rfl 0 (by simp) rfl (fun id h => absurd rfl h) fun D => ?_
 refine of_eq (put_A ex ey d i s ez b 0 _) ?_
 rw [toCl_raw, toDk_A, bytesL_row]
 have hj : toJb (AV.st [(AV.v (Value.bool false)), (AV.st [(AV.i i), (AV.i s), (AV.dat (List.length b) false 1 (rowL b)), (hA (sumN b))])]) = putJ i s b := by
  show Jb.mk false (Cl.mk (asI (.i i)) (asI (.i s)) (bytesL b.length (rowL b)) (sumN b)) = _
  rw [bytesL_row]; rfl
 rw [hj]
 have hsum := sum_call (n := b.length) (e := 1) (ex := ez) (f := rowL b) (fun i _ => ⟨rfl, getD_small hs i⟩) (.inr rfl) (by omega)
 rw [bytesL_row] at hsum
 have hp : Fun C P F_push [dkA ex ey d, AV.st [(AV.v (Value.bool false)), (AV.st [(AV.i i), (AV.i s), (AV.dat (List.length b) false 1 (rowL b)), (hA (sumN b))])]] [] (dkA false false (pushD d (putJ i s b))) [] := (push_fun ex ey d (putJ i s b) hn).sim ⟨sm_same rfl, sm_st (sms_cons (sm_b rfl) (sms_cons (sm_same rfl) sms_nil)), trivial⟩ trivial
 refine ⟨cloneB_fun ez b hb, TC4, inrange_fun ⟨i, s, b, hz⟩, trivial, fun h => ?_, fun h => ⟨fun h2 => ?_, fun h2 => ?_⟩⟩
 ·have h : (!inRng i s) = true := h
  have h0 : ¬ inRng i s = true := by simpa using h
  rw [show putD d i s b = d by unfold putD; rw [if_neg h0], show putE i s b = 1 by unfold putE; rw [if_neg h0]]
  exact ⟨TD2, post_cell_tmp rfl rfl (sm_dk ex ey d) rfl rfl (sm_int rfl) rfl rfl⟩
 ·have h : (!inRng i s) = false := h
  have h0 : inRng i s = true := by simpa using h
  have h3 : 1048576 < b.length := by simp only [decide_eq_true_eq] at h2; omega
  rw [show putD d i s b = d by unfold putD; rw [if_pos h0, if_pos h3], show putE i s b = 2 by unfold putE; rw [if_pos h0, if_pos h3]]
  exact ⟨TD2, post_cell_tmp rfl rfl (sm_dk ex ey d) rfl rfl (sm_int rfl) rfl rfl⟩
 ·have h : (!inRng i s) = false := h
  have h0 : inRng i s = true := by simpa using h
  have h3 : ¬ 1048576 < b.length := by simp only [decide_eq_false_iff_not] at h2; omega
  rw [show putD d i s b = pushD d (putJ i s b) by unfold putD; rw [if_pos h0, if_neg h3], show putE i s b = 0 by unfold putE; rw [if_pos h0, if_neg h3]]
  exact ⟨hsum, fun _ _ => trivial, ⟨rfl, rfl, fun _ _ => ⟨rfl, rfl⟩⟩, hp, TD2, post_cell_tmp rfl rfl (sm_same rfl) rfl rfl (sm_int rfl) rfl rfl⟩
theorem jb_row0 {q : List Jb} {j : Jb} {i : Nat} (hi : i < q.length + 1) : cat (0 + q.length) (fun (i : Nat) => jbA (jbAt q (0 + i))) (fun (i : Nat) => nthD [jbA j] (0 + i) (AV.v (Value.tuple (List.toArray [])))) (0 + i) = jbA (jbAt (q ++ [j]) i) := by
 have e : (fun (i : Nat) => jbA (jbAt q (0 + i))) = fun i => jbA (jbAt q i) := by funext i; rw [Nat.zero_add]
 rw [e, Nat.zero_add q.length]
 exact jb_row hi
theorem rqueued_fun (ex ey : Bool) (d : Dk) (j : Jb) (hn : d.q.length < 2 ^ 38) : Fun C P F_rqueued [dkA ex ey d, jbA j] [] (dkA false false (pushD d j)) [] := by
 refine in_rqueued (W := w_rqueued) rfl 0 (by simp) rfl (fun id h => absurd rfl h) fun D => ?_
 exact of_eq (rqueued_A ex ey d j 0 _) ⟨by omega, by omega, ⟨⟨rfl, rfl⟩, ⟨rfl, rfl⟩, trivial⟩, post_frz [13] (post_cell rfl rfl (sm_st (sms_cons (sm_dat (by simp) fun i _ => rfl) (sms_cons (sm_dat' (by simp [pushD]) (by simp) fun i hi => jb_row0 (by omega)) sms_nil))) rfl)⟩
theorem rdrop_fun (ex ey : Bool) (d : Dk) (i : Int) (hn : d.q.length < 2 ^ 38) : Fun C P F_rdrop [dkA ex ey d, .i i] [] (dkA false false (dropD d i)) [] := by
 refine in_rdrop (W := w_rdrop) rfl 0 (by simp) rfl (fun id h => absurd rfl h) fun D => ?_
 refine of_eq (rdrop_A ex ey d i 0 _) ?_
 rw [toDk_A]
 have hj : toJb (AV.st [(AV.v (Value.bool true)), (AV.st [(AV.i i), (AV.i (0 : Int)), nilS, zH])]) = dropJ i := rfl
 rw [hj]
 have hp : Fun C P F_rqueued [dkA ex ey d, AV.st [(AV.v (Value.bool true)), (AV.st [(AV.i i), (AV.i (0 : Int)), nilS, zH])]] [] (dkA false false (pushD d (dropJ i))) [] := (rqueued_fun ex ey d (dropJ i) hn).sim ⟨sm_same rfl, sm_st (sms_cons (sm_b rfl) (sms_cons (sm_nilC i 0) sms_nil)), trivial⟩ trivial
 have no : (i < 0 ∨ 4096 ≤ i) → dropD d i = d := fun h => by
  unfold dropD
  rw [if_neg fun h2 => ?_]
  have := inRng_iff.1 h2
  omega
 refine ⟨fun h => ?_, fun h => ⟨fun h2 => ?_, fun h2 => ?_⟩⟩
 ·simp only [decide_eq_true_eq] at h
  rw [no (.inl h)]
  exact ⟨TD2, post_cell rfl rfl (sm_dk ex ey d) rfl⟩
 ·simp only [decide_eq_true_eq] at h2
  rw [no (.inr h2)]
  exact ⟨TD2, post_cell rfl rfl (sm_dk ex ey d) rfl⟩
 ·simp only [decide_eq_false_iff_not] at h h2
  have e : dropD d i = pushD d (dropJ i) := by
   unfold dropD
   rw [if_pos (inRng_iff.2 ⟨by omega, by omega, by decide, by decide⟩)]
  rw [e]
  exact ⟨hp, TD2, post_cell rfl rfl (sm_same rfl) rfl⟩
theorem lput_fun (ex ey : Bool) (d : Dk) (i s : Int) (ez : Bool) (b : List Nat) (hs : Small b) (hb : b.length < 2 ^ 40) (hn : d.q.length < 2 ^ 38) : Fun C P F_lput [dkA ex ey d, .i i, .i s, dbA ez b] [] (.st [dkA false false (putD d i s b), .i (putE i s b)]) [] := by
 refine in_lput (W := w_lput) rfl 0 (by simp) rfl (fun id h => absurd rfl h) fun D => ?_
 refine of_eq (lput_A ex ey d i s ez b 0 _) ?_
 rw [toDk_A, bytesL_row]
 exact ⟨put_fun ex ey d i s ez b hs hb hn, TD2, ⟨TD2, ⟨rfl, rfl⟩, trivial⟩, post_cell rfl rfl (sm_same rfl) rfl⟩
end Go.Bu.W
namespace Go.Bu.W
open Sp
def w_rput : Way := wayG [0, 1, 2, 3, 4, 8, 9, 15, 20] 35 [7]
def S_rp7 (d : Dk) (c : Cl) : St := { tm := [(4, .ptr 4 []), (8, .ptr 8 []), (9, .ptr 9 [])], hp := [(4, .c (dkA false false d)), (8, .c (.st [.st [nilS, nilS], .i 0])), (9, .c (clA c))], seen := [4, 8, 9] }
theorem rput_A (ex ey : Bool) (d : Dk) (i s : Int) (ez : Bool) (b : List Nat) {D : Dom} (K : Nat) (Φ : Ex → St → Prop) :
 (Holds C P 35 D K Φ (vc C w_rput b_rput [] (start [dkA ex ey d, .i i, .i s, dbA ez b] []) lf)) =
 ((((true = true) ∧ (true = true)) ∧ (((true = true) ∧ (true = true)) ∧ (((true = true) ∧ (true = true)) ∧ (((32 = 32) ∧ ((1 = 1) ∧ (∀ (i1 : Nat), ((i1 < 32) → ((true = true) ∧ (true = true)))))) ∧ True)))) ∧
 (Fun C P 47 [(AV.st [(AV.i i), (AV.i s), (AV.dat 0 true 0 (fun (x : Nat) => (AV.v (Value.tuple #[])))), (AV.arr 32 1 (fun (x : Nat) => (AV.v (Value.int IntKind.u8 (0 : Int)))))])] [] (AV.sb (rpB (toCl (AV.st [(AV.i i), (AV.i s), (AV.dat 0 true 0 (fun (x : Nat) => (AV.v (Value.tuple #[])))), (AV.arr 32 1 (fun (x : Nat) => (AV.v (Value.int IntKind.u8 (0 : Int)))))])))) [] ∧
 (True ∧
 (((! (rpB (toCl (AV.st [(AV.i i), (AV.i s), (AV.dat 0 true 0 (fun (x : Nat) => (AV.v (Value.tuple #[])))), (AV.arr 32 1 (fun (x : Nat) => (AV.v (Value.int IntKind.u8 (0 : Int)))))])))) = true →
 (((((true = true) ∧ (true = true)) ∧ (((true = true) ∧ (true = true)) ∧ True)) ∧ (((true = true) ∧ (true = true)) ∧ True)) ∧
 (Φ Ex.ret (St.mk [(0, (dkA ex ey d)), (1, (AV.i i)), (2, (AV.i s)), (3, (AV.dat (List.length b) ez 1 (rowL b))), (4, (AV.ptr 4 [])), (8, (AV.ptr 8 [])), (9, (AV.ptr 9 [])), (15, (AV.v (Value.bool true)))] [(4, (Blk.c (dkA ex ey d))), (8, (Blk.c (AV.st [(dkA ex ey d), (AV.i (1 : Int))]))), (9, (Blk.c (AV.st [(AV.i i), (AV.i s), (AV.dat 0 true 0 (fun (x : Nat) => (AV.v (Value.tuple #[])))), (AV.arr 32 1 (fun (x : Nat) => (AV.v (Value.int IntKind.u8 (0 : Int)))))])))] [9, 8, 4])))) ∧
 ((! (rpB (toCl (AV.st [(AV.i i), (AV.i s), (AV.dat 0 true 0 (fun (x : Nat) => (AV.v (Value.tuple #[])))), (AV.arr 32 1 (fun (x : Nat) => (AV.v (Value.int IntKind.u8 (0 : Int)))))])))) = false →
 (((decide ((((List.length b) : Nat) : Int) > (1048576 : Int))) = true →
 (((((true = true) ∧ (true = true)) ∧ (((true = true) ∧ (true = true)) ∧ True)) ∧ (((true = true) ∧ (true = true)) ∧ True)) ∧
 (Φ Ex.ret (St.mk [(0, (dkA ex ey d)), (1, (AV.i i)), (2, (AV.i s)), (3, (AV.dat (List.length b) ez 1 (rowL b))), (4, (AV.ptr 4 [])), (8, (AV.ptr 8 [])), (9, (AV.ptr 9 [])), (15, (AV.v (Value.bool false))), (20, (AV.v (Value.bool true)))] [(4, (Blk.c (dkA ex ey d))), (8, (Blk.c (AV.st [(dkA ex ey d), (AV.i (2 : Int))]))), (9, (Blk.c (AV.st [(AV.i i), (AV.i s), (AV.dat 0 true 0 (fun (x : Nat) => (AV.v (Value.tuple #[])))), (AV.arr 32 1 (fun (x : Nat) => (AV.v (Value.int IntKind.u8 (0 : Int)))))])))] [9, 8, 4])))) ∧
 ((decide ((((List.length b) : Nat) : Int) > (1048576 : Int))) = false →
 ((((0 + (List.length b)) * 1) ≤ 140737488355328) ∧
 (Fun C P 29 [(AV.dat (List.length b) ez 1 (rowL b))] [] (hA (Sp.sumN (bytesL (List.length b) (rowL b)))) [] ∧
 ((∀ (i1 : Nat), ((i1 < 32) → True)) ∧
 (((32 = 32) ∧ ((1 = 1) ∧ (∀ (i1 : Nat), ((i1 < 32) → ((true = true) ∧ (true = true)))))) ∧
 (∃ (S2 : St), Ent C 35 D K (St.mk [(0, (dkA ex ey d)), (1, (AV.i i)), (2, (AV.i s)), (3, (AV.dat (List.length b) ez 1 (rowL b))), (4, (AV.ptr 4 [])), (8, (AV.ptr 8 [])), (9, (AV.ptr 9 [])), (15, (AV.v (Value.bool false))), (20, (AV.v (Value.bool false)))] [(4, (Blk.c (dkA ex ey d))), (8, (Blk.c (AV.st [(AV.st [(AV.dat 0 true 0 (fun (x : Nat) => (AV.v (Value.tuple #[])))), (AV.dat 0 true 0 (fun (x : Nat) => (AV.v (Value.tuple #[]))))]), (AV.i (0 : Int))]))), (9, (Blk.c (AV.st [(AV.i i), (AV.i s), (AV.sl 25 [] 0 (0 + (List.length b)) (0 + (List.length b)) false 1), (hA (Sp.sumN (bytesL (List.length b) (rowL b))))]))), (25, (Blk.c (AV.arr (0 + (List.length b)) 1 (cat 0 (fun (i1 : Nat) => (AV.v (Value.tuple #[]))) (rowL b)))))] [25, 23, 9, 8, 4]) S2 ∧ Holds C P 35 D K Φ (cutAt C w_rput b_rput [1, 1, 1, 1, 1, 0] S2 (after C w_rput b_rput [1, 1, 1, 1, 1, 0] [] lf)))))))))))))) := by kernel_rfl
theorem rput_C7 (d : Dk) (c : Cl) {D : Dom} (K : Nat) (Φ : Ex → St → Prop) :
 (Holds C P 35 D K Φ (cutAt C w_rput b_rput [1, 1, 1, 1, 1, 0] (S_rp7 d c) (after C w_rput b_rput [1, 1, 1, 1, 1, 0] [] lf))) =
 (Fun C P 60 [(dkA false false d), (AV.st [(AV.v (Value.bool false)), (clA c)])] [] (dkA false false (pushD (toDk (dkA false false d)) (toJb (AV.st [(AV.v (Value.bool false)), (clA c)])))) [] ∧
 (((((true = true) ∧ (true = true)) ∧ (((true = true) ∧ (true = true)) ∧ True)) ∧ (((true = true) ∧ (true = true)) ∧ True)) ∧
 (Φ Ex.ret (St.mk [(4, (AV.ptr 4 [])), (8, (AV.ptr 8 [])), (9, (AV.ptr 9 []))] [(4, (Blk.c (dkA false false d))), (8, (Blk.c (AV.st [(dkA false false (pushD (toDk (dkA false false d)) (toJb (AV.st [(AV.v (Value.bool false)), (clA c)])))), (AV.i (0 : Int))]))), (9, (Blk.c (clA c)))] [4, 8, 9])))) := by kernel_rfl
theorem rproper_fun (c : Cl) : Fun C P F_rproper [clA c] [] (.sb (rpB c)) [] := by
 refine in_rproper (W := w_rproper) rfl 0 (by simp) rfl (fun id h => absurd rfl h) fun D => ?_
 refine of_eq (rproper_A c 0 _) ?_
 unfold rpB inRng
 refine ⟨fun h1 => ⟨fun h2 => ⟨fun h3 => ⟨fun h4 => ?_, fun h4 => ?_⟩, fun h3 => ?_⟩, fun h2 => ?_⟩, fun h1 => ?_⟩
 ·rw [show decide (0 ≤ c.i) = true from h1, h2, show decide (0 ≤ c.s) = true from h3, h4]
  exact post_tmp rfl (sm_same rfl)
 ·rw [show decide (0 ≤ c.i) = true from h1, h2, show decide (0 ≤ c.s) = true from h3, h4]
  exact post_tmp rfl (sm_b rfl)
 ·rw [show decide (0 ≤ c.i) = true from h1, h2, show decide (0 ≤ c.s) = false from h3]
  exact post_tmp rfl (sm_b rfl)
 ·rw [show decide (0 ≤ c.i) = true from h1, h2]
  exact post_tmp rfl (sm_b rfl)
 ·rw [show decide (0 ≤ c.i) = false from h1]
  exact post_tmp rfl (sm_b rfl)
theorem rput_fun (ex ey : Bool) (d : Dk) (i s : Int) (ez : Bool) (b : List Nat) (hs : Small b) (hb : b.length < 2 ^ 40) (hn : d.q.length < 2 ^ 38) : Fun C P F_rput [dkA ex ey d, .i i, .i s, dbA ez b] [] (.st [dkA false false (putD d i s b), .i (putE i s b)]) [] := by
 refine in_rput (W := w_rput) rfl 0 (by simp) rfl (fun id h => absurd rfl h) fun D => ?_
 refine of_eq (rput_A ex ey d i s ez b 0 _) ?_
 rw [toCl_nil, bytesL_row]
 have hr : rpB ⟨i, s, [], hz⟩ = inRng i s := by
  show (inRng i s && decide (((0 : Nat) : Int) ≤ 1048576)) = _
  rw [show decide (((0 : Nat) : Int) ≤ 1048576) = true by decide, Bool.and_true]
 have hf := (rproper_fun ⟨i, s, [], hz⟩).sim (args := [AV.st [(AV.i i), (AV.i s), nilS, zH]]) (H := []) ⟨sm_nilC i s, trivial⟩ trivial
 rw [hr] at hf ⊢
 have hsum := rsum_call (n := b.length) (e := 1) (ex := ez) (f := rowL b) (fun i _ => ⟨rfl, getD_small hs i⟩) (.inr rfl) (by omega)
 rw [bytesL_row] at hsum
 refine ⟨TC4, hf, trivial, fun h => ?_, fun h => ⟨fun h2 => ?_, fun h2 => ?_⟩⟩
 ·have h0 : ¬ inRng i s = true := by simpa using h
  rw [show putD d i s b = d by unfold putD; rw [if_neg h0], show putE i s b = 1 by unfold putE; rw [if_neg h0]]
  exact ⟨⟨TD2, ⟨rfl, rfl⟩, trivial⟩, post_cell rfl rfl (sm_st (sms_cons (sm_dk ex ey d) (sms_cons (sm_int rfl) sms_nil))) rfl⟩
 ·have h0 : inRng i s = true := by simpa using h
  have h3 : 1048576 < b.length := by simp only [decide_eq_true_eq] at h2; omega
  rw [show putD d i s b = d by unfold putD; rw [if_pos h0, if_pos h3], show putE i s b = 2 by unfold putE; rw [if_pos h0, if_pos h3]]
  exact ⟨⟨TD2, ⟨rfl, rfl⟩, trivial⟩, post_cell rfl rfl (sm_st (sms_cons (sm_dk ex ey d) (sms_cons (sm_int rfl) sms_nil))) rfl⟩
 ·have h0 : inRng i s = true := by simpa using h
  have h3 : ¬ 1048576 < b.length := by simp only [decide_eq_false_iff_not] at h2; omega
  rw [show putD d i s b = pushD d (putJ i s b) by unfold putD; rw [if_pos h0, if_neg h3], show putE i s b = 0 by unfold putE; rw [if_pos h0, if_neg h3]]
  refine ⟨by omega, hsum, fun _ _ => trivial, ⟨rfl, rfl, fun _ _ => ⟨rfl, rfl⟩⟩, cut_ok (S2 := S_rp7 d ⟨i, s, b, sumN b⟩) (Ent.trans (ent_freeze _ [25]) (ent_of [(4, 4), (8, 8), (9, 9)] rfl (tm_cons rfl (sm_ptr rfl) (tm_cons rfl (sm_ptr rfl) (tm_cons rfl (sm_ptr rfl) tm_nil))) (hp_cons rfl rfl (sm_dk ex ey d) (hp_cons rfl rfl (sm_same rfl) (hp_cons rfl rfl (sm_st (sms_cons (sm_int rfl) (sms_cons (sm_int rfl) (sms_cons (sm_dat' (Nat.zero_add _) (by simp) fun k _ => cat0) (sms_cons (sm_same rfl) sms_nil))))) hp_nil))))) ?_⟩
  refine of_eq (rput_C7 d ⟨i, s, b, sumN b⟩ 0 _) ?_
  have hj : toJb (AV.st [(AV.v (Value.bool false)), (clA ⟨i, s, b, sumN b⟩)]) = putJ i s b := by
   show Jb.mk false (toCl (clA ⟨i, s, b, sumN b⟩)) = _
   rw [toCl_A]; rfl
  rw [toDk_A, hj]
  have hp : Fun C P F_rqueued [dkA false false d, AV.st [(AV.v (Value.bool false)), (clA ⟨i, s, b, sumN b⟩)]] [] (dkA false false (pushD d (putJ i s b))) [] := (rqueued_fun false false d (putJ i s b) hn).sim ⟨sm_same rfl, sm_st (sms_cons (sm_b rfl) (sms_cons (sm_same rfl) sms_nil)), trivial⟩ trivial
  exact ⟨hp, ⟨TD2, ⟨rfl, rfl⟩, trivial⟩, post_cell rfl rfl (sm_same rfl) rfl⟩
end Go.Bu.W
namespace Go.Bu.W
open Sp
def w_rperf : Way := wayG [0, 1, 3, 4, 5, 6, 7, 14, 28, 58, 67] 74 [7,9]
abbrev slC (id : Nat) (o : List Cl) : AV := .sl id [] 0 o.length o.length false 35
abbrev arC (o : List Cl) : AV := .arr o.length 35 (rowC o)
def I_rf (ex : Bool) (l : List Cl) (j : Jb) (i : Nat) : St := { tm := [(0, csA ex l), (3, .ptr 3 []), (5, slC 5 (outC l j i)), (6, .sb (donC l j i)), (7, .i i)], hp := [(3, .c (jbA j)), (5, .c (arC (outC l j i)))], seen := [3, 5] }
def S_rf7 (ex : Bool) (l : List Cl) (j : Jb) (i : Nat) (o : List Cl) (b : Bool) : St := { tm := [(0, csA ex l), (3, .ptr 3 []), (5, slC 5 o), (6, .sb b), (7, .i i)], hp := [(3, .c (jbA j)), (5, .c (arC o))], seen := [3, 5] }
def S_rf9 (j : Jb) (o : List Cl) (b : Bool) : St := { tm := [(3, .ptr 3 []), (5, slC 5 o), (6, .sb b)], hp := [(3, .c (jbA j)), (5, .c (arC o))], seen := [3, 5] }
theorem rperf_A (ex : Bool) (l : List Cl) (j : Jb) {D : Dom} (K : Nat) (Φ : Ex → St → Prop) :
 (Holds C P 74 D K Φ (vc C w_rperf b_rperf [] (start [csA ex l, jbA j] []) lf)) =
 (LoopOK C P 74 D K (bodyAt b_rperf [1, 1, 0, 1, 0]) (St.mk [(0, (csA ex l)), (1, (jbA j)), (3, (AV.ptr 3 [])), (4, (AV.dat 0 true 0 (fun (x : Nat) => (AV.v (Value.tuple #[]))))), (5, (AV.sl 8 [] 0 0 0 true 35)), (6, (AV.sb (Jb.dr j))), (7, (AV.i (0 : Int)))] [(3, (Blk.c (jbA j))), (8, (Blk.c (AV.st [])))] [8, 3]) (fun (e : Ex) (S' : St) => Holds C P 74 D K Φ (after C w_rperf b_rperf [1, 1, 0, 1, 0] [] lf e S'))) := by kernel_rfl
noncomputable abbrev bd_rperf_0 : Code := bodyAt (b_rperf) [1, 1, 0, 1, 0]
theorem ok_rperf_0 : codeOK bd_rperf_0 = true := by kernel_rfl
noncomputable abbrev rest_rperf_0 (D : Dom) (K : Nat) (Φ : Ex → St → Prop) : Ex → St → Prop := fun e S' => Holds C P 74 D K Φ (after C w_rperf (b_rperf) [1, 1, 0, 1, 0] [] lf e S')
theorem rperf_L0 (ex : Bool) (l : List Cl) (j : Jb) (i : Nat) {D : Dom} (K : Nat) (Φ : Ex → St → Prop) :
 (Holds C P 74 D K (RoundQ C 74 D K (I_rf ex l j) (fun i => i ≤ l.length) (fun i => l.length - i) ((fun i => l.length - i) (i)) (rest_rperf_0 D K Φ)) (vc C w_rperf bd_rperf_0 [] ((I_rf ex l j) (i)) lf)) =
 (((decide (((i : Nat) : Int) < (((List.length l) : Nat) : Int))) = true →
 (((! (donC l j i)) = true →
 ((((0 : Int) ≤ ((i : Nat) : Int)) ∧ (((i : Nat) : Int) < (((List.length l) : Nat) : Int))) ∧
 (Fun C P 48 [(clA (clAt l i)), (clA (Jb.c j))] [] (AV.sb (ltC (toCl (clA (clAt l i))) (toCl (clA (Jb.c j))))) [] ∧
 (True ∧
 (((! (ltC (toCl (clA (clAt l i))) (toCl (clA (Jb.c j))))) = true →
 (((((List.length (outC l j i)) + 1) * 72) ≤ 140737488355328) ∧
 (∃ (S2 : St), Ent C 74 D K (St.mk [(0, (csA ex l)), (3, (AV.ptr 3 [])), (5, (AV.sl 33 [] 0 ((List.length (outC l j i)) + 1) ((List.length (outC l j i)) + 1) false 35)), (6, (AV.v (Value.bool true))), (7, (AV.i ((i : Nat) : Int))), (14, (AV.v (Value.bool true))), (28, (AV.v (Value.bool true)))] [(3, (Blk.c (jbA j))), (32, (Blk.c (AV.st [(clA (Jb.c j))]))), (33, (Blk.c (AV.arr ((List.length (outC l j i)) + 1) 35 (cat (List.length (outC l j i)) (fun (i1 : Nat) => (clA (clAt (outC l j i) (0 + i1)))) (fun (i1 : Nat) => (nthD [(clA (Jb.c j))] (0 + i1) (AV.v (Value.tuple #[]))))))))] [33, 32, 3, 5]) S2 ∧ Holds C P 74 D K (RoundQ C 74 D K (I_rf ex l j) (fun i => i ≤ l.length) (fun i => l.length - i) ((fun i => l.length - i) (i)) (rest_rperf_0 D K Φ)) (cutAt C w_rperf bd_rperf_0 [1, 0, 0, 1, 0] S2 (after C w_rperf bd_rperf_0 [1, 0, 0, 1, 0] [] lf))))) ∧
 ((! (ltC (toCl (clA (clAt l i))) (toCl (clA (Jb.c j))))) = false →
 (∃ (S2 : St), Ent C 74 D K (St.mk [(0, (csA ex l)), (3, (AV.ptr 3 [])), (5, (AV.sl 5 [] 0 (List.length (outC l j i)) (List.length (outC l j i)) false 35)), (6, (AV.sb (donC l j i))), (7, (AV.i ((i : Nat) : Int))), (14, (AV.v (Value.bool true))), (28, (AV.v (Value.bool false)))] [(3, (Blk.c (jbA j))), (5, (Blk.c (AV.arr (List.length (outC l j i)) 35 (rowC (outC l j i)))))] [3, 5]) S2 ∧ Holds C P 74 D K (RoundQ C 74 D K (I_rf ex l j) (fun i => i ≤ l.length) (fun i => l.length - i) ((fun i => l.length - i) (i)) (rest_rperf_0 D K Φ)) (cutAt C w_rperf bd_rperf_0 [1, 0, 0, 1, 0] S2 (after C w_rperf bd_rperf_0 [1, 0, 0, 1, 0] [] lf))))))))) ∧
 ((! (donC l j i)) = false →
 (∃ (S2 : St), Ent C 74 D K (St.mk [(0, (csA ex l)), (3, (AV.ptr 3 [])), (5, (AV.sl 5 [] 0 (List.length (outC l j i)) (List.length (outC l j i)) false 35)), (6, (AV.sb (donC l j i))), (7, (AV.i ((i : Nat) : Int))), (14, (AV.v (Value.bool true))), (28, (AV.v (Value.bool false)))] [(3, (Blk.c (jbA j))), (5, (Blk.c (AV.arr (List.length (outC l j i)) 35 (rowC (outC l j i)))))] [3, 5]) S2 ∧ Holds C P 74 D K (RoundQ C 74 D K (I_rf ex l j) (fun i => i ≤ l.length) (fun i => l.length - i) ((fun i => l.length - i) (i)) (rest_rperf_0 D K Φ)) (cutAt C w_rperf bd_rperf_0 [1, 0, 0, 1, 0] S2 (after C w_rperf bd_rperf_0 [1, 0, 0, 1, 0] [] lf)))))) ∧
 ((decide (((i : Nat) : Int) < (((List.length l) : Nat) : Int))) = false →
 (∃ (S2 : St), Ent C 74 D K (St.mk [(0, (csA ex l)), (3, (AV.ptr 3 [])), (5, (AV.sl 5 [] 0 (List.length (outC l j i)) (List.length (outC l j i)) false 35)), (6, (AV.sb (donC l j i))), (7, (AV.i ((i : Nat) : Int))), (14, (AV.v (Value.bool false)))] [(3, (Blk.c (jbA j))), (5, (Blk.c (AV.arr (List.length (outC l j i)) 35 (rowC (outC l j i)))))] [3, 5]) S2 ∧ Holds C P 74 D K Φ (cutAt C w_rperf b_rperf [1, 1, 1, 0, 0] S2 (after C w_rperf b_rperf [1, 1, 1, 0, 0] [] lf))))) := by kernel_rfl
theorem rperf_C7 (ex : Bool) (l : List Cl) (j : Jb) (i : Nat) (o : List Cl) (b : Bool) {D : Dom} (K : Nat) (Φ : Ex → St → Prop) :
 (Holds C P 74 D K Φ (cutAt C w_rperf bd_rperf_0 [1, 0, 0, 1, 0] (S_rf7 ex l j i o b) (after C w_rperf bd_rperf_0 [1, 0, 0, 1, 0] [] lf))) =
 ((((0 : Int) ≤ ((i : Nat) : Int)) ∧ (((i : Nat) : Int) < (((List.length l) : Nat) : Int))) ∧
 ((((Cl.i (clAt l i)) != (Cl.i (Jb.c j))) = true →
 ((((0 : Int) ≤ ((i : Nat) : Int)) ∧ (((i : Nat) : Int) < (((List.length l) : Nat) : Int))) ∧
 (((((List.length o) + 1) * 72) ≤ 140737488355328) ∧
 ((I64 (((i + 1) : Nat) : Int)) ∧
 (Φ Ex.normal (St.mk [(0, (csA ex l)), (3, (AV.ptr 3 [])), (5, (AV.sl 65 [] 0 ((List.length o) + 1) ((List.length o) + 1) false 35)), (6, (AV.sb b)), (7, (AV.i (((i + 1) : Nat) : Int))), (58, (AV.v (Value.bool true)))] [(3, (Blk.c (jbA j))), (64, (Blk.c (AV.st [(clA (clAt l i))]))), (65, (Blk.c (AV.arr ((List.length o) + 1) 35 (cat (List.length o) (fun (i1 : Nat) => (clA (clAt o (0 + i1)))) (fun (i1 : Nat) => (nthD [(clA (clAt l i))] (0 + i1) (AV.v (Value.tuple #[]))))))))] [65, 64, 3, 5])))))) ∧
 (((Cl.i (clAt l i)) != (Cl.i (Jb.c j))) = false →
 (((! (Jb.dr j)) = true →
 ((((0 : Int) ≤ ((i : Nat) : Int)) ∧ (((i : Nat) : Int) < (((List.length l) : Nat) : Int))) ∧
 ((((Cl.s (clAt l i)) != (Cl.s (Jb.c j))) = true →
 ((((0 : Int) ≤ ((i : Nat) : Int)) ∧ (((i : Nat) : Int) < (((List.length l) : Nat) : Int))) ∧
 (((((List.length o) + 1) * 72) ≤ 140737488355328) ∧
 ((I64 (((i + 1) : Nat) : Int)) ∧
 (Φ Ex.normal (St.mk [(0, (csA ex l)), (3, (AV.ptr 3 [])), (5, (AV.sl 65 [] 0 ((List.length o) + 1) ((List.length o) + 1) false 35)), (6, (AV.sb b)), (7, (AV.i (((i + 1) : Nat) : Int))), (58, (AV.v (Value.bool true)))] [(3, (Blk.c (jbA j))), (64, (Blk.c (AV.st [(clA (clAt l i))]))), (65, (Blk.c (AV.arr ((List.length o) + 1) 35 (cat (List.length o) (fun (i1 : Nat) => (clA (clAt o (0 + i1)))) (fun (i1 : Nat) => (nthD [(clA (clAt l i))] (0 + i1) (AV.v (Value.tuple #[]))))))))] [65, 64, 3, 5])))))) ∧
 (((Cl.s (clAt l i)) != (Cl.s (Jb.c j))) = false →
 ((I64 (((i + 1) : Nat) : Int)) ∧
 (Φ Ex.normal (St.mk [(0, (csA ex l)), (3, (AV.ptr 3 [])), (5, (AV.sl 5 [] 0 (List.length o) (List.length o) false 35)), (6, (AV.sb b)), (7, (AV.i (((i + 1) : Nat) : Int))), (58, (AV.v (Value.bool false)))] [(3, (Blk.c (jbA j))), (5, (Blk.c (AV.arr (List.length o) 35 (rowC o))))] [3, 5]))))))) ∧
 ((! (Jb.dr j)) = false →
 ((I64 (((i + 1) : Nat) : Int)) ∧
 (Φ Ex.normal (St.mk [(0, (csA ex l)), (3, (AV.ptr 3 [])), (5, (AV.sl 5 [] 0 (List.length o) (List.length o) false 35)), (6, (AV.sb b)), (7, (AV.i (((i + 1) : Nat) : Int))), (58, (AV.v (Value.bool false)))] [(3, (Blk.c (jbA j))), (5, (Blk.c (AV.arr (List.length o) 35 (rowC o))))] [3, 5])))))))) := by kernel_rfl
theorem rperf_C9 (j : Jb) (o : List Cl) (b : Bool) {D : Dom} (K : Nat) (Φ : Ex → St → Prop) :
 (Holds C P 74 D K Φ (cutAt C w_rperf b_rperf [1, 1, 1, 0, 0] (S_rf9 j o b) (after C w_rperf b_rperf [1, 1, 1, 0, 0] [] lf))) =
 (((!b) = true →
 (((((List.length o) + 1) * 72) ≤ 140737488355328) ∧
 (Φ Ex.ret (St.mk [(3, (AV.ptr 3 [])), (4, (AV.sl 72 [] 0 ((List.length o) + 1) ((List.length o) + 1) false 35)), (5, (AV.sl 72 [] 0 ((List.length o) + 1) ((List.length o) + 1) false 35)), (6, (AV.sb b)), (67, (AV.v (Value.bool true)))] [(3, (Blk.c (jbA j))), (71, (Blk.c (AV.st [(clA (Jb.c j))]))), (72, (Blk.c (AV.arr ((List.length o) + 1) 35 (cat (List.length o) (fun (i : Nat) => (clA (clAt o (0 + i)))) (fun (i : Nat) => (nthD [(clA (Jb.c j))] (0 + i) (AV.v (Value.tuple #[]))))))))] [72, 71, 3, 5])))) ∧
 ((!b) = false →
 (Φ Ex.ret (St.mk [(3, (AV.ptr 3 [])), (4, (AV.sl 5 [] 0 (List.length o) (List.length o) false 35)), (5, (AV.sl 5 [] 0 (List.length o) (List.length o) false 35)), (6, (AV.sb b)), (67, (AV.v (Value.bool false)))] [(3, (Blk.c (jbA j))), (5, (Blk.c (AV.arr (List.length o) 35 (rowC o))))] [3, 5])))) := by kernel_rfl
theorem cl_row {o : List Cl} {c : Cl} {k : Nat} (hk : k < o.length + 1) : cat o.length (fun (i1 : Nat) => clA (clAt o (0 + i1))) (fun (i1 : Nat) => nthD [clA c] (0 + i1) (AV.v (Value.tuple (List.toArray [])))) k = clA (clAt (o ++ [c]) k) := by
 unfold cat
 by_cases h : k < o.length
 ·rw [if_pos h]
  have e : clAt (o ++ [c]) k = clAt o k := by
   unfold clAt
   rw [List.getD_eq_getElem?_getD, List.getD_eq_getElem?_getD, List.getElem?_append_left h]
  rw [e]
  show clA (clAt o (0 + k)) = _
  rw [Nat.zero_add]
 ·rw [if_neg h]
  obtain rfl : k = o.length := by omega
  have e : clAt (o ++ [c]) o.length = c := by
   unfold clAt
   rw [List.getD_eq_getElem?_getD, List.getElem?_append_right (Nat.le_refl _), Nat.sub_self]; rfl
  rw [e, Nat.sub_self]; rfl
theorem outC_len (l : List Cl) (j : Jb) (i : Nat) : (outC l j i).length ≤ 2 * l.length + 1 := by
 have h1 := List.length_filter_le (fun a => decide (a.i ≠ j.c.i)) (l.take i)
 have h2 := List.length_filter_le (fun a => ltC a j.c) (l.take i)
 have h3 := List.length_filter_le (fun a => ltC j.c a) (l.take i)
 have h4 : (l.take i).length ≤ l.length := by rw [List.length_take]; omega
 unfold outC
 split
 ·omega
 ·rw [List.length_append]
  split
  ·rw [List.length_cons]; omega
  ·simp only [List.length_nil]; omega
theorem rperf_fun (ex : Bool) (l : List Cl) (j : Jb) (so : SoC l) (hn : l.length < 2 ^ 36) : Fun C P F_rperf [csA ex l, jbA j] [] (csA false (perf l j)) [] := by
 refine in_rperf (W := w_rperf) rfl 0 (by simp) rfl (fun id h => absurd rfl h) fun D => ?_
 refine of_eq (rperf_A ex l j 0 _) ?_
 have o0 : outC l j 0 = [] := by unfold outC; split <;> rfl
 have d0 : donC l j 0 = j.dr := by unfold donC; rw [List.take_zero]; simp
 refine loop_inv (W := w_rperf) ctx mixed ok_rperf_0 (I_rf ex l j) (fun i => i ≤ l.length) (fun i => l.length - i) 0 (Nat.zero_le _) ?_ fun i hi => ?_
 ·unfold I_rf
  rw [o0, d0]
  exact ent_of [(3, 3), (8, 5)] rfl (tm_cons rfl (sm_same rfl) (tm_cons rfl (sm_ptr rfl) (tm_cons rfl (sm_sl rfl rfl (Nat.le_refl _) (Nat.le_refl _) (by simp)) (tm_cons rfl (sm_same rfl) (tm_cons rfl (sm_same rfl) tm_nil))))) (hp_cons rfl rfl (sm_same rfl) (hp_cons rfl rfl (sm_row rfl rfl rfl fun i x hx => (by cases hx)) hp_nil))
 have hlen := outC_len l j i
 refine of_eq (rperf_L0 ex l j i 0 _) ⟨fun h => ?_, fun h => ?_⟩
 ·simp only [decide_eq_true_eq] at h
  have hlt : i < l.length := by omega
  obtain ⟨s1, s2⟩ := out_step so (j := j) hlt
  rw [← clAt_lt hlt] at s1 s2
  obtain ⟨x, ex'⟩ : ∃ x, x = clAt l i := ⟨_, rfl⟩
  rw [← ex'] at s1 s2
  have tail : ∀ (o : List Cl), o.length ≤ 2 * l.length + 2 → o = outC l j i ++ (if (!donC l j i && !ltC x j.c) = true then [j.c] else []) → Holds C P 74 D 0 (RoundQ C 74 D 0 (I_rf ex l j) (fun i => i ≤ l.length) (fun i => l.length - i) (l.length - i) (rest_rperf_0 D 0 (FunPost C 74 0 [.tmp 4] (csA false (perf l j)) []))) (cutAt C w_rperf bd_rperf_0 [1, 0, 0, 1, 0] (S_rf7 ex l j i o (donC l j (i + 1))) (after C w_rperf bd_rperf_0 [1, 0, 0, 1, 0] [] lf)) := fun o ho1 ho => by
   rw [← List.append_assoc, ← ho] at s1
   refine of_eq (rperf_C7 ex l j i o (donC l j (i + 1)) 0 _) ?_
   rw [← ex']
   have yes : (decide (x.i ≠ j.c.i) || (!j.dr && decide (x.s ≠ j.c.s))) = true → outC l j (i + 1) = o ++ [x] := fun hx => by rw [s1, if_pos hx]
   have no : ¬ (decide (x.i ≠ j.c.i) || (!j.dr && decide (x.s ≠ j.c.s))) = true → outC l j (i + 1) = o := fun hx => by rw [s1, if_neg hx, List.append_nil]
   refine ⟨(by first | omega | decide | (unfold I64; omega)), fun h1 => ?_, fun h1 => ⟨fun h2 => ⟨(by first | omega | decide | (unfold I64; omega)), fun h3 => ?_, fun h3 => ?_⟩, fun h2 => ?_⟩⟩
   ·have e := yes (by simp at h1; simp [h1])
    have e2 : o.length + 1 = (outC l j (i + 1)).length := by rw [e]; simp
    refine ⟨(by first | omega | decide | (unfold I64; omega)), by omega, (by first | omega | decide | (unfold I64; omega)), round_end (i + 1) (by omega) (ent_of [(3, 3), (65, 5)] rfl (tm_cons rfl (sm_same rfl) (tm_cons rfl (sm_ptr rfl) (tm_cons rfl (sm_sl rfl e2 (by omega) (by omega) (by simp)) (tm_cons rfl (sm_same rfl) (tm_cons rfl (sm_same rfl) tm_nil))))) (hp_cons rfl rfl (sm_same rfl) (hp_cons rfl rfl (sm_arr' e2 fun k hk => ?_) hp_nil))) (by show l.length - (i + 1) < l.length - i; omega)⟩
    rw [e]; exact cl_row hk
   ·have e := yes (by simp at h3 h2; simp [h3, h2])
    have e2 : o.length + 1 = (outC l j (i + 1)).length := by rw [e]; simp
    refine ⟨(by first | omega | decide | (unfold I64; omega)), by omega, (by first | omega | decide | (unfold I64; omega)), round_end (i + 1) (by omega) (ent_of [(3, 3), (65, 5)] rfl (tm_cons rfl (sm_same rfl) (tm_cons rfl (sm_ptr rfl) (tm_cons rfl (sm_sl rfl e2 (by omega) (by omega) (by simp)) (tm_cons rfl (sm_same rfl) (tm_cons rfl (sm_same rfl) tm_nil))))) (hp_cons rfl rfl (sm_same rfl) (hp_cons rfl rfl (sm_arr' e2 fun k hk => ?_) hp_nil))) (by show l.length - (i + 1) < l.length - i; omega)⟩
    rw [e]; exact cl_row hk
   ·have e := no (by simp at h3 h1; simp [h3, h1])
    have e2 : o.length = (outC l j (i + 1)).length := by rw [e]
    refine ⟨(by first | omega | decide | (unfold I64; omega)), round_end (i + 1) (by omega) (ent_of [(3, 3), (5, 5)] rfl (tm_cons rfl (sm_same rfl) (tm_cons rfl (sm_ptr rfl) (tm_cons rfl (sm_sl rfl e2 (by omega) (by omega) (by simp)) (tm_cons rfl (sm_same rfl) (tm_cons rfl (sm_same rfl) tm_nil))))) (hp_cons rfl rfl (sm_same rfl) (hp_cons rfl rfl (sm_arr' e2 fun k hk => ?_) hp_nil))) (by show l.length - (i + 1) < l.length - i; omega)⟩
    rw [e]
   ·have e := no (by simp at h2 h1; simp [h2, h1])
    have e2 : o.length = (outC l j (i + 1)).length := by rw [e]
    refine ⟨(by first | omega | decide | (unfold I64; omega)), round_end (i + 1) (by omega) (ent_of [(3, 3), (5, 5)] rfl (tm_cons rfl (sm_same rfl) (tm_cons rfl (sm_ptr rfl) (tm_cons rfl (sm_sl rfl e2 (by omega) (by omega) (by simp)) (tm_cons rfl (sm_same rfl) (tm_cons rfl (sm_same rfl) tm_nil))))) (hp_cons rfl rfl (sm_same rfl) (hp_cons rfl rfl (sm_arr' e2 fun k hk => ?_) hp_nil))) (by show l.length - (i + 1) < l.length - i; omega)⟩
    rw [e]
  rw [← ex', toCl_A, toCl_A]
  refine ⟨fun h1 => ⟨(by first | omega | decide | (unfold I64; omega)), rbefore_fun x j.c, trivial, fun h2 => ⟨by omega, ?_⟩, fun h2 => ?_⟩, fun h1 => ?_⟩
  ·have hd : donC l j (i + 1) = true := by rw [s2, h1, h2]; simp
   have ht := tail (outC l j i ++ [j.c]) (by rw [List.length_append]; simp only [List.length_singleton]; omega) (by rw [h1, h2]; rfl)
   refine cut_ok (S2 := S_rf7 ex l j i (outC l j i ++ [j.c]) (donC l j (i + 1))) ?_ ht
   have e2 : (outC l j i).length + 1 = (outC l j i ++ [j.c]).length := by simp
   exact ent_of [(3, 3), (33, 5)] rfl (tm_cons rfl (sm_same rfl) (tm_cons rfl (sm_ptr rfl) (tm_cons rfl (sm_sl rfl e2 (by omega) (by omega) (by simp)) (tm_cons rfl (sm_b (by rw [hd])) (tm_cons rfl (sm_same rfl) tm_nil))))) (hp_cons rfl rfl (sm_same rfl) (hp_cons rfl rfl (sm_arr' e2 fun k hk => cl_row hk) hp_nil))
  ·have hd : donC l j (i + 1) = donC l j i := by rw [s2, h2]; simp
   have ht := tail (outC l j i) (by omega) (by rw [h2]; simp)
   refine cut_ok (S2 := S_rf7 ex l j i (outC l j i) (donC l j (i + 1))) ?_ ht
   rw [hd]
   exact ent_of [(3, 3), (5, 5)] rfl (tm_cons rfl (sm_same rfl) (tm_cons rfl (sm_ptr rfl) (tm_cons rfl (sm_sl rfl rfl (Nat.le_refl _) (Nat.le_refl _) (by simp)) (tm_cons rfl (sm_same rfl) (tm_cons rfl (sm_same rfl) tm_nil))))) (hp_cons rfl rfl (sm_same rfl) (hp_cons rfl rfl (sm_same rfl) hp_nil))
  ·have hd : donC l j (i + 1) = donC l j i := by rw [s2, h1]; simp
   have ht := tail (outC l j i) (by omega) (by rw [h1]; simp)
   refine cut_ok (S2 := S_rf7 ex l j i (outC l j i) (donC l j (i + 1))) ?_ ht
   rw [hd]
   exact ent_of [(3, 3), (5, 5)] rfl (tm_cons rfl (sm_same rfl) (tm_cons rfl (sm_ptr rfl) (tm_cons rfl (sm_sl rfl rfl (Nat.le_refl _) (Nat.le_refl _) (by simp)) (tm_cons rfl (sm_same rfl) (tm_cons rfl (sm_same rfl) tm_nil))))) (hp_cons rfl rfl (sm_same rfl) (hp_cons rfl rfl (sm_same rfl) hp_nil))
 ·simp only [decide_eq_false_iff_not] at h
  obtain rfl : i = l.length := by omega
  have he := out_end (l := l) (j := j)
  obtain ⟨o, eo⟩ : ∃ o, o = outC l j l.length := ⟨_, rfl⟩
  obtain ⟨b, eb⟩ : ∃ b, b = donC l j l.length := ⟨_, rfl⟩
  rw [← eo, ← eb] at he ⊢
  rw [← eo] at hlen
  refine cut_ok (S2 := S_rf9 j o b) (ent_of [(3, 3), (5, 5)] rfl (tm_cons rfl (sm_ptr rfl) (tm_cons rfl (sm_sl rfl rfl (Nat.le_refl _) (Nat.le_refl _) (by simp)) (tm_cons rfl (sm_same rfl) tm_nil))) (hp_cons rfl rfl (sm_same rfl) (hp_cons rfl rfl (sm_same rfl) hp_nil))) ?_
  refine of_eq (rperf_C9 j o b 0 _) ⟨fun h2 => ⟨by omega, ?_⟩, fun h2 => ?_⟩
  ·have h2 : b = false := by simpa using h2
   rw [h2] at he
   have he : o ++ [j.c] = perf l j := he
   have e2 : o.length + 1 = (perf l j).length := by rw [← he]; simp
   refine post_frz [72] (post_tmp rfl (sm_dat' e2 (by simp) fun k hk => ?_))
   rw [← he, Nat.zero_add]
   exact cl_row (by omega)
  ·have h2 : b = true := by simpa using h2
   rw [h2] at he
   have he : o = perf l j := by simpa using he
   refine post_frz [5] (post_tmp rfl (sm_dat' (by rw [he]) (by simp) fun k hk => ?_))
   rw [← he, Nat.zero_add]
end Go.Bu.W
namespace Go.Bu.W
open Sp
def bLs : AV → List Bool
 | .dat n _ _ f => (List.range n).map fun i => asB (f i)
 | _ => []
def crRPerf : List AV → Option (AV × List (Nat × Blk))
 | [x, y] => some (csA false (perf (toCls x) (toJb y)), [])
 | _ => none
def crCont : List AV → Option (AV × List (Nat × Blk))
 | [x] => some (csA false (cont (toDk x)), [])
 | _ => none
def crSync : List AV → Option (AV × List (Nat × Blk))
 | [x] => some (dkA false false (syncD (toDk x)), [])
 | _ => none
def crCrash : List AV → Option (AV × List (Nat × Blk))
 | [x, y] => some (dkA false false (crashD (toDk x) (bLs y)), [])
 | _ => none
def crS7 (g : Nat) (args : List AV) (H : List (Nat × Blk)) : Option (AV × List (Nat × Blk)) :=
 sel (Nat.beq g F_rperf) (crRPerf args) <| sel (Nat.beq g F_rcont) (crCont args) <| sel (Nat.beq g F_rsync) (crSync args) <| sel (Nat.beq g F_rcrash) (crCrash args) <| crS4 g args H
def wayI (keep : List Nat) (nt : Nat) (cuts : List Nat) : Way := ⟨crS7, fun _ => false, keep, [], nt, cuts, []⟩
def w_rcont : Way := wayI [0, 1, 2, 3, 4, 11] 22 []
def w_rsync : Way := wayI [0, 1, 2] 6 []
def w_rcrash : Way := wayI [0, 1, 2, 4, 5, 6, 19, 25] 35 []
def I_rc (ex ey : Bool) (d : Dk) (i : Nat) : St := { tm := [(1, .ptr 1 []), (3, csA false (prN (fun _ => true) d.l d.q i)), (4, .i i)], hp := [(1, .c (dkA ex ey d))], seen := [1] }
def I_rcr (ex ey : Bool) (d : Dk) (ez : Bool) (l : List Bool) (L : Nat → List Cl) (i : Nat) : St := { tm := [(1, bA ez l), (2, .ptr 2 []), (4, .ptr 4 []), (5, csA false (L i)), (6, .i i)], hp := [(2, .c (dkA ex ey d)), (4, .c (.st [nilS, nilS]))], seen := [2, 4] }
theorem rcont_A (ex ey : Bool) (d : Dk) {D : Dom} (K : Nat) (Φ : Ex → St → Prop) :
 (Holds C P 22 D K Φ (vc C w_rcont b_rcont [] (start [dkA ex ey d] []) lf)) =
 (LoopOK C P 22 D K (bodyAt b_rcont [1, 1, 0, 1, 0]) (St.mk [(0, (dkA ex ey d)), (1, (AV.ptr 1 [])), (2, (AV.dat 0 true 0 (fun (x : Nat) => (AV.v (Value.tuple #[]))))), (3, (csA ex (Dk.l d))), (4, (AV.i (0 : Int)))] [(1, (Blk.c (dkA ex ey d)))] [1]) (fun (e : Ex) (S' : St) => Holds C P 22 D K Φ (after C w_rcont b_rcont [1, 1, 0, 1, 0] [] lf e S'))) := by kernel_rfl
noncomputable abbrev bd_rcont_0 : Code := bodyAt (b_rcont) [1, 1, 0, 1, 0]
theorem ok_rcont_0 : codeOK bd_rcont_0 = true := by kernel_rfl
noncomputable abbrev rest_rcont_0 (D : Dom) (K : Nat) (Φ : Ex → St → Prop) : Ex → St → Prop := fun e S' => Holds C P 22 D K Φ (after C w_rcont (b_rcont) [1, 1, 0, 1, 0] [] lf e S')
theorem rcont_L0 (ex ey : Bool) (d : Dk) (i : Nat) {D : Dom} (K : Nat) (Φ : Ex → St → Prop) :
 (Holds C P 22 D K (RoundQ C 22 D K (I_rc ex ey d) (fun i => i ≤ d.q.length) (fun i => d.q.length - i) ((fun i => d.q.length - i) (i)) (rest_rcont_0 D K Φ)) (vc C w_rcont bd_rcont_0 [] ((I_rc ex ey d) (i)) lf)) =
 (((decide (((i : Nat) : Int) < (((List.length (Dk.q d)) : Nat) : Int))) = true →
 ((((0 : Int) ≤ ((i : Nat) : Int)) ∧ (((i : Nat) : Int) < (((List.length (Dk.q d)) : Nat) : Int))) ∧
 (Fun C P 61 [(csA false (prN (fun (x : Nat) => true) (Dk.l d) (Dk.q d) i)), (jbA (jbAt (Dk.q d) i))] [] (csA false (perf (toCls (csA false (prN (fun (x : Nat) => true) (Dk.l d) (Dk.q d) i))) (toJb (jbA (jbAt (Dk.q d) i))))) [] ∧
 ((I64 (((i + 1) : Nat) : Int)) ∧
 ((RoundQ C 22 D K (I_rc ex ey d) (fun i => i ≤ d.q.length) (fun i => d.q.length - i) ((fun i => d.q.length - i) (i)) (rest_rcont_0 D K Φ)) Ex.normal (St.mk [(1, (AV.ptr 1 [])), (3, (csA false (perf (toCls (csA false (prN (fun (x : Nat) => true) (Dk.l d) (Dk.q d) i))) (toJb (jbA (jbAt (Dk.q d) i)))))), (4, (AV.i (((i + 1) : Nat) : Int))), (11, (AV.v (Value.bool true)))] [(1, (Blk.c (dkA ex ey d)))] [1])))))) ∧
 ((decide (((i : Nat) : Int) < (((List.length (Dk.q d)) : Nat) : Int))) = false →
 (Φ Ex.ret (St.mk [(1, (AV.ptr 1 [])), (2, (csA false (prN (fun (x : Nat) => true) (Dk.l d) (Dk.q d) i))), (3, (csA false (prN (fun (x : Nat) => true) (Dk.l d) (Dk.q d) i))), (4, (AV.i ((i : Nat) : Int))), (11, (AV.v (Value.bool false)))] [(1, (Blk.c (dkA ex ey d)))] [1])))) := by kernel_rfl
theorem rsync_A (ex ey : Bool) (d : Dk) {D : Dom} (K : Nat) (Φ : Ex → St → Prop) :
 (Holds C P 6 D K Φ (vc C w_rsync b_rsync [] (start [dkA ex ey d] []) lf)) =
 (Fun C P 55 [(dkA ex ey d)] [] (csA false (cont (toDk (dkA ex ey d)))) [] ∧
 ((((true = true) ∧ (true = true)) ∧ (((true = true) ∧ (true = true)) ∧ True)) ∧
 (Φ Ex.ret (St.mk [(0, (dkA ex ey d)), (1, (AV.ptr 1 [])), (2, (AV.ptr 2 []))] [(1, (Blk.c (dkA ex ey d))), (2, (Blk.c (AV.st [(csA false (cont (toDk (dkA ex ey d)))), (AV.dat 0 true 0 (fun (x : Nat) => (AV.v (Value.tuple #[]))))])))] [2, 1])))) := by kernel_rfl
theorem rcrash_A (ex ey : Bool) (d : Dk) (ez : Bool) (l : List Bool) {D : Dom} (K : Nat) (Φ : Ex → St → Prop) :
 (Holds C P 35 D K Φ (vc C w_rcrash b_rcrash [] (start [dkA ex ey d, bA ez l] []) lf)) =
 (LoopOK C P 35 D K (bodyAt b_rcrash [1, 1, 0, 1, 0]) (St.mk [(0, (dkA ex ey d)), (1, (AV.dat (List.length l) ez 1 (fun (i : Nat) => (AV.sb (List.getD l i false))))), (2, (AV.ptr 2 [])), (4, (AV.ptr 4 [])), (5, (csA ex (Dk.l d))), (6, (AV.i (0 : Int)))] [(2, (Blk.c (dkA ex ey d))), (4, (Blk.c (AV.st [(AV.dat 0 true 0 (fun (x : Nat) => (AV.v (Value.tuple #[])))), (AV.dat 0 true 0 (fun (x : Nat) => (AV.v (Value.tuple #[]))))])))] [4, 2]) (fun (e : Ex) (S' : St) => Holds C P 35 D K Φ (after C w_rcrash b_rcrash [1, 1, 0, 1, 0] [] lf e S'))) := by kernel_rfl
noncomputable abbrev bd_rcrash_0 : Code := bodyAt (b_rcrash) [1, 1, 0, 1, 0]
theorem ok_rcrash_0 : codeOK bd_rcrash_0 = true := by kernel_rfl
noncomputable abbrev rest_rcrash_0 (D : Dom) (K : Nat) (Φ : Ex → St → Prop) : Ex → St → Prop := fun e S' => Holds C P 35 D K Φ (after C w_rcrash (b_rcrash) [1, 1, 0, 1, 0] [] lf e S')
theorem rcrash_L0 (ex ey : Bool) (d : Dk) (ez : Bool) (l : List Bool) (L : Nat → List Cl) (i : Nat) {D : Dom} (K : Nat) (Φ : Ex → St → Prop) :
 (Holds C P 35 D K (RoundQ C 35 D K (I_rcr ex ey d ez l L) (fun i => i ≤ d.q.length ∧ i ≤ l.length) (fun i => d.q.length - i) ((fun i => d.q.length - i) (i)) (rest_rcrash_0 D K Φ)) (vc C w_rcrash bd_rcrash_0 [] ((I_rcr ex ey d ez l L) (i)) lf)) =
 (((decide (((i : Nat) : Int) < (((List.length (Dk.q d)) : Nat) : Int))) = true →
 (((decide (((i : Nat) : Int) < (((List.length l) : Nat) : Int))) = true →
 ((((0 : Int) ≤ ((i : Nat) : Int)) ∧ (((i : Nat) : Int) < (((List.length l) : Nat) : Int))) ∧
 (((List.getD l i false) = true →
 ((((0 : Int) ≤ ((i : Nat) : Int)) ∧ (((i : Nat) : Int) < (((List.length (Dk.q d)) : Nat) : Int))) ∧
 (Fun C P 61 [(csA false (L i)), (jbA (jbAt (Dk.q d) i))] [] (csA false (perf (toCls (csA false (L i))) (toJb (jbA (jbAt (Dk.q d) i))))) [] ∧
 ((I64 (((i + 1) : Nat) : Int)) ∧
 ((RoundQ C 35 D K (I_rcr ex ey d ez l L) (fun i => i ≤ d.q.length ∧ i ≤ l.length) (fun i => d.q.length - i) ((fun i => d.q.length - i) (i)) (rest_rcrash_0 D K Φ)) Ex.normal (St.mk [(1, (AV.dat (List.length l) ez 1 (fun (i1 : Nat) => (AV.sb (List.getD l i1 false))))), (2, (AV.ptr 2 [])), (4, (AV.ptr 4 [])), (5, (csA false (perf (toCls (csA false (L i))) (toJb (jbA (jbAt (Dk.q d) i)))))), (6, (AV.i (((i + 1) : Nat) : Int))), (19, (AV.v (Value.bool true))), (25, (AV.v (Value.bool true)))] [(2, (Blk.c (dkA ex ey d))), (4, (Blk.c (AV.st [(AV.dat 0 true 0 (fun (x : Nat) => (AV.v (Value.tuple #[])))), (AV.dat 0 true 0 (fun (x : Nat) => (AV.v (Value.tuple #[]))))])))] [2, 4])))))) ∧
 ((List.getD l i false) = false →
 ((I64 (((i + 1) : Nat) : Int)) ∧
 ((RoundQ C 35 D K (I_rcr ex ey d ez l L) (fun i => i ≤ d.q.length ∧ i ≤ l.length) (fun i => d.q.length - i) ((fun i => d.q.length - i) (i)) (rest_rcrash_0 D K Φ)) Ex.normal (St.mk [(1, (AV.dat (List.length l) ez 1 (fun (i1 : Nat) => (AV.sb (List.getD l i1 false))))), (2, (AV.ptr 2 [])), (4, (AV.ptr 4 [])), (5, (csA false (L i))), (6, (AV.i (((i + 1) : Nat) : Int))), (19, (AV.v (Value.bool true))), (25, (AV.v (Value.bool false)))] [(2, (Blk.c (dkA ex ey d))), (4, (Blk.c (AV.st [(AV.dat 0 true 0 (fun (x : Nat) => (AV.v (Value.tuple #[])))), (AV.dat 0 true 0 (fun (x : Nat) => (AV.v (Value.tuple #[]))))])))] [2, 4]))))))) ∧
 ((decide (((i : Nat) : Int) < (((List.length l) : Nat) : Int))) = false →
 ((((true = true) ∧ (true = true)) ∧ (((true = true) ∧ (true = true)) ∧ True)) ∧
 (Φ Ex.ret (St.mk [(1, (AV.dat (List.length l) ez 1 (fun (i1 : Nat) => (AV.sb (List.getD l i1 false))))), (2, (AV.ptr 2 [])), (4, (AV.ptr 4 [])), (5, (csA false (L i))), (6, (AV.i ((i : Nat) : Int))), (19, (AV.v (Value.bool false)))] [(2, (Blk.c (dkA ex ey d))), (4, (Blk.c (AV.st [(csA false (L i)), (AV.dat 0 true 0 (fun (x : Nat) => (AV.v (Value.tuple #[]))))])))] [2, 4])))))) ∧
 ((decide (((i : Nat) : Int) < (((List.length (Dk.q d)) : Nat) : Int))) = false →
 ((((true = true) ∧ (true = true)) ∧ (((true = true) ∧ (true = true)) ∧ True)) ∧
 (Φ Ex.ret (St.mk [(1, (AV.dat (List.length l) ez 1 (fun (i1 : Nat) => (AV.sb (List.getD l i1 false))))), (2, (AV.ptr 2 [])), (4, (AV.ptr 4 [])), (5, (csA false (L i))), (6, (AV.i ((i : Nat) : Int))), (19, (AV.v (Value.bool false)))] [(2, (Blk.c (dkA ex ey d))), (4, (Blk.c (AV.st [(csA false (L i)), (AV.dat 0 true 0 (fun (x : Nat) => (AV.v (Value.tuple #[]))))])))] [2, 4]))))) := by kernel_rfl
theorem rcont_fun (ex ey : Bool) (d : Dk) (so : SoC d.l) (hn : d.l.length + d.q.length < 2 ^ 36) : Fun C P F_rcont [dkA ex ey d] [] (csA false (cont d)) [] := by
 refine in_rcont (W := w_rcont) rfl 0 (by simp) rfl (fun id h => absurd rfl h) fun D => ?_
 refine of_eq (rcont_A ex ey d 0 _) ?_
 refine loop_inv (W := w_rcont) ctx mixed ok_rcont_0 (I_rc ex ey d) (fun i => i ≤ d.q.length) (fun i => d.q.length - i) 0 (Nat.zero_le _) ?_ fun i hi => ?_
 ·exact ent_of [(1, 1)] rfl (tm_cons rfl (sm_ptr rfl) (tm_cons rfl (sm_dat (by simp) fun i _ => rfl) (tm_cons rfl (sm_same rfl) tm_nil))) (hp_cons rfl rfl (sm_same rfl) hp_nil)
 have hlen := prN_len (f := fun _ => true) so d.q i
 refine of_eq (rcont_L0 ex ey d i 0 _) ⟨fun h => ?_, fun h => ?_⟩
 ·simp only [decide_eq_true_eq] at h
  rw [toCls_A, toJb_A]
  have e : prN (fun _ => true) d.l d.q (i + 1) = perf (prN (fun _ => true) d.l d.q i) (jbAt d.q i) := by
   show (if true = true then _ else _) = _
   rw [if_pos rfl]; rfl
  refine ⟨(by first | omega | decide | (unfold I64; omega)), rperf_fun false _ _ (prN_so so d.q i) (by omega), (by first | omega | decide | (unfold I64; omega)), round_end (i + 1) (by omega) ?_ (by dsimp only; omega)⟩
  unfold I_rc
  rw [e]
  exact ent_of [(1, 1)] rfl (tm_cons rfl (sm_ptr rfl) (tm_cons rfl (sm_same rfl) (tm_cons rfl (sm_same rfl) tm_nil))) (hp_cons rfl rfl (sm_same rfl) hp_nil)
 ·simp only [decide_eq_false_iff_not] at h
  obtain rfl : i = d.q.length := by omega
  exact post_tmp rfl (sm_same rfl)
theorem rsync_fun (ex ey : Bool) (d : Dk) (so : SoC d.l) (hn : d.l.length + d.q.length < 2 ^ 36) : Fun C P F_rsync [dkA ex ey d] [] (dkA false false (syncD d)) [] := by
 refine in_rsync (W := w_rsync) rfl 0 (by simp) rfl (fun id h => absurd rfl h) fun D => ?_
 refine of_eq (rsync_A ex ey d 0 _) ?_
 rw [toDk_A]
 exact ⟨rcont_fun ex ey d so hn, TD2, post_cell rfl rfl (sm_st (sms_cons (sm_same rfl) (sms_cons (.inr ⟨rfl, by simp, .inl rfl, fun i hi => absurd hi (Nat.not_lt_zero i)⟩) sms_nil))) rfl⟩
theorem rcrash_fun (ex ey : Bool) (d : Dk) (ez : Bool) (l : List Bool) (so : SoC d.l) (hn : d.l.length + d.q.length < 2 ^ 36) : Fun C P F_rcrash [dkA ex ey d, bA ez l] [] (dkA false false (crashD d l)) [] := by
 refine in_rcrash (W := w_rcrash) rfl 0 (by simp) rfl (fun id h => absurd rfl h) fun D => ?_
 refine of_eq (rcrash_A ex ey d ez l 0 _) ?_
 obtain ⟨L, eL⟩ : ∃ L, L = prN (fun i => l.getD i false) d.l d.q := ⟨_, rfl⟩
 have L0 : L 0 = d.l := by rw [eL]; rfl
 have Ly : ∀ i, l.getD i false = true → L (i + 1) = perf (L i) (jbAt d.q i) := fun i h => by
  rw [eL]
  show (if l.getD i false = true then _ else _) = _
  rw [if_pos h]; rfl
 have Ln : ∀ i, l.getD i false = false → L (i + 1) = L i := fun i h => by
  rw [eL]
  show (if l.getD i false = true then _ else _) = _
  rw [if_neg (by rw [h]; simp)]
 have Ls : ∀ i, SoC (L i) := fun i => by rw [eL]; exact prN_so so d.q i
 have Ll : ∀ i, (L i).length ≤ d.l.length + i := fun i => by rw [eL]; exact prN_len so d.q i
 have Le : ∀ i, i ≤ d.q.length → (i = d.q.length ∨ i = l.length) → crashD d l = ⟨L i, []⟩ := fun i h1 h2 => by
  unfold crashD
  rw [eL]
  rcases h2 with h2 | h2
  ·rw [h2]
  ·rw [prN_stop (m := i) (fun k hk => by rw [List.getD_eq_getElem?_getD, List.getElem?_eq_none (by omega)]; rfl) h1]
 clear eL
 refine loop_inv (W := w_rcrash) ctx mixed ok_rcrash_0 (I_rcr ex ey d ez l L) (fun i => i ≤ d.q.length ∧ i ≤ l.length) (fun i => d.q.length - i) 0 ⟨Nat.zero_le _, Nat.zero_le _⟩ ?_ fun i hi => ?_
 ·unfold I_rcr
  rw [L0]
  exact ent_of [(2, 2), (4, 4)] rfl (tm_cons rfl (sm_same rfl) (tm_cons rfl (sm_ptr rfl) (tm_cons rfl (sm_ptr rfl) (tm_cons rfl (sm_dat (by simp) fun i _ => rfl) (tm_cons rfl (sm_same rfl) tm_nil))))) (hp_cons rfl rfl (sm_same rfl) (hp_cons rfl rfl (sm_same rfl) hp_nil))
 obtain ⟨h1, h2⟩ := hi
 have hlen := Ll i
 have fin : ∀ m, simR m (AV.st [csA false (L i), nilS]) (dkA false false ⟨L i, []⟩) := fun m => sm_st (sms_cons (sm_same rfl) (sms_cons (.inr ⟨rfl, by simp, .inl rfl, fun i hi => absurd hi (Nat.not_lt_zero i)⟩) sms_nil))
 refine of_eq (rcrash_L0 ex ey d ez l L i 0 _) ⟨fun h => ⟨fun h3 => ?_, fun h3 => ?_⟩, fun h => ?_⟩
 ·simp only [decide_eq_true_eq] at h h3
  refine ⟨(by first | omega | decide | (unfold I64; omega)), fun h4 => ?_, fun h4 => ?_⟩
  ·rw [toCls_A, toJb_A]
   refine ⟨(by first | omega | decide | (unfold I64; omega)), rperf_fun false _ _ (Ls i) (by omega), (by first | omega | decide | (unfold I64; omega)), round_end (i + 1) ⟨by omega, by omega⟩ ?_ (by dsimp only; omega)⟩
   unfold I_rcr
   rw [Ly i h4]
   exact ent_of [(2, 2), (4, 4)] rfl (tm_cons rfl (sm_same rfl) (tm_cons rfl (sm_ptr rfl) (tm_cons rfl (sm_ptr rfl) (tm_cons rfl (sm_same rfl) (tm_cons rfl (sm_same rfl) tm_nil))))) (hp_cons rfl rfl (sm_same rfl) (hp_cons rfl rfl (sm_same rfl) hp_nil))
  ·refine ⟨(by first | omega | decide | (unfold I64; omega)), round_end (i + 1) ⟨by omega, by omega⟩ ?_ (by dsimp only; omega)⟩
   unfold I_rcr
   rw [Ln i h4]
   exact ent_of [(2, 2), (4, 4)] rfl (tm_cons rfl (sm_same rfl) (tm_cons rfl (sm_ptr rfl) (tm_cons rfl (sm_ptr rfl) (tm_cons rfl (sm_same rfl) (tm_cons rfl (sm_same rfl) tm_nil))))) (hp_cons rfl rfl (sm_same rfl) (hp_cons rfl rfl (sm_same rfl) hp_nil))
 ·simp only [decide_eq_false_iff_not] at h3
  rw [Le i h1 (.inr (by omega))]
  exact ⟨TD2, post_cell rfl rfl (fin _) rfl⟩
 ·simp only [decide_eq_false_iff_not] at h
  rw [Le i h1 (.inl (by omega))]
  exact ⟨TD2, post_cell rfl rfl (fin _) rfl⟩
end Go.Bu.W
namespace Go.Bu.W
open Sp
abbrev gotA (l : List Cl) (i s : Int) : AV := .st [.dat (gotB l i s).length false 1 (rowL (gotB l i s)), .i (gotE l i s)]
def crGet : List AV → Option (AV × List (Nat × Blk))
 | [x, i, s] => some (gotA (cont (toDk x)) (asI i) (asI s), [])
 | _ => none
def crS8 (g : Nat) (args : List AV) (H : List (Nat × Blk)) : Option (AV × List (Nat × Blk)) :=
 sel (Nat.beq g F_rget) (crGet args) <| sel (Nat.beq g F_lget) (crGet args) <| crS7 g args H
def wayJ (keep : List Nat) (nt : Nat) (cuts : List Nat) : Way := ⟨crS8, fun _ => false, keep, [], nt, cuts, []⟩
def w_rget : Way := wayJ [0, 1, 2, 3, 6, 7, 8, 14, 32, 38] 47 [2]
def S_rg2 (l : List Cl) (i s : Int) : St := { tm := [(1, .i i), (2, .i s), (6, .ptr 6 []), (7, csA false l)], hp := [(6, .c (.st [nilS, .i 0]))], seen := [6] }
def I_rg (l : List Cl) (i s : Int) (k : Nat) : St := { tm := [(1, .i i), (2, .i s), (6, .ptr 6 []), (7, csA false l), (8, .i k)], hp := [(6, .c (.st [nilS, .i 0]))], seen := [6] }
theorem rget_A (ex ey : Bool) (d : Dk) (i s : Int) {D : Dom} (K : Nat) (Φ : Ex → St → Prop) :
 (Holds C P 47 D K Φ (vc C w_rget b_rget [] (start [dkA ex ey d, .i i, .i s] []) lf)) =
 (Fun C P 55 [(dkA ex ey d)] [] (csA false (cont (toDk (dkA ex ey d)))) [] ∧
 (∃ (S2 : St), Ent C 47 D K (St.mk [(0, (dkA ex ey d)), (1, (AV.i i)), (2, (AV.i s)), (3, (AV.ptr 3 [])), (6, (AV.ptr 6 [])), (7, (csA false (cont (toDk (dkA ex ey d)))))] [(3, (Blk.c (dkA ex ey d))), (6, (Blk.c (AV.st [(AV.dat 0 true 0 (fun (x : Nat) => (AV.v (Value.tuple #[])))), (AV.i (0 : Int))])))] [6, 3]) S2 ∧ Holds C P 47 D K Φ (cutAt C w_rget b_rget [1, 1, 0, 0] S2 (after C w_rget b_rget [1, 1, 0, 0] [] lf)))) := by kernel_rfl
theorem rget_C2 (l : List Cl) (i s : Int) {D : Dom} (K : Nat) (Φ : Ex → St → Prop) :
 (Holds C P 47 D K Φ (cutAt C w_rget b_rget [1, 1, 0, 0] (S_rg2 l i s) (after C w_rget b_rget [1, 1, 0, 0] [] lf))) =
 (LoopOK C P 47 D K (bodyAt b_rget [1, 1, 0, 1, 0]) (St.mk [(1, (AV.i i)), (2, (AV.i s)), (6, (AV.ptr 6 [])), (7, (csA false l)), (8, (AV.i (0 : Int)))] [(6, (Blk.c (AV.st [(AV.dat 0 true 0 (fun (x : Nat) => (AV.v (Value.tuple #[])))), (AV.i (0 : Int))])))] [6]) (fun (e : Ex) (S' : St) => Holds C P 47 D K Φ (after C w_rget b_rget [1, 1, 0, 1, 0] [] lf e S'))) := by kernel_rfl
noncomputable abbrev bd_rget_0 : Code := bodyAt (b_rget) [1, 1, 0, 1, 0]
theorem ok_rget_0 : codeOK bd_rget_0 = true := by kernel_rfl
noncomputable abbrev rest_rget_0 (D : Dom) (K : Nat) (Φ : Ex → St → Prop) : Ex → St → Prop := fun e S' => Holds C P 47 D K Φ (after C w_rget (b_rget) [1, 1, 0, 1, 0] [] lf e S')
theorem rget_L0 (l : List Cl) (i s : Int) (k : Nat) {D : Dom} (K : Nat) (Φ : Ex → St → Prop) :
 (Holds C P 47 D K (RoundQ C 47 D K (I_rg l i s) (fun k => k ≤ l.length ∧ ∀ m, m < k → ¬ ((clAt l m).i = i ∧ (clAt l m).s = s)) (fun k => l.length - k) ((fun k => l.length - k) (k)) (rest_rget_0 D K Φ)) (vc C w_rget bd_rget_0 [] ((I_rg l i s) (k)) lf)) =
 (((decide (((k : Nat) : Int) < (((List.length l) : Nat) : Int))) = true →
 ((((0 : Int) ≤ ((k : Nat) : Int)) ∧ (((k : Nat) : Int) < (((List.length l) : Nat) : Int))) ∧
 ((((Cl.i (clAt l k)) == i) = true →
 ((((0 : Int) ≤ ((k : Nat) : Int)) ∧ (((k : Nat) : Int) < (((List.length l) : Nat) : Int))) ∧
 ((((Cl.s (clAt l k)) == s) = true →
 ((((0 : Int) ≤ ((k : Nat) : Int)) ∧ (((k : Nat) : Int) < (((List.length l) : Nat) : Int))) ∧
 (Fun C P 59 [(clA (clAt l k))] [] (AV.sb (whC (toCl (clA (clAt l k))))) [] ∧
 (True ∧
 (((! (whC (toCl (clA (clAt l k))))) = true →
 ((((true = true) ∧ (true = true)) ∧ (((true = true) ∧ (true = true)) ∧ True)) ∧
 (Φ Ex.ret (St.mk [(1, (AV.i i)), (2, (AV.i s)), (6, (AV.ptr 6 [])), (7, (csA false l)), (8, (AV.i ((k : Nat) : Int))), (14, (AV.v (Value.bool true))), (32, (AV.v (Value.bool true))), (38, (AV.v (Value.bool true)))] [(6, (Blk.c (AV.st [(AV.dat 0 true 0 (fun (x : Nat) => (AV.v (Value.tuple #[])))), (AV.i (221 : Int))])))] [6])))) ∧
 ((! (whC (toCl (clA (clAt l k))))) = false →
 ((((0 : Int) ≤ ((k : Nat) : Int)) ∧ (((k : Nat) : Int) < (((List.length l) : Nat) : Int))) ∧
 ((((true = true) ∧ (true = true)) ∧ (((true = true) ∧ (true = true)) ∧ True)) ∧
 (Φ Ex.ret (St.mk [(1, (AV.i i)), (2, (AV.i s)), (6, (AV.ptr 6 [])), (7, (csA false l)), (8, (AV.i ((k : Nat) : Int))), (14, (AV.v (Value.bool true))), (32, (AV.v (Value.bool true))), (38, (AV.v (Value.bool false)))] [(6, (Blk.c (AV.st [(AV.dat (List.length (Cl.b (clAt l k))) false 1 (rowL (Cl.b (clAt l k)))), (AV.i (0 : Int))])))] [6])))))))))) ∧
 (((Cl.s (clAt l k)) == s) = false →
 ((I64 (((k + 1) : Nat) : Int)) ∧
 ((RoundQ C 47 D K (I_rg l i s) (fun k => k ≤ l.length ∧ ∀ m, m < k → ¬ ((clAt l m).i = i ∧ (clAt l m).s = s)) (fun k => l.length - k) ((fun k => l.length - k) (k)) (rest_rget_0 D K Φ)) Ex.normal (St.mk [(1, (AV.i i)), (2, (AV.i s)), (6, (AV.ptr 6 [])), (7, (csA false l)), (8, (AV.i (((k + 1) : Nat) : Int))), (14, (AV.v (Value.bool true))), (32, (AV.v (Value.bool false)))] [(6, (Blk.c (AV.st [(AV.dat 0 true 0 (fun (x : Nat) => (AV.v (Value.tuple #[])))), (AV.i (0 : Int))])))] [6]))))))) ∧
 (((Cl.i (clAt l k)) == i) = false →
 ((I64 (((k + 1) : Nat) : Int)) ∧
 ((RoundQ C 47 D K (I_rg l i s) (fun k => k ≤ l.length ∧ ∀ m, m < k → ¬ ((clAt l m).i = i ∧ (clAt l m).s = s)) (fun k => l.length - k) ((fun k => l.length - k) (k)) (rest_rget_0 D K Φ)) Ex.normal (St.mk [(1, (AV.i i)), (2, (AV.i s)), (6, (AV.ptr 6 [])), (7, (csA false l)), (8, (AV.i (((k + 1) : Nat) : Int))), (14, (AV.v (Value.bool true))), (32, (AV.v (Value.bool false)))] [(6, (Blk.c (AV.st [(AV.dat 0 true 0 (fun (x : Nat) => (AV.v (Value.tuple #[])))), (AV.i (0 : Int))])))] [6]))))))) ∧
 ((decide (((k : Nat) : Int) < (((List.length l) : Nat) : Int))) = false →
 ((((true = true) ∧ (true = true)) ∧ (((true = true) ∧ (true = true)) ∧ True)) ∧
 (Φ Ex.ret (St.mk [(1, (AV.i i)), (2, (AV.i s)), (6, (AV.ptr 6 [])), (7, (csA false l)), (8, (AV.i ((k : Nat) : Int))), (14, (AV.v (Value.bool false)))] [(6, (Blk.c (AV.st [(AV.dat 0 true 0 (fun (x : Nat) => (AV.v (Value.tuple #[])))), (AV.i (220 : Int))])))] [6]))))) := by kernel_rfl
theorem VD.smc {d : Dk} (h : VD d) {c : Cl} (hc : c ∈ cont d) : Small c.b ∧ c.b.length < 2 ^ 40 := by
 obtain ⟨_, _, _, _, h5, h6, _⟩ := h.sync.cs c hc
 exact ⟨h6, by omega⟩
theorem sm_nilG {m : Nat → Option Nat} (e : Int) (f : Nat → AV) : simR m (AV.st [nilS, .i e]) (.st [.dat 0 false 1 f, .i e]) := sm_st (sms_cons (sm_nilS f) (sms_cons (sm_int rfl) sms_nil))
theorem rget_fun (ex ey : Bool) (d : Dk) (hv : VD d) (i s : Int) (hn : d.l.length + d.q.length < 2 ^ 36) : Fun C P F_rget [dkA ex ey d, .i i, .i s] [] (gotA (cont d) i s) [] := by
 refine in_rget (W := w_rget) rfl 0 (by simp) rfl (fun id h => absurd rfl h) fun D => ?_
 refine of_eq (rget_A ex ey d i s 0 _) ?_
 rw [toDk_A]
 have hc := rcont_fun ex ey d hv.so hn
 have hsm := fun c hc => hv.smc (c := c) hc
 have hso := hv.sync.so
 have hln : (cont d).length ≤ d.l.length + d.q.length := prN_len hv.so d.q d.q.length
 obtain ⟨l, el⟩ : ∃ l, l = cont d := ⟨_, rfl⟩
 have hso : SoC l := by rw [el]; exact hso
 rw [← el] at hc hsm hln ⊢
 clear el
 refine ⟨hc, cut_ok (S2 := S_rg2 l i s) (ent_of [(6, 6)] rfl (tm_cons rfl (sm_same rfl) (tm_cons rfl (sm_same rfl) (tm_cons rfl (sm_ptr rfl) (tm_cons rfl (sm_same rfl) tm_nil)))) (hp_cons rfl rfl (sm_same rfl) hp_nil)) ?_⟩
 refine of_eq (rget_C2 l i s 0 _) ?_
 refine loop_inv (W := w_rget) ctx mixed ok_rget_0 (I_rg l i s) (fun k => k ≤ l.length ∧ ∀ m, m < k → ¬ ((clAt l m).i = i ∧ (clAt l m).s = s)) (fun k => l.length - k) 0 ⟨Nat.zero_le _, fun m hm => absurd hm (Nat.not_lt_zero m)⟩ ?_ fun k hk => ?_
 ·exact ent_of [(6, 6)] rfl (tm_cons rfl (sm_same rfl) (tm_cons rfl (sm_same rfl) (tm_cons rfl (sm_ptr rfl) (tm_cons rfl (sm_same rfl) (tm_cons rfl (sm_same rfl) tm_nil))))) (hp_cons rfl rfl (sm_same rfl) hp_nil)
 obtain ⟨h1, h2⟩ := hk
 refine of_eq (rget_L0 l i s k 0 _) ⟨fun h => ?_, fun h => ?_⟩
 rotate_left
 ·simp only [decide_eq_false_iff_not] at h
  have hg : getC l i s = none := getC_none.2 fun c hc hh => by
   obtain ⟨m, hm, rfl⟩ := List.getElem_of_mem hc
   rw [← clAt_lt hm] at hh
   exact h2 m (by omega) hh
  have e1 : gotB l i s = [] := by unfold gotB; rw [hg]
  have e2 : gotE l i s = 220 := by unfold gotE; rw [hg]
  have e3 : gotA l i s = .st [.dat (gotB l i s).length false 1 (rowL (gotB l i s)), .i (gotE l i s)] := rfl
  rw [e3, e1, e2]
  exact ⟨TD2, post_cell rfl rfl (sm_nilG 220 _) rfl⟩
 simp only [decide_eq_true_eq] at h
 have hlt0 : k < l.length := by omega
 refine ⟨(by first | omega | decide | (unfold I64; omega)), fun h3 => ⟨(by first | omega | decide | (unfold I64; omega)), fun h4 => ?_, fun h4 => ?_⟩, fun h3 => ?_⟩
 ·have hlt : k < l.length := by omega
  have hm : clAt l k ∈ l := by rw [clAt_lt hlt]; exact List.getElem_mem hlt
  have h3 : (clAt l k).i = i := by simpa using h3
  have h4 : (clAt l k).s = s := by simpa using h4
  have hg : getC l i s = some (clAt l k) := by
   have := getC_mem hso hm
   rwa [h3, h4] at this
  obtain ⟨m1, m2⟩ := hsm _ hm
  rw [toCl_A]
  refine ⟨(by first | omega | decide | (unfold I64; omega)), rwhole_fun _ m1 m2, trivial, fun h5 => ?_, fun h5 => ?_⟩
  ·have h5 : ¬ whC (clAt l k) = true := by simpa using h5
   have e1 : gotB l i s = [] := by unfold gotB; rw [hg]; exact if_neg h5
   have e2 : gotE l i s = 221 := by unfold gotE; rw [hg]; exact if_neg h5
   have e3 : gotA l i s = .st [.dat (gotB l i s).length false 1 (rowL (gotB l i s)), .i (gotE l i s)] := rfl
   rw [e3, e1, e2]
   exact ⟨TD2, post_cell rfl rfl (sm_nilG 221 _) rfl⟩
  ·have h5 : whC (clAt l k) = true := by simpa using h5
   have e1 : gotB l i s = (clAt l k).b := by unfold gotB; rw [hg]; exact if_pos h5
   have e2 : gotE l i s = 0 := by unfold gotE; rw [hg]; exact if_pos h5
   have e3 : gotA l i s = .st [.dat (gotB l i s).length false 1 (rowL (gotB l i s)), .i (gotE l i s)] := rfl
   rw [e3, e1, e2]
   exact ⟨(by first | omega | decide | (unfold I64; omega)), TD2, post_cell rfl rfl (sm_same rfl) rfl⟩
 ·have h4 : ¬ (clAt l k).s = s := by simpa using h4
  refine ⟨(by first | omega | decide | (unfold I64; omega)), round_end (k + 1) ⟨by omega, fun m hm => ?_⟩ (ent_of [(6, 6)] rfl (tm_cons rfl (sm_same rfl) (tm_cons rfl (sm_same rfl) (tm_cons rfl (sm_ptr rfl) (tm_cons rfl (sm_same rfl) (tm_cons rfl (sm_same rfl) tm_nil))))) (hp_cons rfl rfl (sm_same rfl) hp_nil)) (by dsimp only; omega)⟩
  by_cases e : m = k
  ·rw [e]; exact fun hh => h4 hh.2
  ·exact h2 m (by omega)
 ·have h3 : ¬ (clAt l k).i = i := by simpa using h3
  refine ⟨(by first | omega | decide | (unfold I64; omega)), round_end (k + 1) ⟨by omega, fun m hm => ?_⟩ (ent_of [(6, 6)] rfl (tm_cons rfl (sm_same rfl) (tm_cons rfl (sm_same rfl) (tm_cons rfl (sm_ptr rfl) (tm_cons rfl (sm_same rfl) (tm_cons rfl (sm_same rfl) tm_nil))))) (hp_cons rfl rfl (sm_same rfl) hp_nil)) (by dsimp only; omega)⟩
  by_cases e : m = k
  ·rw [e]; exact fun hh => h3 hh.1
  ·exact h2 m (by omega)
end Go.Bu.W

