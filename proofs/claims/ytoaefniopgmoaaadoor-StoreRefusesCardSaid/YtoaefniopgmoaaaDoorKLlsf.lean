/- Numbers that are out of range, and too many bytes, are refused, and change nothing. -/
import Derived.Test.YtoaefniopgmoaaaDoorK25
namespace Go.Bu.W
open Sp
def crBig : List AV → Option (AV × List (Nat × Blk)) → Option (AV × List (Nat × Blk))
  | [x, _, _, .dat n _ _ _], o => match Nat.beq n 1048577 with | true => some (.st [x, .i 2], []) | false => o
  | _, o => o
def crUf (g : Nat) (args : List AV) (H : List (Nat × Blk)) : Option (AV × List (Nat × Blk)) := sel (Nat.beq g F_lput) (crBig args (crRPut args)) <| crU g args H
def wayN3 (keep : List Nat) (nt : Nat) (cuts : List Nat) : Way := ⟨crUf, fun _ => false, keep, [], nt, cuts, []⟩
def w_lsf : Way := wayN3 [0, 1, 2, 6, 7, 8, 9, 10, 11, 12, 19, 70, 73] 84 [4,7,8,9,11]
def S_lsf4 (d : Dk) (n : Int) (k : Nat) : St := { tm := [(1, .i n), (2, u8 k), (7, .sb true), (8, .ptr 8 []), (9, .i n), (10, .i n)], hp := [(8, .c (dkA false false d))], seen := [8] }
def S_lsf7 (d : Dk) (id sh : Int) (k : Nat) : St := { tm := [(2, u8 k), (7, .sb true), (8, .ptr 8 []), (9, .i id), (10, .i sh)], hp := [(8, .c (dkA false false d))], seen := [8] }
def S_lsf8 (d : Dk) (id sh : Int) (k : Nat) : St := { tm := [(2, u8 k), (7, .sb true), (8, .ptr 8 []), (9, .i id), (10, .i sh), (11, .ptr 11 [])], hp := [(8, .c (dkA false false d)), (11, .c (woA d 1))], seen := [8, 11] }
def S_lsf9 (d : Dk) (id sh : Int) (k : Nat) : St := { tm := [(2, u8 k), (7, .sb true), (8, .ptr 8 []), (9, .i id), (10, .i sh), (12, .sb true)], hp := [(8, .c (dkA false false d))], seen := [8] }
def S_lsf11 (d : Dk) (k : Nat) : St := { tm := [(2, u8 k), (7, .sb true), (8, .ptr 8 [])], hp := [(8, .c (dkA false false d))], seen := [8] }

theorem lsf_A (ex : Bool) (e1 e2 : Nat → Bool) (l : List Rw) (n : Int) (k : Nat) {D : Dom} (K : Nat) (Φ : Ex → St → Prop) :
 (Holds C P 84 D K Φ (vc C w_lsf b_lsf [] (start [rwsA ex e1 e2 l, .i n, u8 k] []) lf)) =
 (Fun C P 11 [] [] (AV.sb true) [] ∧
 (True ∧
 (Fun C P 20 [(AV.dat (List.length l) ex 5 (fun (i : Nat) => (rwA (e1 i) (e2 i) (rwAt l i)))), (AV.i (8 : Int))] [] (AV.st [(AV.dat (List.length (Dk.l (madeN (toRws (AV.dat (List.length l) ex 5 (fun (i : Nat) => (rwA (e1 i) (e2 i) (rwAt l i))))) (Min.min 8 (List.length (toRws (AV.dat (List.length l) ex 5 (fun (i : Nat) => (rwA (e1 i) (e2 i) (rwAt l i)))))))))) false 35 (fun (i : Nat) => (AV.st [(AV.i (Cl.i (clAt (Dk.l (madeN (toRws (AV.dat (List.length l) ex 5 (fun (i1 : Nat) => (rwA (e1 i1) (e2 i1) (rwAt l i1))))) (Min.min 8 (List.length (toRws (AV.dat (List.length l) ex 5 (fun (i1 : Nat) => (rwA (e1 i1) (e2 i1) (rwAt l i1))))))))) i))), (AV.i (Cl.s (clAt (Dk.l (madeN (toRws (AV.dat (List.length l) ex 5 (fun (i1 : Nat) => (rwA (e1 i1) (e2 i1) (rwAt l i1))))) (Min.min 8 (List.length (toRws (AV.dat (List.length l) ex 5 (fun (i1 : Nat) => (rwA (e1 i1) (e2 i1) (rwAt l i1))))))))) i))), (AV.dat (List.length (Cl.b (clAt (Dk.l (madeN (toRws (AV.dat (List.length l) ex 5 (fun (i1 : Nat) => (rwA (e1 i1) (e2 i1) (rwAt l i1))))) (Min.min 8 (List.length (toRws (AV.dat (List.length l) ex 5 (fun (i1 : Nat) => (rwA (e1 i1) (e2 i1) (rwAt l i1))))))))) i))) false 1 (rowL (Cl.b (clAt (Dk.l (madeN (toRws (AV.dat (List.length l) ex 5 (fun (i1 : Nat) => (rwA (e1 i1) (e2 i1) (rwAt l i1))))) (Min.min 8 (List.length (toRws (AV.dat (List.length l) ex 5 (fun (i1 : Nat) => (rwA (e1 i1) (e2 i1) (rwAt l i1))))))))) i)))), (hA (Cl.h (clAt (Dk.l (madeN (toRws (AV.dat (List.length l) ex 5 (fun (i2 : Nat) => (rwA (e1 i2) (e2 i2) (rwAt l i2))))) (Min.min 8 (List.length (toRws (AV.dat (List.length l) ex 5 (fun (i2 : Nat) => (rwA (e1 i2) (e2 i2) (rwAt l i2))))))))) i)))]))), (AV.dat (List.length (Dk.q (madeN (toRws (AV.dat (List.length l) ex 5 (fun (i : Nat) => (rwA (e1 i) (e2 i) (rwAt l i))))) (Min.min 8 (List.length (toRws (AV.dat (List.length l) ex 5 (fun (i : Nat) => (rwA (e1 i) (e2 i) (rwAt l i)))))))))) false 36 (fun (i : Nat) => (AV.st [(AV.sb (Jb.dr (jbAt (Dk.q (madeN (toRws (AV.dat (List.length l) ex 5 (fun (i1 : Nat) => (rwA (e1 i1) (e2 i1) (rwAt l i1))))) (Min.min 8 (List.length (toRws (AV.dat (List.length l) ex 5 (fun (i1 : Nat) => (rwA (e1 i1) (e2 i1) (rwAt l i1))))))))) i))), (AV.st [(AV.i (Cl.i (Jb.c (jbAt (Dk.q (madeN (toRws (AV.dat (List.length l) ex 5 (fun (i1 : Nat) => (rwA (e1 i1) (e2 i1) (rwAt l i1))))) (Min.min 8 (List.length (toRws (AV.dat (List.length l) ex 5 (fun (i1 : Nat) => (rwA (e1 i1) (e2 i1) (rwAt l i1))))))))) i)))), (AV.i (Cl.s (Jb.c (jbAt (Dk.q (madeN (toRws (AV.dat (List.length l) ex 5 (fun (i1 : Nat) => (rwA (e1 i1) (e2 i1) (rwAt l i1))))) (Min.min 8 (List.length (toRws (AV.dat (List.length l) ex 5 (fun (i1 : Nat) => (rwA (e1 i1) (e2 i1) (rwAt l i1))))))))) i)))), (AV.dat (List.length (Cl.b (Jb.c (jbAt (Dk.q (madeN (toRws (AV.dat (List.length l) ex 5 (fun (i1 : Nat) => (rwA (e1 i1) (e2 i1) (rwAt l i1))))) (Min.min 8 (List.length (toRws (AV.dat (List.length l) ex 5 (fun (i1 : Nat) => (rwA (e1 i1) (e2 i1) (rwAt l i1))))))))) i)))) false 1 (rowL (Cl.b (Jb.c (jbAt (Dk.q (madeN (toRws (AV.dat (List.length l) ex 5 (fun (i1 : Nat) => (rwA (e1 i1) (e2 i1) (rwAt l i1))))) (Min.min 8 (List.length (toRws (AV.dat (List.length l) ex 5 (fun (i1 : Nat) => (rwA (e1 i1) (e2 i1) (rwAt l i1))))))))) i))))), (hA (Cl.h (Jb.c (jbAt (Dk.q (madeN (toRws (AV.dat (List.length l) ex 5 (fun (i2 : Nat) => (rwA (e1 i2) (e2 i2) (rwAt l i2))))) (Min.min 8 (List.length (toRws (AV.dat (List.length l) ex 5 (fun (i2 : Nat) => (rwA (e1 i2) (e2 i2) (rwAt l i2))))))))) i))))])])))]) [] ∧
 ((((true = true) ∧ (true = true)) ∧ (((true = true) ∧ (true = true)) ∧ True)) ∧
 (∃ (S2 : St), Ent C 84 D K (St.mk [(0, (AV.dat (List.length l) ex 5 (fun (i : Nat) => (rwA (e1 i) (e2 i) (rwAt l i))))), (1, (AV.i n)), (2, (AV.v (Value.int IntKind.u8 ((k : Nat) : Int)))), (6, (AV.v (Value.bool false))), (7, (AV.sb true)), (8, (AV.ptr 8 [])), (9, (AV.i n)), (10, (AV.i n))] [(8, (Blk.c (AV.st [(AV.dat (List.length (Dk.l (madeN (toRws (AV.dat (List.length l) ex 5 (fun (i : Nat) => (rwA (e1 i) (e2 i) (rwAt l i))))) (Min.min 8 (List.length (toRws (AV.dat (List.length l) ex 5 (fun (i : Nat) => (rwA (e1 i) (e2 i) (rwAt l i)))))))))) false 35 (fun (i : Nat) => (AV.st [(AV.i (Cl.i (clAt (Dk.l (madeN (toRws (AV.dat (List.length l) ex 5 (fun (i1 : Nat) => (rwA (e1 i1) (e2 i1) (rwAt l i1))))) (Min.min 8 (List.length (toRws (AV.dat (List.length l) ex 5 (fun (i1 : Nat) => (rwA (e1 i1) (e2 i1) (rwAt l i1))))))))) i))), (AV.i (Cl.s (clAt (Dk.l (madeN (toRws (AV.dat (List.length l) ex 5 (fun (i1 : Nat) => (rwA (e1 i1) (e2 i1) (rwAt l i1))))) (Min.min 8 (List.length (toRws (AV.dat (List.length l) ex 5 (fun (i1 : Nat) => (rwA (e1 i1) (e2 i1) (rwAt l i1))))))))) i))), (AV.dat (List.length (Cl.b (clAt (Dk.l (madeN (toRws (AV.dat (List.length l) ex 5 (fun (i1 : Nat) => (rwA (e1 i1) (e2 i1) (rwAt l i1))))) (Min.min 8 (List.length (toRws (AV.dat (List.length l) ex 5 (fun (i1 : Nat) => (rwA (e1 i1) (e2 i1) (rwAt l i1))))))))) i))) false 1 (rowL (Cl.b (clAt (Dk.l (madeN (toRws (AV.dat (List.length l) ex 5 (fun (i1 : Nat) => (rwA (e1 i1) (e2 i1) (rwAt l i1))))) (Min.min 8 (List.length (toRws (AV.dat (List.length l) ex 5 (fun (i1 : Nat) => (rwA (e1 i1) (e2 i1) (rwAt l i1))))))))) i)))), (hA (Cl.h (clAt (Dk.l (madeN (toRws (AV.dat (List.length l) ex 5 (fun (i2 : Nat) => (rwA (e1 i2) (e2 i2) (rwAt l i2))))) (Min.min 8 (List.length (toRws (AV.dat (List.length l) ex 5 (fun (i2 : Nat) => (rwA (e1 i2) (e2 i2) (rwAt l i2))))))))) i)))]))), (AV.dat (List.length (Dk.q (madeN (toRws (AV.dat (List.length l) ex 5 (fun (i : Nat) => (rwA (e1 i) (e2 i) (rwAt l i))))) (Min.min 8 (List.length (toRws (AV.dat (List.length l) ex 5 (fun (i : Nat) => (rwA (e1 i) (e2 i) (rwAt l i)))))))))) false 36 (fun (i : Nat) => (AV.st [(AV.sb (Jb.dr (jbAt (Dk.q (madeN (toRws (AV.dat (List.length l) ex 5 (fun (i1 : Nat) => (rwA (e1 i1) (e2 i1) (rwAt l i1))))) (Min.min 8 (List.length (toRws (AV.dat (List.length l) ex 5 (fun (i1 : Nat) => (rwA (e1 i1) (e2 i1) (rwAt l i1))))))))) i))), (AV.st [(AV.i (Cl.i (Jb.c (jbAt (Dk.q (madeN (toRws (AV.dat (List.length l) ex 5 (fun (i1 : Nat) => (rwA (e1 i1) (e2 i1) (rwAt l i1))))) (Min.min 8 (List.length (toRws (AV.dat (List.length l) ex 5 (fun (i1 : Nat) => (rwA (e1 i1) (e2 i1) (rwAt l i1))))))))) i)))), (AV.i (Cl.s (Jb.c (jbAt (Dk.q (madeN (toRws (AV.dat (List.length l) ex 5 (fun (i1 : Nat) => (rwA (e1 i1) (e2 i1) (rwAt l i1))))) (Min.min 8 (List.length (toRws (AV.dat (List.length l) ex 5 (fun (i1 : Nat) => (rwA (e1 i1) (e2 i1) (rwAt l i1))))))))) i)))), (AV.dat (List.length (Cl.b (Jb.c (jbAt (Dk.q (madeN (toRws (AV.dat (List.length l) ex 5 (fun (i1 : Nat) => (rwA (e1 i1) (e2 i1) (rwAt l i1))))) (Min.min 8 (List.length (toRws (AV.dat (List.length l) ex 5 (fun (i1 : Nat) => (rwA (e1 i1) (e2 i1) (rwAt l i1))))))))) i)))) false 1 (rowL (Cl.b (Jb.c (jbAt (Dk.q (madeN (toRws (AV.dat (List.length l) ex 5 (fun (i1 : Nat) => (rwA (e1 i1) (e2 i1) (rwAt l i1))))) (Min.min 8 (List.length (toRws (AV.dat (List.length l) ex 5 (fun (i1 : Nat) => (rwA (e1 i1) (e2 i1) (rwAt l i1))))))))) i))))), (hA (Cl.h (Jb.c (jbAt (Dk.q (madeN (toRws (AV.dat (List.length l) ex 5 (fun (i2 : Nat) => (rwA (e1 i2) (e2 i2) (rwAt l i2))))) (Min.min 8 (List.length (toRws (AV.dat (List.length l) ex 5 (fun (i2 : Nat) => (rwA (e1 i2) (e2 i2) (rwAt l i2))))))))) i))))])])))])))] [8]) S2 ∧ Holds C P 84 D K Φ (cutAt C w_lsf b_lsf [1, 1, 1, 1, 0, 0] S2 (after C w_lsf b_lsf [1, 1, 1, 1, 0, 0] [] lf))))))) := by kernel_rfl
set_option maxRecDepth 1000000 in
theorem lsf_C4 (d : Dk) (n : Int) (k : Nat) {D : Dom} (K : Nat) (Φ : Ex → St → Prop) :
 (Holds C P 84 D K Φ (cutAt C w_lsf b_lsf [1, 1, 1, 1, 0, 0] (S_lsf4 d n k) (after C w_lsf b_lsf [1, 1, 1, 1, 0, 0] [] lf))) =
 (((decide (n ≥ (0 : Int))) = true →
 (∃ (S2 : St), Ent C 84 D K (St.mk [(1, (AV.i n)), (2, (AV.v (Value.int IntKind.u8 ((k : Nat) : Int)))), (7, (AV.sb true)), (8, (AV.ptr 8 [])), (9, (AV.i (Max.max n (4096 : Int)))), (10, (AV.i (Max.max n (12 : Int)))), (19, (AV.v (Value.bool true)))] [(8, (Blk.c (dkA false false d)))] [8]) S2 ∧ Holds C P 84 D K Φ (cutAt C w_lsf b_lsf [1, 1, 1, 1, 1, 0] S2 (after C w_lsf b_lsf [1, 1, 1, 1, 1, 0] [] lf)))) ∧
 ((decide (n ≥ (0 : Int))) = false →
 (∃ (S2 : St), Ent C 84 D K (St.mk [(1, (AV.i n)), (2, (AV.v (Value.int IntKind.u8 ((k : Nat) : Int)))), (7, (AV.sb true)), (8, (AV.ptr 8 [])), (9, (AV.i n)), (10, (AV.i n)), (19, (AV.v (Value.bool false)))] [(8, (Blk.c (dkA false false d)))] [8]) S2 ∧ Holds C P 84 D K Φ (cutAt C w_lsf b_lsf [1, 1, 1, 1, 1, 0] S2 (after C w_lsf b_lsf [1, 1, 1, 1, 1, 0] [] lf))))) := by kernel_rfl
theorem lsf_C7 (d : Dk) (id sh : Int) (k : Nat) {D : Dom} (K : Nat) (Φ : Ex → St → Prop) :
 (Holds C P 84 D K Φ (cutAt C w_lsf b_lsf [1, 1, 1, 1, 1, 0] (S_lsf7 d id sh k) (after C w_lsf b_lsf [1, 1, 1, 1, 1, 0] [] lf))) =
 (((((true = true) ∧ (true = true)) ∧ (((true = true) ∧ (true = true)) ∧ True)) ∧ (((true = true) ∧ (true = true)) ∧ True)) ∧
 (∃ (S2 : St), Ent C 84 D K (St.mk [(2, (AV.v (Value.int IntKind.u8 ((k : Nat) : Int)))), (7, (AV.sb true)), (8, (AV.ptr 8 [])), (9, (AV.i id)), (10, (AV.i sh)), (11, (AV.ptr 11 []))] [(8, (Blk.c (dkA false false d))), (11, (Blk.c (AV.st [(dkA false false d), (AV.i (1 : Int))])))] [11, 8]) S2 ∧ Holds C P 84 D K Φ (cutAt C w_lsf b_lsf [1, 1, 1, 1, 1, 1, 0] S2 (after C w_lsf b_lsf [1, 1, 1, 1, 1, 1, 0] [] lf)))) := by kernel_rfl
theorem lsf_C8 (d : Dk) (id sh : Int) (k : Nat) {D : Dom} (K : Nat) (Φ : Ex → St → Prop) :
 (Holds C P 84 D K Φ (cutAt C w_lsf b_lsf [1, 1, 1, 1, 1, 1, 0] (S_lsf8 d id sh k) (after C w_lsf b_lsf [1, 1, 1, 1, 1, 1, 0] [] lf))) =
 (Fun C P 12 [(dkA false false d), (AV.i id), (AV.i (0 : Int)), (AV.dat 0 true 0 (fun (x : Nat) => (AV.v (Value.tuple #[]))))] [] (AV.st [(dkA false false (putD (toDk (dkA false false d)) id (0 : Int) (bytesL 0 (fun (x : Nat) => (AV.v (Value.tuple #[])))))), (AV.i (putE id (0 : Int) (bytesL 0 (fun (x : Nat) => (AV.v (Value.tuple #[]))))))]) [] ∧
 (Fun C P 21 [(AV.st [(dkA false false (putD (toDk (dkA false false d)) id (0 : Int) (bytesL 0 (fun (x : Nat) => (AV.v (Value.tuple #[])))))), (AV.i (putE id (0 : Int) (bytesL 0 (fun (x : Nat) => (AV.v (Value.tuple #[]))))))]), (AV.st [(dkA false false d), (AV.i (1 : Int))])] [] (AV.sb ((sameD (toDk (dkA false false (putD (toDk (dkA false false d)) id (0 : Int) (bytesL 0 (fun (x : Nat) => (AV.v (Value.tuple #[]))))))) (toDk (dkA false false d))) && ((putE id (0 : Int) (bytesL 0 (fun (x : Nat) => (AV.v (Value.tuple #[]))))) == (1 : Int)))) [] ∧
 (True ∧
 ((((sameD (toDk (dkA false false (putD (toDk (dkA false false d)) id (0 : Int) (bytesL 0 (fun (x : Nat) => (AV.v (Value.tuple #[]))))))) (toDk (dkA false false d))) && ((putE id (0 : Int) (bytesL 0 (fun (x : Nat) => (AV.v (Value.tuple #[]))))) == (1 : Int))) = true →
 (Fun C P 12 [(dkA false false d), (AV.i (0 : Int)), (AV.i sh), (AV.dat 0 true 0 (fun (x : Nat) => (AV.v (Value.tuple #[]))))] [] (AV.st [(dkA false false (putD (toDk (dkA false false d)) (0 : Int) sh (bytesL 0 (fun (x : Nat) => (AV.v (Value.tuple #[])))))), (AV.i (putE (0 : Int) sh (bytesL 0 (fun (x : Nat) => (AV.v (Value.tuple #[]))))))]) [] ∧
 (Fun C P 21 [(AV.st [(dkA false false (putD (toDk (dkA false false d)) (0 : Int) sh (bytesL 0 (fun (x : Nat) => (AV.v (Value.tuple #[])))))), (AV.i (putE (0 : Int) sh (bytesL 0 (fun (x : Nat) => (AV.v (Value.tuple #[]))))))]), (AV.st [(dkA false false d), (AV.i (1 : Int))])] [] (AV.sb ((sameD (toDk (dkA false false (putD (toDk (dkA false false d)) (0 : Int) sh (bytesL 0 (fun (x : Nat) => (AV.v (Value.tuple #[]))))))) (toDk (dkA false false d))) && ((putE (0 : Int) sh (bytesL 0 (fun (x : Nat) => (AV.v (Value.tuple #[]))))) == (1 : Int)))) [] ∧
 (True ∧
 ((((sameD (toDk (dkA false false (putD (toDk (dkA false false d)) (0 : Int) sh (bytesL 0 (fun (x : Nat) => (AV.v (Value.tuple #[]))))))) (toDk (dkA false false d))) && ((putE (0 : Int) sh (bytesL 0 (fun (x : Nat) => (AV.v (Value.tuple #[]))))) == (1 : Int))) = true →
 (Fun C P 14 [(dkA false false d), (AV.i id)] [] (dkA false false (dropD (toDk (dkA false false d)) id)) [] ∧
 (Fun C P 22 [(dkA false false (dropD (toDk (dkA false false d)) id)), (dkA false false d)] [] (AV.sb (sameD (toDk (dkA false false (dropD (toDk (dkA false false d)) id))) (toDk (dkA false false d)))) [] ∧
 (True ∧
 (((sameD (toDk (dkA false false (dropD (toDk (dkA false false d)) id))) (toDk (dkA false false d))) = true →
 (Fun C P 16 [(dkA false false d), (AV.arr 2 1 (layParts (fun (x : Nat) => (AV.i (0 : Int))) [(0, (AV.i (Max.max id (-1 : Int)))), (1, (AV.i (0 : Int)))])), (AV.v (Value.int IntKind.u8 (1 : Int)))] [] (AV.st [(dkA false false (rotD (toDk (dkA false false d)) (Max.max id (-1 : Int)) (0 : Int) 1)), (AV.i (rotE (toDk (dkA false false d)) (Max.max id (-1 : Int)) (0 : Int)))]) [] ∧
 (Fun C P 21 [(AV.st [(dkA false false (rotD (toDk (dkA false false d)) (Max.max id (-1 : Int)) (0 : Int) 1)), (AV.i (rotE (toDk (dkA false false d)) (Max.max id (-1 : Int)) (0 : Int)))]), (AV.st [(dkA false false d), (AV.i (220 : Int))])] [] (AV.sb ((sameD (toDk (dkA false false (rotD (toDk (dkA false false d)) (Max.max id (-1 : Int)) (0 : Int) 1))) (toDk (dkA false false d))) && ((rotE (toDk (dkA false false d)) (Max.max id (-1 : Int)) (0 : Int)) == (220 : Int)))) [] ∧
 (True ∧
 (∃ (S2 : St), Ent C 84 D K (St.mk [(2, (AV.v (Value.int IntKind.u8 ((k : Nat) : Int)))), (7, (AV.sb true)), (8, (AV.ptr 8 [])), (9, (AV.i id)), (10, (AV.i sh)), (11, (AV.ptr 11 [])), (12, (AV.sb ((sameD (toDk (dkA false false (rotD (toDk (dkA false false d)) (Max.max id (-1 : Int)) (0 : Int) 1))) (toDk (dkA false false d))) && ((rotE (toDk (dkA false false d)) (Max.max id (-1 : Int)) (0 : Int)) == (220 : Int)))))] [(8, (Blk.c (dkA false false d))), (11, (Blk.c (AV.st [(dkA false false d), (AV.i (1 : Int))])))] [8, 11]) S2 ∧ Holds C P 84 D K Φ (cutAt C w_lsf b_lsf [1, 1, 1, 1, 1, 1, 1, 0, 0] S2 (after C w_lsf b_lsf [1, 1, 1, 1, 1, 1, 1, 0, 0] [] lf))))))) ∧
 ((sameD (toDk (dkA false false (dropD (toDk (dkA false false d)) id))) (toDk (dkA false false d))) = false →
 (∃ (S2 : St), Ent C 84 D K (St.mk [(2, (AV.v (Value.int IntKind.u8 ((k : Nat) : Int)))), (7, (AV.sb true)), (8, (AV.ptr 8 [])), (9, (AV.i id)), (10, (AV.i sh)), (11, (AV.ptr 11 [])), (12, (AV.v (Value.bool false)))] [(8, (Blk.c (dkA false false d))), (11, (Blk.c (AV.st [(dkA false false d), (AV.i (1 : Int))])))] [8, 11]) S2 ∧ Holds C P 84 D K Φ (cutAt C w_lsf b_lsf [1, 1, 1, 1, 1, 1, 1, 0, 0] S2 (after C w_lsf b_lsf [1, 1, 1, 1, 1, 1, 1, 0, 0] [] lf))))))))) ∧
 (((sameD (toDk (dkA false false (putD (toDk (dkA false false d)) (0 : Int) sh (bytesL 0 (fun (x : Nat) => (AV.v (Value.tuple #[]))))))) (toDk (dkA false false d))) && ((putE (0 : Int) sh (bytesL 0 (fun (x : Nat) => (AV.v (Value.tuple #[]))))) == (1 : Int))) = false →
 (∃ (S2 : St), Ent C 84 D K (St.mk [(2, (AV.v (Value.int IntKind.u8 ((k : Nat) : Int)))), (7, (AV.sb true)), (8, (AV.ptr 8 [])), (9, (AV.i id)), (10, (AV.i sh)), (11, (AV.ptr 11 [])), (12, (AV.v (Value.bool false)))] [(8, (Blk.c (dkA false false d))), (11, (Blk.c (AV.st [(dkA false false d), (AV.i (1 : Int))])))] [8, 11]) S2 ∧ Holds C P 84 D K Φ (cutAt C w_lsf b_lsf [1, 1, 1, 1, 1, 1, 1, 0, 0] S2 (after C w_lsf b_lsf [1, 1, 1, 1, 1, 1, 1, 0, 0] [] lf))))))))) ∧
 (((sameD (toDk (dkA false false (putD (toDk (dkA false false d)) id (0 : Int) (bytesL 0 (fun (x : Nat) => (AV.v (Value.tuple #[]))))))) (toDk (dkA false false d))) && ((putE id (0 : Int) (bytesL 0 (fun (x : Nat) => (AV.v (Value.tuple #[]))))) == (1 : Int))) = false →
 (∃ (S2 : St), Ent C 84 D K (St.mk [(2, (AV.v (Value.int IntKind.u8 ((k : Nat) : Int)))), (7, (AV.sb true)), (8, (AV.ptr 8 [])), (9, (AV.i id)), (10, (AV.i sh)), (11, (AV.ptr 11 [])), (12, (AV.v (Value.bool false)))] [(8, (Blk.c (dkA false false d))), (11, (Blk.c (AV.st [(dkA false false d), (AV.i (1 : Int))])))] [8, 11]) S2 ∧ Holds C P 84 D K Φ (cutAt C w_lsf b_lsf [1, 1, 1, 1, 1, 1, 1, 0, 0] S2 (after C w_lsf b_lsf [1, 1, 1, 1, 1, 1, 1, 0, 0] [] lf)))))))) := by kernel_rfl
theorem lsf_C9 (d : Dk) (id sh : Int) (k : Nat) {D : Dom} (K : Nat) (Φ : Ex → St → Prop) :
 (Holds C P 84 D K Φ (cutAt C w_lsf b_lsf [1, 1, 1, 1, 1, 1, 1, 0, 0] (S_lsf9 d id sh k) (after C w_lsf b_lsf [1, 1, 1, 1, 1, 1, 1, 0, 0] [] lf))) =
 ((false = true →
 (Φ Ex.ret (St.mk [(2, (AV.v (Value.int IntKind.u8 ((k : Nat) : Int)))), (6, (AV.v (Value.bool false))), (7, (AV.sb true)), (8, (AV.ptr 8 [])), (9, (AV.i id)), (10, (AV.i sh)), (12, (AV.sb true)), (70, (AV.v (Value.bool true)))] [(8, (Blk.c (dkA false false d)))] [8]))) ∧
 (false = false →
 (Fun C P 23 [(dkA false false d), (AV.i id), (AV.i (0 : Int))] [] (AV.st [(AV.dat (List.length (gotB (cont (toDk (dkA false false d))) id (0 : Int))) false 1 (rowL (gotB (cont (toDk (dkA false false d))) id (0 : Int)))), (AV.i (gotE (cont (toDk (dkA false false d))) id (0 : Int)))]) [] ∧
 ((((gotE (cont (toDk (dkA false false d))) id (0 : Int)) != (220 : Int)) = true →
 (Φ Ex.ret (St.mk [(2, (AV.v (Value.int IntKind.u8 ((k : Nat) : Int)))), (6, (AV.v (Value.bool false))), (7, (AV.sb true)), (8, (AV.ptr 8 [])), (9, (AV.i id)), (10, (AV.i sh)), (12, (AV.sb true)), (70, (AV.v (Value.bool true)))] [(8, (Blk.c (dkA false false d)))] [8]))) ∧
 (((gotE (cont (toDk (dkA false false d))) id (0 : Int)) != (220 : Int)) = false →
 (Fun C P 23 [(dkA false false d), (AV.i (0 : Int)), (AV.i sh)] [] (AV.st [(AV.dat (List.length (gotB (cont (toDk (dkA false false d))) (0 : Int) sh)) false 1 (rowL (gotB (cont (toDk (dkA false false d))) (0 : Int) sh))), (AV.i (gotE (cont (toDk (dkA false false d))) (0 : Int) sh))]) [] ∧
 ((((gotE (cont (toDk (dkA false false d))) (0 : Int) sh) != (220 : Int)) = true →
 (Φ Ex.ret (St.mk [(2, (AV.v (Value.int IntKind.u8 ((k : Nat) : Int)))), (6, (AV.v (Value.bool false))), (7, (AV.sb true)), (8, (AV.ptr 8 [])), (9, (AV.i id)), (10, (AV.i sh)), (12, (AV.sb true)), (70, (AV.v (Value.bool true)))] [(8, (Blk.c (dkA false false d)))] [8]))) ∧
 (((gotE (cont (toDk (dkA false false d))) (0 : Int) sh) != (220 : Int)) = false →
 (∃ (S2 : St), Ent C 84 D K (St.mk [(2, (AV.v (Value.int IntKind.u8 ((k : Nat) : Int)))), (7, (AV.sb true)), (8, (AV.ptr 8 [])), (9, (AV.i id)), (10, (AV.i sh)), (12, (AV.sb true)), (70, (AV.v (Value.bool false)))] [(8, (Blk.c (dkA false false d)))] [8]) S2 ∧ Holds C P 84 D K Φ (cutAt C w_lsf b_lsf [1, 1, 1, 1, 1, 1, 1, 1, 0, 0] S2 (after C w_lsf b_lsf [1, 1, 1, 1, 1, 1, 1, 1, 0, 0] [] lf))))))))))) := by kernel_rfl
theorem lsf_C11 (d : Dk) (k : Nat) {D : Dom} (K : Nat) (Φ : Ex → St → Prop) :
 (Holds C P 84 D K Φ (cutAt C w_lsf b_lsf [1, 1, 1, 1, 1, 1, 1, 1, 0, 0] (S_lsf11 d k) (after C w_lsf b_lsf [1, 1, 1, 1, 1, 1, 1, 1, 0, 0] [] lf))) =
 (((32 : Int) ≠ (0 : Int)) ∧
 (((decide ((((k % 32) : Nat) : Int) > (0 : Int))) = true →
 (Φ Ex.ret (St.mk [(2, (AV.v (Value.int IntKind.u8 ((k : Nat) : Int)))), (6, (AV.sb true)), (7, (AV.sb true)), (8, (AV.ptr 8 [])), (73, (AV.v (Value.bool true)))] [(8, (Blk.c (dkA false false d)))] [8]))) ∧
 ((decide ((((k % 32) : Nat) : Int) > (0 : Int))) = false →
 ((((0 : Int) ≤ (1048577 : Int)) ∧ ((1048577 : Int) ≤ (1048577 : Int))) ∧
 ((((1048577 : Int) ≤ (281474976710656 : Int)) ∧ ((1048577 : Int) ≤ (9223372036854775807 : Int))) ∧
 (Fun C P 12 [(dkA false false d), (AV.i (1 : Int)), (AV.i (1 : Int)), (AV.dat 1048577 false 1 (fun (i : Nat) => (AV.v (Value.int IntKind.u8 (0 : Int)))))] [] (AV.st [(dkA false false d), (AV.i (2 : Int))]) [] ∧
 (Fun C P 21 [(AV.st [(dkA false false d), (AV.i (2 : Int))]), (AV.st [(dkA false false d), (AV.i (2 : Int))])] [] (AV.sb ((sameD (toDk (dkA false false d)) (toDk (dkA false false d))) && true)) [] ∧
 (True ∧
 ((((sameD (toDk (dkA false false d)) (toDk (dkA false false d))) && true) = true →
 (Φ Ex.ret (St.mk [(2, (AV.v (Value.int IntKind.u8 ((k : Nat) : Int)))), (6, (AV.sb true)), (7, (AV.sb true)), (8, (AV.ptr 8 [])), (73, (AV.v (Value.bool false)))] [(8, (Blk.c (dkA false false d)))] [76, 8]))) ∧
 (((sameD (toDk (dkA false false d)) (toDk (dkA false false d))) && true) = false →
 (Φ Ex.ret (St.mk [(2, (AV.v (Value.int IntKind.u8 ((k : Nat) : Int)))), (6, (AV.v (Value.bool false))), (7, (AV.sb true)), (8, (AV.ptr 8 [])), (73, (AV.v (Value.bool false)))] [(8, (Blk.c (dkA false false d)))] [76, 8])))))))))))) := by kernel_rfl
theorem b0_nil : bytesL 0 (fun (x : Nat) => (AV.v (Value.tuple (List.toArray [])))) = [] := rfl
theorem put_no {d : Dk} {i s : Int} (h : inRng i s = false) (b : List Nat) : putD d i s b = d ∧ putE i s b = 1 := by
  unfold putD putE
  rw [if_neg (by rw [h]; simp), if_neg (by rw [h]; simp)]
  exact ⟨rfl, rfl⟩
theorem drop_no {d : Dk} {i : Int} (h : inRng i 0 = false) : dropD d i = d := by
  unfold dropD
  rw [if_neg (by rw [h]; simp)]
theorem inRng_no {i s : Int} (h : ¬ (0 ≤ i ∧ i < 4096 ∧ 0 ≤ s ∧ s < 12)) : inRng i s = false := by
  rw [Bool.eq_false_iff]
  exact fun h2 => h (inRng_iff.1 h2)
theorem got_no {d : Dk} (hv : VD d) {i s : Int} (h : ¬ (0 ≤ i ∧ i < 4096 ∧ 0 ≤ s ∧ s < 12)) : gotE (cont d) i s = 220 := by
  have : getC (cont d) i s = none := getC_none.2 fun c hc hk => by
    have hc' : c ∈ (syncD d).l := hc
    obtain ⟨h1, h2, h3, h4, _⟩ := hv.sync.cs c hc'
    rw [hk.1] at h1 h2
    rw [hk.2] at h3 h4
    exact h ⟨h1, h2, h3, h4⟩
  unfold gotE
  rw [this]
theorem putn_fun (d : Dk) (hv : VD d) (i s : Int) (hn : d.l.length + d.q.length < 2 ^ 30) : Fun C P F_lput [dkA false false d, .i i, .i s, nilS] [] (.st [dkA false false (putD d i s []), .i (putE i s [])]) [] :=
  (lput_fun false false d i s false [] (fun x hx => by cases hx) (by decide) (by omega)).sim ⟨sm_same rfl, sm_int rfl, sm_int rfl, .inr ⟨rfl, by simp, .inl rfl, fun i hi => absurd hi (Nat.not_lt_zero i)⟩, trivial⟩ trivial
theorem big_fun (d : Dk) (hn : d.l.length + d.q.length < 2 ^ 30) : Fun C P F_lput [dkA false false d, .i 1, .i 1, (AV.dat 1048577 false 1 (fun (i : Nat) => (AV.v (Value.int IntKind.u8 (0 : Int)))))] [] (.st [dkA false false d, .i 2]) [] := by
  have hl : (List.replicate 1048577 0 : List Nat).length = 1048577 := List.length_replicate
  have h := lput_fun false false d 1 1 false (List.replicate 1048577 0) (fun x hx => by rw [(List.mem_replicate.1 hx).2]; decide) (by rw [hl]; decide) (by omega)
  have e1 : inRng 1 1 = true := rfl
  have e : putD d 1 1 (List.replicate 1048577 0) = d ∧ putE 1 1 (List.replicate 1048577 0) = 2 := by
    unfold putD putE
    rw [if_pos e1, if_pos e1, hl, if_pos (by decide), if_pos (by decide)]
    exact ⟨rfl, rfl⟩
  rw [e.1, e.2] at h
  refine h.sim ⟨sm_same rfl, sm_int rfl, sm_int rfl, sm_dat' hl.symm (by simp) fun i hi => ?_, trivial⟩ trivial
  show u8 0 = u8 ((List.replicate 1048577 0).getD i 0)
  have : (List.replicate 1048577 0 : List Nat).getD i 0 = 0 := by
    rw [List.getD_eq_getElem?_getD, List.getElem?_replicate]
    split <;> rfl
  rw [this]
set_option maxRecDepth 1000000 in
theorem lsf_fun (ex : Bool) (e1 e2 : Nat → Bool) (l : List Rw) (hx : ∀ x, x ∈ l → OkRw x) (n : Int) (k : Nat) (hk : k < 256) : Fun C P F_lsf [rwsA ex e1 e2 l, .i n, u8 k] [] (.sb true) [] := by
  refine in_lsf (W := w_lsf) rfl 0 (by simp) rfl (fun id h => absurd rfl h) fun D => ?_
  rw [lsf_A ex e1 e2 l n k 0 _, toRws_A]
  have hm := made_fun ex e1 e2 l 8 hx (by decide)
  have hsm : ∀ x, x ∈ l → Small x.b := fun x h => (hx x h).b
  have hv := VD.made hsm (min 8 l.length)
  have hlen := (Few.made hsm (min 8 l.length)).len
  have h8 : min 8 l.length ≤ 8 := Nat.min_le_left _ _
  obtain ⟨d, ed⟩ : ∃ d, d = madeN l (min 8 l.length) := ⟨_, rfl⟩
  rw [← ed] at hm hv hlen ⊢
  refine ⟨sanity_fun, trivial, hm, TD2, cut_ok (S2 := S_lsf4 d n k) (ent_of [(8, 8)] rfl (tm_cons rfl (sm_same rfl) (tm_cons rfl (sm_same rfl) (tm_cons rfl (sm_same rfl) (tm_cons rfl (sm_ptr rfl) (tm_cons rfl (sm_same rfl) (tm_cons rfl (sm_same rfl) tm_nil)))))) (hp_cons rfl rfl (sm_same rfl) hp_nil)) ?_⟩
  have tail : ∀ id sh : Int, (id < 0 ∨ 4096 ≤ id) → (sh < 0 ∨ 12 ≤ sh) → Holds C P 84 D 0 (FunPost C 84 0 [.tmp 6] (.sb true) []) (cutAt C w_lsf b_lsf [1, 1, 1, 1, 1, 0] (S_lsf7 d id sh k) (after C w_lsf b_lsf [1, 1, 1, 1, 1, 0] [] lf)) := fun id sh hid hsh => by
    have n1 : inRng id 0 = false := inRng_no (by omega)
    have n2 : inRng 0 sh = false := inRng_no (by omega)
    have nr : rotOK d (Max.max id (-1 : Int)) 0 = false := by
      unfold rotOK
      rcases hid with h | h
      · have : max id (-1 : Int) < 0 := by omega
        simp; omega
      · have : ¬ max id (-1 : Int) < (d.l.length : Int) := by omega
        simp; intro _ h2; exact absurd h2 this
    obtain ⟨r1, r2⟩ := rot_no nr 1
    have gs : ∀ x y : Int, x = y → Fun C P F_swrote [woA d x, woA d y] [] (.sb (sameD d d && (x == y))) [] := fun x y _ => swrote_fun false false false false d d x y hv.smD hv.smD (by omega)
    rw [lsf_C7 d id sh k 0 _]
    refine ⟨TW, cut_ok (S2 := S_lsf8 d id sh k) (ent_of [(8, 8), (11, 11)] rfl (tm_cons rfl (sm_same rfl) (tm_cons rfl (sm_same rfl) (tm_cons rfl (sm_ptr rfl) (tm_cons rfl (sm_same rfl) (tm_cons rfl (sm_same rfl) (tm_cons rfl (sm_ptr rfl) tm_nil)))))) (hp_cons rfl rfl (sm_same rfl) (hp_cons rfl rfl (sm_same rfl) hp_nil))) ?_⟩
    rw [lsf_C8 d id sh k 0 _, toDk_A, b0_nil, (put_no (d := d) n1 []).1, (put_no (d := d) n1 []).2, (put_no (d := d) n2 []).1, (put_no (d := d) n2 []).2, drop_no n1, r1, r2, toDk_A]
    have p1 := putn_fun d hv id 0 (by omega)
    have p2 := putn_fun d hv 0 sh (by omega)
    rw [(put_no (d := d) n1 []).1, (put_no (d := d) n1 []).2] at p1
    rw [(put_no (d := d) n2 []).1, (put_no (d := d) n2 []).2] at p2
    have dr := drop_fun false false d id (by omega)
    rw [drop_no n1] at dr
    have ro := lrot_fun false false d (fun j => if j = 0 then Max.max id (-1 : Int) else 0) 1 (by omega) fun c hc => by
      have := (hv.cs c hc).2.2.2.2.1
      omega
    have ro : Fun C P F_lrot [dkA false false d, .arr 2 1 (fun j => .i (if j = 0 then Max.max id (-1 : Int) else 0)), u8 1] [] (.st [dkA false false (rotD d (Max.max id (-1 : Int)) 0 1), .i (rotE d (Max.max id (-1 : Int)) 0)]) [] := ro
    rw [r1, r2] at ro
    have T : (sameD d d && ((1 : Int) == 1)) = true := by rw [sameD_refl]; rfl
    refine ⟨p1, gs 1 1 rfl, trivial, tt_then T ⟨p2, gs 1 1 rfl, trivial, tt_then T ⟨dr, rsame_fun false false false false d d hv.smD hv.smD (by omega), trivial, tt_then (sameD_refl d) ⟨ro.sim ⟨sm_same rfl, sm_arr fun j hj => (match j, hj with | 0, _ => rfl | 1, _ => rfl), sm_same rfl, trivial⟩ trivial, gs 220 220 rfl, trivial,
      cut_ok (S2 := S_lsf9 d id sh k) (ent_of [(8, 8)] rfl (tm_cons rfl (sm_same rfl) (tm_cons rfl (sm_same rfl) (tm_cons rfl (sm_ptr rfl) (tm_cons rfl (sm_same rfl) (tm_cons rfl (sm_same rfl) (tm_cons rfl (sm_sb (by rw [sameD_refl]; rfl)) tm_nil)))))) (hp_cons rfl rfl (sm_same rfl) hp_nil)) ?_⟩⟩⟩⟩
    rw [lsf_C9 d id sh k 0 _, toDk_A]
    refine ff_then rfl ⟨lget_fun false false d hv id 0 (by omega), bne_then (got_no hv (by omega)) ⟨lget_fun false false d hv 0 sh (by omega), bne_then (got_no hv (by omega)) (cut_ok (S2 := S_lsf11 d k) (ent_of [(8, 8)] rfl (tm_cons rfl (sm_same rfl) (tm_cons rfl (sm_same rfl) (tm_cons rfl (sm_ptr rfl) tm_nil))) (hp_cons rfl rfl (sm_same rfl) hp_nil)) ?_)⟩⟩
    rw [lsf_C11 d k 0 _, toDk_A]
    refine ⟨by decide, fun _ => post_tmp rfl (sm_same rfl), fun _ => ⟨by decide, by decide, big_fun d (by omega), ?_, trivial, ?_⟩⟩
    · exact fun_cast (gs 2 2 rfl) (by rfl)
    · exact tt_then (by rw [sameD_refl]; rfl) (post_tmp rfl (sm_same rfl))
  rw [lsf_C4 d n k 0 _]
  refine ⟨fun h => ?_, fun h => ?_⟩
  · simp only [ge_iff_le, decide_eq_true_eq] at h
    exact cut_ok (S2 := S_lsf7 d (Max.max n (4096 : Int)) (Max.max n (12 : Int)) k) (ent_of [(8, 8)] rfl (tm_cons rfl (sm_same rfl) (tm_cons rfl (sm_same rfl) (tm_cons rfl (sm_ptr rfl) (tm_cons rfl (sm_same rfl) (tm_cons rfl (sm_same rfl) tm_nil))))) (hp_cons rfl rfl (sm_same rfl) hp_nil)) (tail _ _ (by omega) (by omega))
  · simp only [ge_iff_le, decide_eq_false_iff_not] at h
    exact cut_ok (S2 := S_lsf7 d n n k) (ent_of [(8, 8)] rfl (tm_cons rfl (sm_same rfl) (tm_cons rfl (sm_same rfl) (tm_cons rfl (sm_ptr rfl) (tm_cons rfl (sm_same rfl) (tm_cons rfl (sm_same rfl) tm_nil))))) (hp_cons rfl rfl (sm_same rfl) hp_nil)) (tail _ _ (by omega) (by omega))
theorem lsf_law {x0 x1 x2 : AV} (h0 : Typed C.tt 6 22 x0) (h1 : Typed C.tt 6 3 x1) (h2 : Typed C.tt 6 5 x2) : Fun C P F_lsf [x0, x1, x2] [] (.sb true) [] := by
  obtain ⟨l, ex, e1, e2, _, hx, s⟩ := ty_raws h0
  obtain ⟨n, rfl, _⟩ := typed_i64 (n := 5) (by kernel_rfl) h1
  obtain ⟨k, rfl, hk⟩ := typed_u8 (n := 5) (by kernel_rfl) h2
  exact (lsf_fun ex e1 e2 l hx n k hk).sim ⟨s, sm_same rfl, sm_same rfl, trivial⟩ trivial
end Go.Bu.W



