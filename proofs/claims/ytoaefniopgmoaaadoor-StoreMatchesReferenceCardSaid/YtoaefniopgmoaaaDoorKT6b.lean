/- The reference's rot, at any of twelve places. -/
import Derived.Test.YtoaefniopgmoaaaDoorK22
namespace Go.Bu.W
open Sp
theorem rrot_C4c4 (d : Dk) (ey : Bool) (k y n : Nat) (x0 x1 x2 x3 : Cl) (x : Cl) (r : List AV) {D : Dom} (K : Nat) (Φ : Ex → St → Prop) :
 (Holds C P 66 D K Φ (cutAt C w_rrot b_rrot [1, 1, 1, 0] (S_rr4 d (jsA ey d.q) 4 k y (clA x0 :: clA x1 :: clA x2 :: clA x3 :: clA x :: r) n) (after C w_rrot b_rrot [1, 1, 1, 0] [] lf))) =
 ((((0 : Int) ≤ (4 : Int)) ∧ ((4 : Int) < ((n : Nat) : Int))) ∧
 ((((0 + (List.length (Cl.b x))) * 1) ≤ 140737488355328) ∧
 ((((0 : Int) ≤ (4 : Int)) ∧ ((4 : Int) < ((n : Nat) : Int))) ∧
 ((((0 : Int) ≤ (4 : Int)) ∧ ((4 : Int) < ((n : Nat) : Int))) ∧
 ((((0 : Int) ≤ ((k : Nat) : Int)) ∧ (((k : Nat) : Int) < (((0 + (List.length (Cl.b x))) : Nat) : Int))) ∧
 ((((0 : Int) ≤ ((k : Nat) : Int)) ∧ (((k : Nat) : Int) < (((0 + (List.length (Cl.b x))) : Nat) : Int))) ∧
 (((((true = true) ∧ (true = true)) ∧ (((true = true) ∧ (true = true)) ∧ True)) ∧ (((true = true) ∧ (true = true)) ∧ True)) ∧
 (Φ Ex.ret (St.mk [(1, (AV.i (4 : Int))), (2, (AV.i ((k : Nat) : Int))), (3, (AV.v (Value.int IntKind.u8 ((y : Nat) : Int)))), (4, (AV.ptr 4 [])), (8, (AV.ptr 8 [])), (9, (AV.sl 39 [] 0 n n false 35))] [(4, (Blk.c (AV.st [(AV.sl 39 [] 0 n n false 35), (jsA ey (Dk.q d))]))), (8, (Blk.c (AV.st [(AV.st [(AV.sl 39 [] 0 n n false 35), (jsA ey (Dk.q d))]), (AV.i (0 : Int))]))), (39, (Blk.c (AV.st ((clA x0) :: ((clA x1) :: ((clA x2) :: ((clA x3) :: ((AV.st [(AV.i (Cl.i x)), (AV.i (Cl.s x)), (AV.sl 48 [] 0 (0 + (List.length (Cl.b x))) (0 + (List.length (Cl.b x))) false 1), (hA (Cl.h x))]) :: r)))))))), (48, (Blk.c (AV.arr (0 + (List.length (Cl.b x))) 1 (fun (j : Nat) => (if (j = (0 + k)) then (AV.v (Value.int IntKind.u8 (bXor IntKind.u8 (((List.getD (Cl.b x) (0 + k) 0) : Nat) : Int) ((y : Nat) : Int)))) else (AV.v (Value.int IntKind.u8 (((List.getD (Cl.b x) j 0) : Nat) : Int))))))))] [48, 42, 4, 8, 39]))))))))) := by kernel_rfl
theorem rrot_C4c5 (d : Dk) (ey : Bool) (k y n : Nat) (x0 x1 x2 x3 x4 : Cl) (x : Cl) (r : List AV) {D : Dom} (K : Nat) (Φ : Ex → St → Prop) :
 (Holds C P 66 D K Φ (cutAt C w_rrot b_rrot [1, 1, 1, 0] (S_rr4 d (jsA ey d.q) 5 k y (clA x0 :: clA x1 :: clA x2 :: clA x3 :: clA x4 :: clA x :: r) n) (after C w_rrot b_rrot [1, 1, 1, 0] [] lf))) =
 ((((0 : Int) ≤ (5 : Int)) ∧ ((5 : Int) < ((n : Nat) : Int))) ∧
 ((((0 + (List.length (Cl.b x))) * 1) ≤ 140737488355328) ∧
 ((((0 : Int) ≤ (5 : Int)) ∧ ((5 : Int) < ((n : Nat) : Int))) ∧
 ((((0 : Int) ≤ (5 : Int)) ∧ ((5 : Int) < ((n : Nat) : Int))) ∧
 ((((0 : Int) ≤ ((k : Nat) : Int)) ∧ (((k : Nat) : Int) < (((0 + (List.length (Cl.b x))) : Nat) : Int))) ∧
 ((((0 : Int) ≤ ((k : Nat) : Int)) ∧ (((k : Nat) : Int) < (((0 + (List.length (Cl.b x))) : Nat) : Int))) ∧
 (((((true = true) ∧ (true = true)) ∧ (((true = true) ∧ (true = true)) ∧ True)) ∧ (((true = true) ∧ (true = true)) ∧ True)) ∧
 (Φ Ex.ret (St.mk [(1, (AV.i (5 : Int))), (2, (AV.i ((k : Nat) : Int))), (3, (AV.v (Value.int IntKind.u8 ((y : Nat) : Int)))), (4, (AV.ptr 4 [])), (8, (AV.ptr 8 [])), (9, (AV.sl 39 [] 0 n n false 35))] [(4, (Blk.c (AV.st [(AV.sl 39 [] 0 n n false 35), (jsA ey (Dk.q d))]))), (8, (Blk.c (AV.st [(AV.st [(AV.sl 39 [] 0 n n false 35), (jsA ey (Dk.q d))]), (AV.i (0 : Int))]))), (39, (Blk.c (AV.st ((clA x0) :: ((clA x1) :: ((clA x2) :: ((clA x3) :: ((clA x4) :: ((AV.st [(AV.i (Cl.i x)), (AV.i (Cl.s x)), (AV.sl 48 [] 0 (0 + (List.length (Cl.b x))) (0 + (List.length (Cl.b x))) false 1), (hA (Cl.h x))]) :: r))))))))), (48, (Blk.c (AV.arr (0 + (List.length (Cl.b x))) 1 (fun (j : Nat) => (if (j = (0 + k)) then (AV.v (Value.int IntKind.u8 (bXor IntKind.u8 (((List.getD (Cl.b x) (0 + k) 0) : Nat) : Int) ((y : Nat) : Int)))) else (AV.v (Value.int IntKind.u8 (((List.getD (Cl.b x) j 0) : Nat) : Int))))))))] [48, 42, 4, 8, 39]))))))))) := by kernel_rfl
theorem rrot_C4c6 (d : Dk) (ey : Bool) (k y n : Nat) (x0 x1 x2 x3 x4 x5 : Cl) (x : Cl) (r : List AV) {D : Dom} (K : Nat) (Φ : Ex → St → Prop) :
 (Holds C P 66 D K Φ (cutAt C w_rrot b_rrot [1, 1, 1, 0] (S_rr4 d (jsA ey d.q) 6 k y (clA x0 :: clA x1 :: clA x2 :: clA x3 :: clA x4 :: clA x5 :: clA x :: r) n) (after C w_rrot b_rrot [1, 1, 1, 0] [] lf))) =
 ((((0 : Int) ≤ (6 : Int)) ∧ ((6 : Int) < ((n : Nat) : Int))) ∧
 ((((0 + (List.length (Cl.b x))) * 1) ≤ 140737488355328) ∧
 ((((0 : Int) ≤ (6 : Int)) ∧ ((6 : Int) < ((n : Nat) : Int))) ∧
 ((((0 : Int) ≤ (6 : Int)) ∧ ((6 : Int) < ((n : Nat) : Int))) ∧
 ((((0 : Int) ≤ ((k : Nat) : Int)) ∧ (((k : Nat) : Int) < (((0 + (List.length (Cl.b x))) : Nat) : Int))) ∧
 ((((0 : Int) ≤ ((k : Nat) : Int)) ∧ (((k : Nat) : Int) < (((0 + (List.length (Cl.b x))) : Nat) : Int))) ∧
 (((((true = true) ∧ (true = true)) ∧ (((true = true) ∧ (true = true)) ∧ True)) ∧ (((true = true) ∧ (true = true)) ∧ True)) ∧
 (Φ Ex.ret (St.mk [(1, (AV.i (6 : Int))), (2, (AV.i ((k : Nat) : Int))), (3, (AV.v (Value.int IntKind.u8 ((y : Nat) : Int)))), (4, (AV.ptr 4 [])), (8, (AV.ptr 8 [])), (9, (AV.sl 39 [] 0 n n false 35))] [(4, (Blk.c (AV.st [(AV.sl 39 [] 0 n n false 35), (jsA ey (Dk.q d))]))), (8, (Blk.c (AV.st [(AV.st [(AV.sl 39 [] 0 n n false 35), (jsA ey (Dk.q d))]), (AV.i (0 : Int))]))), (39, (Blk.c (AV.st ((clA x0) :: ((clA x1) :: ((clA x2) :: ((clA x3) :: ((clA x4) :: ((clA x5) :: ((AV.st [(AV.i (Cl.i x)), (AV.i (Cl.s x)), (AV.sl 48 [] 0 (0 + (List.length (Cl.b x))) (0 + (List.length (Cl.b x))) false 1), (hA (Cl.h x))]) :: r)))))))))), (48, (Blk.c (AV.arr (0 + (List.length (Cl.b x))) 1 (fun (j : Nat) => (if (j = (0 + k)) then (AV.v (Value.int IntKind.u8 (bXor IntKind.u8 (((List.getD (Cl.b x) (0 + k) 0) : Nat) : Int) ((y : Nat) : Int)))) else (AV.v (Value.int IntKind.u8 (((List.getD (Cl.b x) j 0) : Nat) : Int))))))))] [48, 42, 4, 8, 39]))))))))) := by kernel_rfl
theorem rrot_C4c7 (d : Dk) (ey : Bool) (k y n : Nat) (x0 x1 x2 x3 x4 x5 x6 : Cl) (x : Cl) (r : List AV) {D : Dom} (K : Nat) (Φ : Ex → St → Prop) :
 (Holds C P 66 D K Φ (cutAt C w_rrot b_rrot [1, 1, 1, 0] (S_rr4 d (jsA ey d.q) 7 k y (clA x0 :: clA x1 :: clA x2 :: clA x3 :: clA x4 :: clA x5 :: clA x6 :: clA x :: r) n) (after C w_rrot b_rrot [1, 1, 1, 0] [] lf))) =
 ((((0 : Int) ≤ (7 : Int)) ∧ ((7 : Int) < ((n : Nat) : Int))) ∧
 ((((0 + (List.length (Cl.b x))) * 1) ≤ 140737488355328) ∧
 ((((0 : Int) ≤ (7 : Int)) ∧ ((7 : Int) < ((n : Nat) : Int))) ∧
 ((((0 : Int) ≤ (7 : Int)) ∧ ((7 : Int) < ((n : Nat) : Int))) ∧
 ((((0 : Int) ≤ ((k : Nat) : Int)) ∧ (((k : Nat) : Int) < (((0 + (List.length (Cl.b x))) : Nat) : Int))) ∧
 ((((0 : Int) ≤ ((k : Nat) : Int)) ∧ (((k : Nat) : Int) < (((0 + (List.length (Cl.b x))) : Nat) : Int))) ∧
 (((((true = true) ∧ (true = true)) ∧ (((true = true) ∧ (true = true)) ∧ True)) ∧ (((true = true) ∧ (true = true)) ∧ True)) ∧
 (Φ Ex.ret (St.mk [(1, (AV.i (7 : Int))), (2, (AV.i ((k : Nat) : Int))), (3, (AV.v (Value.int IntKind.u8 ((y : Nat) : Int)))), (4, (AV.ptr 4 [])), (8, (AV.ptr 8 [])), (9, (AV.sl 39 [] 0 n n false 35))] [(4, (Blk.c (AV.st [(AV.sl 39 [] 0 n n false 35), (jsA ey (Dk.q d))]))), (8, (Blk.c (AV.st [(AV.st [(AV.sl 39 [] 0 n n false 35), (jsA ey (Dk.q d))]), (AV.i (0 : Int))]))), (39, (Blk.c (AV.st ((clA x0) :: ((clA x1) :: ((clA x2) :: ((clA x3) :: ((clA x4) :: ((clA x5) :: ((clA x6) :: ((AV.st [(AV.i (Cl.i x)), (AV.i (Cl.s x)), (AV.sl 48 [] 0 (0 + (List.length (Cl.b x))) (0 + (List.length (Cl.b x))) false 1), (hA (Cl.h x))]) :: r))))))))))), (48, (Blk.c (AV.arr (0 + (List.length (Cl.b x))) 1 (fun (j : Nat) => (if (j = (0 + k)) then (AV.v (Value.int IntKind.u8 (bXor IntKind.u8 (((List.getD (Cl.b x) (0 + k) 0) : Nat) : Int) ((y : Nat) : Int)))) else (AV.v (Value.int IntKind.u8 (((List.getD (Cl.b x) j 0) : Nat) : Int))))))))] [48, 42, 4, 8, 39]))))))))) := by kernel_rfl
theorem rrot_C4c8 (d : Dk) (ey : Bool) (k y n : Nat) (x0 x1 x2 x3 x4 x5 x6 x7 : Cl) (x : Cl) (r : List AV) {D : Dom} (K : Nat) (Φ : Ex → St → Prop) :
 (Holds C P 66 D K Φ (cutAt C w_rrot b_rrot [1, 1, 1, 0] (S_rr4 d (jsA ey d.q) 8 k y (clA x0 :: clA x1 :: clA x2 :: clA x3 :: clA x4 :: clA x5 :: clA x6 :: clA x7 :: clA x :: r) n) (after C w_rrot b_rrot [1, 1, 1, 0] [] lf))) =
 ((((0 : Int) ≤ (8 : Int)) ∧ ((8 : Int) < ((n : Nat) : Int))) ∧
 ((((0 + (List.length (Cl.b x))) * 1) ≤ 140737488355328) ∧
 ((((0 : Int) ≤ (8 : Int)) ∧ ((8 : Int) < ((n : Nat) : Int))) ∧
 ((((0 : Int) ≤ (8 : Int)) ∧ ((8 : Int) < ((n : Nat) : Int))) ∧
 ((((0 : Int) ≤ ((k : Nat) : Int)) ∧ (((k : Nat) : Int) < (((0 + (List.length (Cl.b x))) : Nat) : Int))) ∧
 ((((0 : Int) ≤ ((k : Nat) : Int)) ∧ (((k : Nat) : Int) < (((0 + (List.length (Cl.b x))) : Nat) : Int))) ∧
 (((((true = true) ∧ (true = true)) ∧ (((true = true) ∧ (true = true)) ∧ True)) ∧ (((true = true) ∧ (true = true)) ∧ True)) ∧
 (Φ Ex.ret (St.mk [(1, (AV.i (8 : Int))), (2, (AV.i ((k : Nat) : Int))), (3, (AV.v (Value.int IntKind.u8 ((y : Nat) : Int)))), (4, (AV.ptr 4 [])), (8, (AV.ptr 8 [])), (9, (AV.sl 39 [] 0 n n false 35))] [(4, (Blk.c (AV.st [(AV.sl 39 [] 0 n n false 35), (jsA ey (Dk.q d))]))), (8, (Blk.c (AV.st [(AV.st [(AV.sl 39 [] 0 n n false 35), (jsA ey (Dk.q d))]), (AV.i (0 : Int))]))), (39, (Blk.c (AV.st ((clA x0) :: ((clA x1) :: ((clA x2) :: ((clA x3) :: ((clA x4) :: ((clA x5) :: ((clA x6) :: ((clA x7) :: ((AV.st [(AV.i (Cl.i x)), (AV.i (Cl.s x)), (AV.sl 48 [] 0 (0 + (List.length (Cl.b x))) (0 + (List.length (Cl.b x))) false 1), (hA (Cl.h x))]) :: r)))))))))))), (48, (Blk.c (AV.arr (0 + (List.length (Cl.b x))) 1 (fun (j : Nat) => (if (j = (0 + k)) then (AV.v (Value.int IntKind.u8 (bXor IntKind.u8 (((List.getD (Cl.b x) (0 + k) 0) : Nat) : Int) ((y : Nat) : Int)))) else (AV.v (Value.int IntKind.u8 (((List.getD (Cl.b x) j 0) : Nat) : Int))))))))] [48, 42, 4, 8, 39]))))))))) := by kernel_rfl
theorem rrot_C4c9 (d : Dk) (ey : Bool) (k y n : Nat) (x0 x1 x2 x3 x4 x5 x6 x7 x8 : Cl) (x : Cl) (r : List AV) {D : Dom} (K : Nat) (Φ : Ex → St → Prop) :
 (Holds C P 66 D K Φ (cutAt C w_rrot b_rrot [1, 1, 1, 0] (S_rr4 d (jsA ey d.q) 9 k y (clA x0 :: clA x1 :: clA x2 :: clA x3 :: clA x4 :: clA x5 :: clA x6 :: clA x7 :: clA x8 :: clA x :: r) n) (after C w_rrot b_rrot [1, 1, 1, 0] [] lf))) =
 ((((0 : Int) ≤ (9 : Int)) ∧ ((9 : Int) < ((n : Nat) : Int))) ∧
 ((((0 + (List.length (Cl.b x))) * 1) ≤ 140737488355328) ∧
 ((((0 : Int) ≤ (9 : Int)) ∧ ((9 : Int) < ((n : Nat) : Int))) ∧
 ((((0 : Int) ≤ (9 : Int)) ∧ ((9 : Int) < ((n : Nat) : Int))) ∧
 ((((0 : Int) ≤ ((k : Nat) : Int)) ∧ (((k : Nat) : Int) < (((0 + (List.length (Cl.b x))) : Nat) : Int))) ∧
 ((((0 : Int) ≤ ((k : Nat) : Int)) ∧ (((k : Nat) : Int) < (((0 + (List.length (Cl.b x))) : Nat) : Int))) ∧
 (((((true = true) ∧ (true = true)) ∧ (((true = true) ∧ (true = true)) ∧ True)) ∧ (((true = true) ∧ (true = true)) ∧ True)) ∧
 (Φ Ex.ret (St.mk [(1, (AV.i (9 : Int))), (2, (AV.i ((k : Nat) : Int))), (3, (AV.v (Value.int IntKind.u8 ((y : Nat) : Int)))), (4, (AV.ptr 4 [])), (8, (AV.ptr 8 [])), (9, (AV.sl 39 [] 0 n n false 35))] [(4, (Blk.c (AV.st [(AV.sl 39 [] 0 n n false 35), (jsA ey (Dk.q d))]))), (8, (Blk.c (AV.st [(AV.st [(AV.sl 39 [] 0 n n false 35), (jsA ey (Dk.q d))]), (AV.i (0 : Int))]))), (39, (Blk.c (AV.st ((clA x0) :: ((clA x1) :: ((clA x2) :: ((clA x3) :: ((clA x4) :: ((clA x5) :: ((clA x6) :: ((clA x7) :: ((clA x8) :: ((AV.st [(AV.i (Cl.i x)), (AV.i (Cl.s x)), (AV.sl 48 [] 0 (0 + (List.length (Cl.b x))) (0 + (List.length (Cl.b x))) false 1), (hA (Cl.h x))]) :: r))))))))))))), (48, (Blk.c (AV.arr (0 + (List.length (Cl.b x))) 1 (fun (j : Nat) => (if (j = (0 + k)) then (AV.v (Value.int IntKind.u8 (bXor IntKind.u8 (((List.getD (Cl.b x) (0 + k) 0) : Nat) : Int) ((y : Nat) : Int)))) else (AV.v (Value.int IntKind.u8 (((List.getD (Cl.b x) j 0) : Nat) : Int))))))))] [48, 42, 4, 8, 39]))))))))) := by kernel_rfl
theorem rrot_C4c10 (d : Dk) (ey : Bool) (k y n : Nat) (x0 x1 x2 x3 x4 x5 x6 x7 x8 x9 : Cl) (x : Cl) (r : List AV) {D : Dom} (K : Nat) (Φ : Ex → St → Prop) :
 (Holds C P 66 D K Φ (cutAt C w_rrot b_rrot [1, 1, 1, 0] (S_rr4 d (jsA ey d.q) 10 k y (clA x0 :: clA x1 :: clA x2 :: clA x3 :: clA x4 :: clA x5 :: clA x6 :: clA x7 :: clA x8 :: clA x9 :: clA x :: r) n) (after C w_rrot b_rrot [1, 1, 1, 0] [] lf))) =
 ((((0 : Int) ≤ (10 : Int)) ∧ ((10 : Int) < ((n : Nat) : Int))) ∧
 ((((0 + (List.length (Cl.b x))) * 1) ≤ 140737488355328) ∧
 ((((0 : Int) ≤ (10 : Int)) ∧ ((10 : Int) < ((n : Nat) : Int))) ∧
 ((((0 : Int) ≤ (10 : Int)) ∧ ((10 : Int) < ((n : Nat) : Int))) ∧
 ((((0 : Int) ≤ ((k : Nat) : Int)) ∧ (((k : Nat) : Int) < (((0 + (List.length (Cl.b x))) : Nat) : Int))) ∧
 ((((0 : Int) ≤ ((k : Nat) : Int)) ∧ (((k : Nat) : Int) < (((0 + (List.length (Cl.b x))) : Nat) : Int))) ∧
 (((((true = true) ∧ (true = true)) ∧ (((true = true) ∧ (true = true)) ∧ True)) ∧ (((true = true) ∧ (true = true)) ∧ True)) ∧
 (Φ Ex.ret (St.mk [(1, (AV.i (10 : Int))), (2, (AV.i ((k : Nat) : Int))), (3, (AV.v (Value.int IntKind.u8 ((y : Nat) : Int)))), (4, (AV.ptr 4 [])), (8, (AV.ptr 8 [])), (9, (AV.sl 39 [] 0 n n false 35))] [(4, (Blk.c (AV.st [(AV.sl 39 [] 0 n n false 35), (jsA ey (Dk.q d))]))), (8, (Blk.c (AV.st [(AV.st [(AV.sl 39 [] 0 n n false 35), (jsA ey (Dk.q d))]), (AV.i (0 : Int))]))), (39, (Blk.c (AV.st ((clA x0) :: ((clA x1) :: ((clA x2) :: ((clA x3) :: ((clA x4) :: ((clA x5) :: ((clA x6) :: ((clA x7) :: ((clA x8) :: ((clA x9) :: ((AV.st [(AV.i (Cl.i x)), (AV.i (Cl.s x)), (AV.sl 48 [] 0 (0 + (List.length (Cl.b x))) (0 + (List.length (Cl.b x))) false 1), (hA (Cl.h x))]) :: r)))))))))))))), (48, (Blk.c (AV.arr (0 + (List.length (Cl.b x))) 1 (fun (j : Nat) => (if (j = (0 + k)) then (AV.v (Value.int IntKind.u8 (bXor IntKind.u8 (((List.getD (Cl.b x) (0 + k) 0) : Nat) : Int) ((y : Nat) : Int)))) else (AV.v (Value.int IntKind.u8 (((List.getD (Cl.b x) j 0) : Nat) : Int))))))))] [48, 42, 4, 8, 39]))))))))) := by kernel_rfl
theorem rrot_C4c11 (d : Dk) (ey : Bool) (k y n : Nat) (x0 x1 x2 x3 x4 x5 x6 x7 x8 x9 x10 : Cl) (x : Cl) (r : List AV) {D : Dom} (K : Nat) (Φ : Ex → St → Prop) :
 (Holds C P 66 D K Φ (cutAt C w_rrot b_rrot [1, 1, 1, 0] (S_rr4 d (jsA ey d.q) 11 k y (clA x0 :: clA x1 :: clA x2 :: clA x3 :: clA x4 :: clA x5 :: clA x6 :: clA x7 :: clA x8 :: clA x9 :: clA x10 :: clA x :: r) n) (after C w_rrot b_rrot [1, 1, 1, 0] [] lf))) =
 ((((0 : Int) ≤ (11 : Int)) ∧ ((11 : Int) < ((n : Nat) : Int))) ∧
 ((((0 + (List.length (Cl.b x))) * 1) ≤ 140737488355328) ∧
 ((((0 : Int) ≤ (11 : Int)) ∧ ((11 : Int) < ((n : Nat) : Int))) ∧
 ((((0 : Int) ≤ (11 : Int)) ∧ ((11 : Int) < ((n : Nat) : Int))) ∧
 ((((0 : Int) ≤ ((k : Nat) : Int)) ∧ (((k : Nat) : Int) < (((0 + (List.length (Cl.b x))) : Nat) : Int))) ∧
 ((((0 : Int) ≤ ((k : Nat) : Int)) ∧ (((k : Nat) : Int) < (((0 + (List.length (Cl.b x))) : Nat) : Int))) ∧
 (((((true = true) ∧ (true = true)) ∧ (((true = true) ∧ (true = true)) ∧ True)) ∧ (((true = true) ∧ (true = true)) ∧ True)) ∧
 (Φ Ex.ret (St.mk [(1, (AV.i (11 : Int))), (2, (AV.i ((k : Nat) : Int))), (3, (AV.v (Value.int IntKind.u8 ((y : Nat) : Int)))), (4, (AV.ptr 4 [])), (8, (AV.ptr 8 [])), (9, (AV.sl 39 [] 0 n n false 35))] [(4, (Blk.c (AV.st [(AV.sl 39 [] 0 n n false 35), (jsA ey (Dk.q d))]))), (8, (Blk.c (AV.st [(AV.st [(AV.sl 39 [] 0 n n false 35), (jsA ey (Dk.q d))]), (AV.i (0 : Int))]))), (39, (Blk.c (AV.st ((clA x0) :: ((clA x1) :: ((clA x2) :: ((clA x3) :: ((clA x4) :: ((clA x5) :: ((clA x6) :: ((clA x7) :: ((clA x8) :: ((clA x9) :: ((clA x10) :: ((AV.st [(AV.i (Cl.i x)), (AV.i (Cl.s x)), (AV.sl 48 [] 0 (0 + (List.length (Cl.b x))) (0 + (List.length (Cl.b x))) false 1), (hA (Cl.h x))]) :: r))))))))))))))), (48, (Blk.c (AV.arr (0 + (List.length (Cl.b x))) 1 (fun (j : Nat) => (if (j = (0 + k)) then (AV.v (Value.int IntKind.u8 (bXor IntKind.u8 (((List.getD (Cl.b x) (0 + k) 0) : Nat) : Int) ((y : Nat) : Int)))) else (AV.v (Value.int IntKind.u8 (((List.getD (Cl.b x) j 0) : Nat) : Int))))))))] [48, 42, 4, 8, 39]))))))))) := by kernel_rfl
theorem rrot_k4 (d : Dk) (ey : Bool) (k y : Nat) (x0 x1 x2 x3 : Cl) (x : Cl) (r : List Cl) (hd : d.l = [x0, x1, x2, x3] ++ x :: r) (hk : k < x.b.length) (hb : x.b.length < 2 ^ 40) (hn : d.l.length ≤ 12) {D : Dom} :
  Holds C P 66 D 0 (FunPost C 66 0 [.cell 8 34] (.st [dkA false false ⟨[x0, x1, x2, x3] ++ setB x k y :: r, d.q⟩, .i 0]) []) (cutAt C w_rrot b_rrot [1, 1, 1, 0] (S_rr4 d (jsA ey d.q) 4 k y (d.l.map clA) d.l.length) (after C w_rrot b_rrot [1, 1, 1, 0] [] lf)) := by
 have hl : d.l.length = 4 + (r.length + 1) := by rw [hd]; simp; try omega
 have e : d.l.map clA = clA x0 :: clA x1 :: clA x2 :: clA x3 :: clA x :: r.map clA := by rw [hd]; rfl
 rw [e, rrot_C4c4 d ey k y d.l.length x0 x1 x2 x3 x (r.map clA) 0 _]
 refine ⟨(by first | omega | decide | (unfold I64; omega)), by omega, (by first | omega | decide | (unfold I64; omega)), (by first | omega | decide | (unfold I64; omega)), by omega, by omega, ⟨TD2, ⟨rfl, rfl⟩, trivial⟩, ?_⟩
 exact rr_end [x0, x1, x2, x3] r x k y d.q ey (by rw [hl]; simp; try omega) (by simp; omega) hk rfl rfl rfl rfl
theorem rrot_k5 (d : Dk) (ey : Bool) (k y : Nat) (x0 x1 x2 x3 x4 : Cl) (x : Cl) (r : List Cl) (hd : d.l = [x0, x1, x2, x3, x4] ++ x :: r) (hk : k < x.b.length) (hb : x.b.length < 2 ^ 40) (hn : d.l.length ≤ 12) {D : Dom} :
  Holds C P 66 D 0 (FunPost C 66 0 [.cell 8 34] (.st [dkA false false ⟨[x0, x1, x2, x3, x4] ++ setB x k y :: r, d.q⟩, .i 0]) []) (cutAt C w_rrot b_rrot [1, 1, 1, 0] (S_rr4 d (jsA ey d.q) 5 k y (d.l.map clA) d.l.length) (after C w_rrot b_rrot [1, 1, 1, 0] [] lf)) := by
 have hl : d.l.length = 5 + (r.length + 1) := by rw [hd]; simp; try omega
 have e : d.l.map clA = clA x0 :: clA x1 :: clA x2 :: clA x3 :: clA x4 :: clA x :: r.map clA := by rw [hd]; rfl
 rw [e, rrot_C4c5 d ey k y d.l.length x0 x1 x2 x3 x4 x (r.map clA) 0 _]
 refine ⟨(by first | omega | decide | (unfold I64; omega)), by omega, (by first | omega | decide | (unfold I64; omega)), (by first | omega | decide | (unfold I64; omega)), by omega, by omega, ⟨TD2, ⟨rfl, rfl⟩, trivial⟩, ?_⟩
 exact rr_end [x0, x1, x2, x3, x4] r x k y d.q ey (by rw [hl]; simp; try omega) (by simp; omega) hk rfl rfl rfl rfl
theorem rrot_k6 (d : Dk) (ey : Bool) (k y : Nat) (x0 x1 x2 x3 x4 x5 : Cl) (x : Cl) (r : List Cl) (hd : d.l = [x0, x1, x2, x3, x4, x5] ++ x :: r) (hk : k < x.b.length) (hb : x.b.length < 2 ^ 40) (hn : d.l.length ≤ 12) {D : Dom} :
  Holds C P 66 D 0 (FunPost C 66 0 [.cell 8 34] (.st [dkA false false ⟨[x0, x1, x2, x3, x4, x5] ++ setB x k y :: r, d.q⟩, .i 0]) []) (cutAt C w_rrot b_rrot [1, 1, 1, 0] (S_rr4 d (jsA ey d.q) 6 k y (d.l.map clA) d.l.length) (after C w_rrot b_rrot [1, 1, 1, 0] [] lf)) := by
 have hl : d.l.length = 6 + (r.length + 1) := by rw [hd]; simp; try omega
 have e : d.l.map clA = clA x0 :: clA x1 :: clA x2 :: clA x3 :: clA x4 :: clA x5 :: clA x :: r.map clA := by rw [hd]; rfl
 rw [e, rrot_C4c6 d ey k y d.l.length x0 x1 x2 x3 x4 x5 x (r.map clA) 0 _]
 refine ⟨(by first | omega | decide | (unfold I64; omega)), by omega, (by first | omega | decide | (unfold I64; omega)), (by first | omega | decide | (unfold I64; omega)), by omega, by omega, ⟨TD2, ⟨rfl, rfl⟩, trivial⟩, ?_⟩
 exact rr_end [x0, x1, x2, x3, x4, x5] r x k y d.q ey (by rw [hl]; simp; try omega) (by simp; omega) hk rfl rfl rfl rfl
theorem rrot_k7 (d : Dk) (ey : Bool) (k y : Nat) (x0 x1 x2 x3 x4 x5 x6 : Cl) (x : Cl) (r : List Cl) (hd : d.l = [x0, x1, x2, x3, x4, x5, x6] ++ x :: r) (hk : k < x.b.length) (hb : x.b.length < 2 ^ 40) (hn : d.l.length ≤ 12) {D : Dom} :
  Holds C P 66 D 0 (FunPost C 66 0 [.cell 8 34] (.st [dkA false false ⟨[x0, x1, x2, x3, x4, x5, x6] ++ setB x k y :: r, d.q⟩, .i 0]) []) (cutAt C w_rrot b_rrot [1, 1, 1, 0] (S_rr4 d (jsA ey d.q) 7 k y (d.l.map clA) d.l.length) (after C w_rrot b_rrot [1, 1, 1, 0] [] lf)) := by
 have hl : d.l.length = 7 + (r.length + 1) := by rw [hd]; simp; try omega
 have e : d.l.map clA = clA x0 :: clA x1 :: clA x2 :: clA x3 :: clA x4 :: clA x5 :: clA x6 :: clA x :: r.map clA := by rw [hd]; rfl
 rw [e, rrot_C4c7 d ey k y d.l.length x0 x1 x2 x3 x4 x5 x6 x (r.map clA) 0 _]
 refine ⟨(by first | omega | decide | (unfold I64; omega)), by omega, (by first | omega | decide | (unfold I64; omega)), (by first | omega | decide | (unfold I64; omega)), by omega, by omega, ⟨TD2, ⟨rfl, rfl⟩, trivial⟩, ?_⟩
 exact rr_end [x0, x1, x2, x3, x4, x5, x6] r x k y d.q ey (by rw [hl]; simp; try omega) (by simp; omega) hk rfl rfl rfl rfl
theorem rrot_k8 (d : Dk) (ey : Bool) (k y : Nat) (x0 x1 x2 x3 x4 x5 x6 x7 : Cl) (x : Cl) (r : List Cl) (hd : d.l = [x0, x1, x2, x3, x4, x5, x6, x7] ++ x :: r) (hk : k < x.b.length) (hb : x.b.length < 2 ^ 40) (hn : d.l.length ≤ 12) {D : Dom} :
  Holds C P 66 D 0 (FunPost C 66 0 [.cell 8 34] (.st [dkA false false ⟨[x0, x1, x2, x3, x4, x5, x6, x7] ++ setB x k y :: r, d.q⟩, .i 0]) []) (cutAt C w_rrot b_rrot [1, 1, 1, 0] (S_rr4 d (jsA ey d.q) 8 k y (d.l.map clA) d.l.length) (after C w_rrot b_rrot [1, 1, 1, 0] [] lf)) := by
 have hl : d.l.length = 8 + (r.length + 1) := by rw [hd]; simp; try omega
 have e : d.l.map clA = clA x0 :: clA x1 :: clA x2 :: clA x3 :: clA x4 :: clA x5 :: clA x6 :: clA x7 :: clA x :: r.map clA := by rw [hd]; rfl
 rw [e, rrot_C4c8 d ey k y d.l.length x0 x1 x2 x3 x4 x5 x6 x7 x (r.map clA) 0 _]
 refine ⟨(by first | omega | decide | (unfold I64; omega)), by omega, (by first | omega | decide | (unfold I64; omega)), (by first | omega | decide | (unfold I64; omega)), by omega, by omega, ⟨TD2, ⟨rfl, rfl⟩, trivial⟩, ?_⟩
 exact rr_end [x0, x1, x2, x3, x4, x5, x6, x7] r x k y d.q ey (by rw [hl]; simp; try omega) (by simp; omega) hk rfl rfl rfl rfl
theorem rrot_k9 (d : Dk) (ey : Bool) (k y : Nat) (x0 x1 x2 x3 x4 x5 x6 x7 x8 : Cl) (x : Cl) (r : List Cl) (hd : d.l = [x0, x1, x2, x3, x4, x5, x6, x7, x8] ++ x :: r) (hk : k < x.b.length) (hb : x.b.length < 2 ^ 40) (hn : d.l.length ≤ 12) {D : Dom} :
  Holds C P 66 D 0 (FunPost C 66 0 [.cell 8 34] (.st [dkA false false ⟨[x0, x1, x2, x3, x4, x5, x6, x7, x8] ++ setB x k y :: r, d.q⟩, .i 0]) []) (cutAt C w_rrot b_rrot [1, 1, 1, 0] (S_rr4 d (jsA ey d.q) 9 k y (d.l.map clA) d.l.length) (after C w_rrot b_rrot [1, 1, 1, 0] [] lf)) := by
 have hl : d.l.length = 9 + (r.length + 1) := by rw [hd]; simp; try omega
 have e : d.l.map clA = clA x0 :: clA x1 :: clA x2 :: clA x3 :: clA x4 :: clA x5 :: clA x6 :: clA x7 :: clA x8 :: clA x :: r.map clA := by rw [hd]; rfl
 rw [e, rrot_C4c9 d ey k y d.l.length x0 x1 x2 x3 x4 x5 x6 x7 x8 x (r.map clA) 0 _]
 refine ⟨(by first | omega | decide | (unfold I64; omega)), by omega, (by first | omega | decide | (unfold I64; omega)), (by first | omega | decide | (unfold I64; omega)), by omega, by omega, ⟨TD2, ⟨rfl, rfl⟩, trivial⟩, ?_⟩
 exact rr_end [x0, x1, x2, x3, x4, x5, x6, x7, x8] r x k y d.q ey (by rw [hl]; simp; try omega) (by simp; omega) hk rfl rfl rfl rfl
theorem rrot_k10 (d : Dk) (ey : Bool) (k y : Nat) (x0 x1 x2 x3 x4 x5 x6 x7 x8 x9 : Cl) (x : Cl) (r : List Cl) (hd : d.l = [x0, x1, x2, x3, x4, x5, x6, x7, x8, x9] ++ x :: r) (hk : k < x.b.length) (hb : x.b.length < 2 ^ 40) (hn : d.l.length ≤ 12) {D : Dom} :
  Holds C P 66 D 0 (FunPost C 66 0 [.cell 8 34] (.st [dkA false false ⟨[x0, x1, x2, x3, x4, x5, x6, x7, x8, x9] ++ setB x k y :: r, d.q⟩, .i 0]) []) (cutAt C w_rrot b_rrot [1, 1, 1, 0] (S_rr4 d (jsA ey d.q) 10 k y (d.l.map clA) d.l.length) (after C w_rrot b_rrot [1, 1, 1, 0] [] lf)) := by
 have hl : d.l.length = 10 + (r.length + 1) := by rw [hd]; simp; try omega
 have e : d.l.map clA = clA x0 :: clA x1 :: clA x2 :: clA x3 :: clA x4 :: clA x5 :: clA x6 :: clA x7 :: clA x8 :: clA x9 :: clA x :: r.map clA := by rw [hd]; rfl
 rw [e, rrot_C4c10 d ey k y d.l.length x0 x1 x2 x3 x4 x5 x6 x7 x8 x9 x (r.map clA) 0 _]
 refine ⟨(by first | omega | decide | (unfold I64; omega)), by omega, (by first | omega | decide | (unfold I64; omega)), (by first | omega | decide | (unfold I64; omega)), by omega, by omega, ⟨TD2, ⟨rfl, rfl⟩, trivial⟩, ?_⟩
 exact rr_end [x0, x1, x2, x3, x4, x5, x6, x7, x8, x9] r x k y d.q ey (by rw [hl]; simp; try omega) (by simp; omega) hk rfl rfl rfl rfl
theorem rrot_k11 (d : Dk) (ey : Bool) (k y : Nat) (x0 x1 x2 x3 x4 x5 x6 x7 x8 x9 x10 : Cl) (x : Cl) (r : List Cl) (hd : d.l = [x0, x1, x2, x3, x4, x5, x6, x7, x8, x9, x10] ++ x :: r) (hk : k < x.b.length) (hb : x.b.length < 2 ^ 40) (hn : d.l.length ≤ 12) {D : Dom} :
  Holds C P 66 D 0 (FunPost C 66 0 [.cell 8 34] (.st [dkA false false ⟨[x0, x1, x2, x3, x4, x5, x6, x7, x8, x9, x10] ++ setB x k y :: r, d.q⟩, .i 0]) []) (cutAt C w_rrot b_rrot [1, 1, 1, 0] (S_rr4 d (jsA ey d.q) 11 k y (d.l.map clA) d.l.length) (after C w_rrot b_rrot [1, 1, 1, 0] [] lf)) := by
 have hl : d.l.length = 11 + (r.length + 1) := by rw [hd]; simp; try omega
 have e : d.l.map clA = clA x0 :: clA x1 :: clA x2 :: clA x3 :: clA x4 :: clA x5 :: clA x6 :: clA x7 :: clA x8 :: clA x9 :: clA x10 :: clA x :: r.map clA := by rw [hd]; rfl
 rw [e, rrot_C4c11 d ey k y d.l.length x0 x1 x2 x3 x4 x5 x6 x7 x8 x9 x10 x (r.map clA) 0 _]
 refine ⟨(by first | omega | decide | (unfold I64; omega)), by omega, (by first | omega | decide | (unfold I64; omega)), (by first | omega | decide | (unfold I64; omega)), by omega, by omega, ⟨TD2, ⟨rfl, rfl⟩, trivial⟩, ?_⟩
 exact rr_end [x0, x1, x2, x3, x4, x5, x6, x7, x8, x9, x10] r x k y d.q ey (by rw [hl]; simp; try omega) (by simp; omega) hk rfl rfl rfl rfl
theorem rrotG_fun (ex ey : Bool) (d : Dk) (c k : Int) (y : Nat) (hn : d.l.length ≤ 12) (hb : ∀ e, e ∈ d.l → e.b.length < 2 ^ 40) : Fun C P F_rrot [dkA ex ey d, .i c, .i k, u8 y] [] (.st [dkA false false (rotD d c k y), .i (rotE d c k)]) [] := by
 refine in_rrot (W := w_rrot) rfl 0 (by simp) rfl (fun id h => absurd rfl h) fun D => ?_
 rw [rrot_A ex ey d c k y 0 _]
 have no : rotOK d c k = false → ∀ {S : St}, look S.tm 8 = some (.ptr 8 []) → look S.hp 8 = some (.c (.st [dkA ex ey d, .i 220])) → FunPost C 66 0 [.cell 8 34] (.st [dkA false false (rotD d c k y), .i (rotE d c k)]) [] .ret S := fun h S g1 g2 => by
  rw [(rot_no h y).1, (rot_no h y).2]
  exact post_cell g1 g2 (sm_st (sms_cons (sm_dk ex ey d) (sms_cons (sm_int rfl) sms_nil))) rfl
 have TW : ((((true = true) ∧ (true = true)) ∧ (((true = true) ∧ (true = true)) ∧ True)) ∧ (((true = true) ∧ (true = true)) ∧ True)) := ⟨TD2, ⟨rfl, rfl⟩, trivial⟩
 refine ⟨fun h1 => ⟨TW, no ?_ rfl rfl⟩, fun h1 => ⟨fun h2 => ⟨TW, no ?_ rfl rfl⟩, fun h2 => ⟨fun h3 => ⟨TW, no ?_ rfl rfl⟩, fun h3 => ?_⟩⟩⟩
 ·simp only [decide_eq_true_eq] at h1
  unfold rotOK; simp; omega
 ·simp only [ge_iff_le, decide_eq_true_eq] at h2
  unfold rotOK; simp; omega
 ·simp only [decide_eq_true_eq] at h3
  unfold rotOK; simp; omega
 simp only [ge_iff_le, decide_eq_false_iff_not] at h1 h2 h3
 refine ⟨(by first | omega | decide | (unfold I64; omega)), fun h4 => ⟨TW, no ?_ rfl rfl⟩, fun h4 => ?_⟩
 ·simp only [ge_iff_le, decide_eq_true_eq] at h4
  unfold rotOK; simp; intro _ _ _
  exact h4
 simp only [ge_iff_le, decide_eq_false_iff_not] at h4
 obtain ⟨cn, rfl⟩ := Int.eq_ofNat_of_zero_le (show 0 ≤ c by omega)
 obtain ⟨kn, rfl⟩ := Int.eq_ofNat_of_zero_le (show 0 ≤ k by omega)
 rw [Int.toNat_natCast] at h4
 have hok : rotOK d (cn : Int) (kn : Int) = true := by
  unfold rotOK; simp
  exact ⟨by omega, by have h4 : ¬ (((clAt d.l cn).b.length : Nat) : Int) ≤ (kn : Int) := h4; show kn < (clAt d.l cn).b.length; omega⟩
 have hc : cn < d.l.length := by omega
 have hk : kn < (clAt d.l cn).b.length := by omega
 have hm : clAt d.l cn ∈ d.l := by rw [clAt_lt hc]; exact List.getElem_mem hc
 have hbl := hb _ hm
 have eD : rotD d (cn : Int) (kn : Int) y = ⟨d.l.set cn (setB (clAt d.l cn) kn y), d.q⟩ := by unfold rotD; rw [if_pos hok]; rfl
 have eE : rotE d (cn : Int) (kn : Int) = 0 := by unfold rotE; rw [if_pos hok]
 rw [eD, eE]
 refine ⟨(by first | omega | decide | (unfold I64; omega)), cut_ok (S2 := S_rr4 d (jsA ey d.q) cn kn y (d.l.map clA) d.l.length) (Ent.trans (ent_of (S' := S_rr4r d (jsA ey d.q) cn kn y) [(4, 4), (8, 8), (39, 39)] rfl (tm_cons rfl (sm_same rfl) (tm_cons rfl (sm_same rfl) (tm_cons rfl (sm_same rfl) (tm_cons rfl (sm_ptr rfl) (tm_cons rfl (sm_ptr rfl) (tm_cons rfl (sm_sl rfl (Nat.zero_add _) (by omega) (by omega) (by simp)) tm_nil)))))) (hp_cons rfl rfl (sm_st (sms_cons (sm_dat (by simp) fun _ _ => rfl) (sms_cons (sm_same rfl) sms_nil))) (hp_cons rfl rfl (sm_same rfl) (hp_cons rfl rfl (sm_arr' (Nat.zero_add _) (fun i hi => by simp [cat])) hp_nil))))
  (ent_st (id := 39) (n := d.l.length) (e := 35) (f := rowC d.l) (fs := d.l.map clA) rfl (by simp) (by omega) (by decide) (map_sizes _) (map_nth _) (map_noid _))) ?_⟩
 obtain ⟨pre, x, post, hp, hpl⟩ : ∃ pre x post, d.l = pre ++ x :: post ∧ pre.length = cn := ⟨d.l.take cn, clAt d.l cn, d.l.drop (cn + 1), by rw [clAt_lt hc, ← List.drop_eq_getElem_cons hc, List.take_append_drop], by rw [List.length_take]; omega⟩
 have hx : clAt d.l cn = x := by rw [hp, clAt_app, if_neg (by omega), hpl, Nat.sub_self]; rfl
 rw [hx] at hk hbl ⊢
 have hset : d.l.set cn (setB x kn y) = pre ++ setB x kn y :: post := by
  rw [hp, List.set_append_right _ _ (by omega), hpl, Nat.sub_self]; rfl
 rw [hset]
 have h12 : pre.length < 12 := by omega
 subst hpl
 match pre, h12 with
 | [], _ => exact rrot_k0 d ey kn y x post hp hk hbl hn
 | [x0], _ => exact rrot_k1 d ey kn y x0 x post hp hk hbl hn
 | [x0, x1], _ => exact rrot_k2 d ey kn y x0 x1 x post hp hk hbl hn
 | [x0, x1, x2], _ => exact rrot_k3 d ey kn y x0 x1 x2 x post hp hk hbl hn
 | [x0, x1, x2, x3], _ => exact rrot_k4 d ey kn y x0 x1 x2 x3 x post hp hk hbl hn
 | [x0, x1, x2, x3, x4], _ => exact rrot_k5 d ey kn y x0 x1 x2 x3 x4 x post hp hk hbl hn
 | [x0, x1, x2, x3, x4, x5], _ => exact rrot_k6 d ey kn y x0 x1 x2 x3 x4 x5 x post hp hk hbl hn
 | [x0, x1, x2, x3, x4, x5, x6], _ => exact rrot_k7 d ey kn y x0 x1 x2 x3 x4 x5 x6 x post hp hk hbl hn
 | [x0, x1, x2, x3, x4, x5, x6, x7], _ => exact rrot_k8 d ey kn y x0 x1 x2 x3 x4 x5 x6 x7 x post hp hk hbl hn
 | [x0, x1, x2, x3, x4, x5, x6, x7, x8], _ => exact rrot_k9 d ey kn y x0 x1 x2 x3 x4 x5 x6 x7 x8 x post hp hk hbl hn
 | [x0, x1, x2, x3, x4, x5, x6, x7, x8, x9], _ => exact rrot_k10 d ey kn y x0 x1 x2 x3 x4 x5 x6 x7 x8 x9 x post hp hk hbl hn
 | [x0, x1, x2, x3, x4, x5, x6, x7, x8, x9, x10], _ => exact rrot_k11 d ey kn y x0 x1 x2 x3 x4 x5 x6 x7 x8 x9 x10 x post hp hk hbl hn
 | _ :: _ :: _ :: _ :: _ :: _ :: _ :: _ :: _ :: _ :: _ :: _ :: _, h => simp at h; omega
end Go.Bu.W

