/- The reference's hash. -/
import Derived.Test.YtfioagkihgaimaaDoorK13
import Derived.Test.YtfioagkihgaimaaDoorK11
namespace Go.Bu.W
open Sp
def w_rsum : Way := wayS [0, 2, 3, 4, 5, 6, 7, 8, 9, 10, 11, 12, 22, 39, 43, 47, 79, 89] 105 [5,24]
def tail0 (l : List Nat) (i : Nat) : Nat := if i < l.length then l.getD i 0 else if i = l.length then 6 else 0
def padLen (l : List Nat) : Nat := 136 * (l.length / 136 + 1)
def padN (l : List Nat) (i : Nat) : Nat := tail0 l i + (if i = 136 * (l.length / 136) + 135 then 128 else 0)
def stR (l : List Nat) : Nat → Nat → Nat
  | 0 => fun _ => 0
  | m + 1 => mixN (stR l m) (fun i => padN l (136 * m + i)) 136
def absR (a b : Nat → Nat) (from' i p : Nat) : Nat := if p < i then a p ^^^ wN b (from' + 8 * p) 8 else a p
def I_rs0 (l : List Nat) (n : Nat) : St := { tm := [(2, .ptr 2 []), (3, .sl 3 [] 0 n n false 1)], hp := [(2, .c (zb 32)), (3, .c (ab n (tail0 l)))], seen := [2, 3] }
def S_rs5 (l : List Nat) : St := I_rs0 l (padLen l)
def I_rs1 (l : List Nat) (m : Nat) : St := { tm := [(2, .ptr 2 []), (3, .sl 3 [] 0 (padLen l) (padLen l) false 1), (4, .ptr 4 []), (5, .ptr 5 []), (6, i64 (136 * m))], hp := [(2, .c (zb 32)), (3, .c (ab (padLen l) (padN l))), (4, .c (refArr (stR l m))), (5, .c wordsR)], seen := [2, 3, 4, 5] }
def I_rs2 (l : List Nat) (m i : Nat) : St := { tm := [(2, .ptr 2 []), (3, .sl 3 [] 0 (padLen l) (padLen l) false 1), (4, .ptr 4 []), (5, .ptr 5 []), (6, i64 (136 * m)), (7, i64 i)], hp := [(2, .c (zb 32)), (3, .c (ab (padLen l) (padN l))), (4, .c (refArr (absR (stR l m) (padN l) (136 * m) i))), (5, .c wordsR)], seen := [2, 3, 4, 5] }
def I_rs3 (l : List Nat) (m i n : Nat) : St := { tm := [(2, .ptr 2 []), (3, .sl 3 [] 0 (padLen l) (padLen l) false 1), (4, .ptr 4 []), (5, .ptr 5 []), (6, i64 (136 * m)), (7, i64 i), (8, u64 (wN (padN l) (136 * m + 8 * i) n)), (9, .i (7 - (n : Int)))], hp := [(2, .c (zb 32)), (3, .c (ab (padLen l) (padN l))), (4, .c (refArr (absR (stR l m) (padN l) (136 * m) i))), (5, .c wordsR)], seen := [2, 3, 4, 5] }
def I_rs4 (l : List Nat) (m : Nat) (a : Nat → Nat) (t : Nat) : St := { tm := [(2, .ptr 2 []), (3, .sl 3 [] 0 (padLen l) (padLen l) false 1), (4, .ptr 4 []), (5, .ptr 5 []), (6, i64 (136 * m)), (10, i64 t)], hp := [(2, .c (zb 32)), (3, .c (ab (padLen l) (padN l))), (4, .c (refArr (permN a t))), (5, .c wordsR)], seen := [2, 3, 4, 5] }
def outN (a : Nat → Nat) (i : Nat) : Nat := (a (i / 8) >>> (8 * (i % 8))) % 256
def S_rs24 (a : Nat → Nat) : St := { tm := [(2, .ptr 2 []), (4, .ptr 4 [])], hp := [(2, .c (zb 32)), (4, .c (refArr a))], seen := [2, 4] }
def I_rs5 (a : Nat → Nat) (i : Nat) : St := { tm := [(2, .ptr 2 []), (4, .ptr 4 []), (11, .ptr 11 []), (12, i64 i)], hp := [(2, .c (zb 32)), (4, .c (refArr a)), (11, .c (ab 32 (fun k => if k < i then outN a k else 0)))], seen := [2, 4, 11] }

theorem rsum_A (ex : Bool) (l : List Nat) (K : Nat) (Φ : Ex → St → Prop) :
  (Holds C P 105 [] K Φ (vc C w_rsum b_rsum [] (start [.dat l.length ex 1 (rowL l)] []) lf)) =
  (((0 : Nat) = (0 : Nat)) ∧
 ((((0 : Nat) = (0 : Nat)) ∨ ((0 : Nat) < (List.length l))) ∧
 (((((0 : Nat) + (List.length l)) * (1 : Nat)) ≤ (140737488355328 : Nat)) ∧
 ((((((0 : Nat) + (List.length l)) + (1 : Nat)) * (1 : Nat)) ≤ (140737488355328 : Nat)) ∧
 (LoopOK W.C W.P (105 : Nat) [] K (bodyAt b_rsum [1, 1, 1, 0, 0]) (St.mk [((0 : Nat), (AV.dat (List.length l) ex (1 : Nat) (rowL l))), ((2 : Nat), (AV.ptr (2 : Nat) [])), ((3 : Nat), (AV.sl (18 : Nat) [] (0 : Nat) (((0 : Nat) + (List.length l)) + (1 : Nat)) (((0 : Nat) + (List.length l)) + (1 : Nat)) false (1 : Nat)))] [((2 : Nat), (Blk.c (AV.arr (32 : Nat) (1 : Nat) (fun (x : Nat) => (AV.v (Value.int IntKind.u8 (0 : Int))))))), ((13 : Nat), (Blk.c (AV.st []))), ((17 : Nat), (Blk.c (AV.st [(AV.v (Value.int IntKind.u8 (6 : Int)))]))), ((18 : Nat), (Blk.c (AV.arr (((0 : Nat) + (List.length l)) + (1 : Nat)) (1 : Nat) (cat ((0 : Nat) + (List.length l)) (fun (i : Nat) => (AV.v (Value.int IntKind.u8 (((List.getD l ((0 : Nat) + i) (0 : Nat)) : Nat) : Int)))) (fun (i : Nat) => (nthD [(AV.v (Value.int IntKind.u8 (6 : Int)))] ((0 : Nat) + i) (AV.v (Value.tuple (List.toArray [])))))))))] [(18 : Nat), (17 : Nat), (15 : Nat), (13 : Nat), (2 : Nat)]) (fun (e : Ex) (S' : St) => Holds W.C W.P (105 : Nat) [] K Φ (after W.C w_rsum b_rsum [1, 1, 1, 0, 0] [] lf e S'))))))) := by kernel_rfl
noncomputable abbrev bd_rsum_0 : Code := bodyAt (b_rsum) [1, 1, 1, 0, 0]
theorem ok_rsum_0 : codeOK bd_rsum_0 = true := by kernel_rfl
noncomputable abbrev rest_rsum_0 (K : Nat) (Φ : Ex → St → Prop) : Ex → St → Prop := fun e S' => Holds C P 105 [] K Φ (after C w_rsum (b_rsum) [1, 1, 1, 0, 0] [] lf e S')
theorem rsum_L0 (l : List Nat) (n : Nat) (K : Nat) (Φ : Ex → St → Prop) :
  (Holds C P 105 [] K (RoundQ C 105 [] K (I_rs0 l) (fun n => l.length < n ∧ n ≤ padLen l) (fun n => padLen l - n) ((fun n => padLen l - n) (n)) (rest_rsum_0 K Φ)) (vc C w_rsum bd_rsum_0 [] ((I_rs0 l) (n)) lf)) =
  (((136 : Int) ≠ (0 : Int)) ∧
 ((((((n % 136) : Nat) : Int) != (0 : Int)) = true → 
 ((((n + (1 : Nat)) * (1 : Nat)) ≤ (140737488355328 : Nat)) ∧
  ((RoundQ C 105 [] K (I_rs0 l) (fun n => l.length < n ∧ n ≤ padLen l) (fun n => padLen l - n) ((fun n => padLen l - n) (n)) (rest_rsum_0 K Φ)) Ex.normal (St.mk [((2 : Nat), (AV.ptr (2 : Nat) [])), ((3 : Nat), (AV.sl (25 : Nat) [] (0 : Nat) (n + (1 : Nat)) (n + (1 : Nat)) false (1 : Nat))), ((22 : Nat), (AV.v (Value.bool true)))] [((2 : Nat), (Blk.c (AV.arr (32 : Nat) (1 : Nat) (fun (x : Nat) => (AV.v (Value.int IntKind.u8 (0 : Int))))))), ((24 : Nat), (Blk.c (AV.st [(AV.v (Value.int IntKind.u8 (0 : Int)))]))), ((25 : Nat), (Blk.c (AV.arr (n + (1 : Nat)) (1 : Nat) (cat n (fun (i : Nat) => (AV.v (Value.int IntKind.u8 (((W.tail0 l ((0 : Nat) + i)) : Nat) : Int)))) (fun (i : Nat) => (nthD [(AV.v (Value.int IntKind.u8 (0 : Int)))] ((0 : Nat) + i) (AV.v (Value.tuple (List.toArray [])))))))))] [(25 : Nat), (24 : Nat), (2 : Nat), (3 : Nat)])))) ∧
 (((((n % 136) : Nat) : Int) != (0 : Int)) = false → 
 (∃ (S2 : St), Ent W.C (105 : Nat) [] K (St.mk [((2 : Nat), (AV.ptr (2 : Nat) [])), ((3 : Nat), (AV.sl (3 : Nat) [] (0 : Nat) n n false (1 : Nat))), ((22 : Nat), (AV.v (Value.bool false)))] [((2 : Nat), (Blk.c (AV.arr (32 : Nat) (1 : Nat) (fun (x : Nat) => (AV.v (Value.int IntKind.u8 (0 : Int))))))), ((3 : Nat), (Blk.c (AV.arr n (1 : Nat) (fun (i : Nat) => (AV.v (Value.int IntKind.u8 (((W.tail0 l i) : Nat) : Int)))))))] [(2 : Nat), (3 : Nat)]) S2 ∧ Holds W.C W.P (105 : Nat) [] K Φ (cutAt W.C w_rsum b_rsum [1, 1, 1, 1, 0] S2 (after W.C w_rsum b_rsum [1, 1, 1, 1, 0] [] lf)))))) := by kernel_rfl
theorem rsum_C5 (l : List Nat) (K : Nat) (Φ : Ex → St → Prop) :
  (Holds C P 105 [] K Φ (cutAt C w_rsum b_rsum [1, 1, 1, 1, 0] (S_rs5 l) (after C w_rsum b_rsum [1, 1, 1, 1, 0] [] lf))) =
  ((I64 ((((W.padLen l) : Nat) : Int) - (1 : Int))) ∧
 ((((0 : Int) ≤ ((((W.padLen l) : Nat) : Int) - (1 : Int))) ∧ (((((W.padLen l) : Nat) : Int) - (1 : Int)) < (((W.padLen l) : Nat) : Int))) ∧
 ((((0 : Int) ≤ ((((W.padLen l) : Nat) : Int) - (1 : Int))) ∧ (((((W.padLen l) : Nat) : Int) - (1 : Int)) < (((W.padLen l) : Nat) : Int))) ∧
 ((((5 : Nat) = (5 : Nat)) ∧ (((5 : Nat) = (5 : Nat)) ∧ (∀ (i : Nat), ((i < (5 : Nat)) → (((5 : Nat) = (5 : Nat)) ∧ (((1 : Nat) = (1 : Nat)) ∧ (∀ (i1 : Nat), ((i1 < (5 : Nat)) → ((true = true) ∧ (true = true)))))))))) ∧
 (Fun W.C W.P (44 : Nat) [] [] (AV.arr (24 : Nat) (1 : Nat) (fun (i : Nat) => (AV.v (Value.int IntKind.u64 (((Sp.wordsN i) : Nat) : Int))))) [] ∧
 ((∀ (i : Nat), ((i < (24 : Nat)) → True)) ∧
 ((((24 : Nat) = (24 : Nat)) ∧ (((1 : Nat) = (1 : Nat)) ∧ (∀ (i : Nat), ((i < (24 : Nat)) → ((true = true) ∧ (Bool.true = true)))))) ∧
 (LoopOK W.C W.P (105 : Nat) [] K (bodyAt b_rsum [1, 1, 1, 1, 1, 1, 1, 0, 1, 0]) (St.mk [((2 : Nat), (AV.ptr (2 : Nat) [])), ((3 : Nat), (AV.sl (3 : Nat) [] (0 : Nat) (W.padLen l) (W.padLen l) false (1 : Nat))), ((4 : Nat), (AV.ptr (4 : Nat) [])), ((5 : Nat), (AV.ptr (5 : Nat) [])), ((6 : Nat), (AV.v (Value.int IntKind.i64 (0 : Int))))] [((2 : Nat), (Blk.c (AV.arr (32 : Nat) (1 : Nat) (fun (x : Nat) => (AV.v (Value.int IntKind.u8 (0 : Int))))))), ((3 : Nat), (Blk.c (AV.arr (W.padLen l) (1 : Nat) (fun (j : Nat) => (if (j = ((0 : Nat) + (Int.toNat ((((W.padLen l) : Nat) : Int) - (1 : Int))))) then (AV.v (Value.int IntKind.u8 (IntKind.wrap IntKind.u8 ((((W.tail0 l ((0 : Nat) + (Int.toNat ((((W.padLen l) : Nat) : Int) - (1 : Int))))) + 128) : Nat) : Int)))) else (AV.v (Value.int IntKind.u8 (((W.tail0 l j) : Nat) : Int)))))))), ((4 : Nat), (Blk.c (AV.arr (5 : Nat) (5 : Nat) (fun (x : Nat) => (AV.arr (5 : Nat) (1 : Nat) (fun (x1 : Nat) => (AV.v (Value.int IntKind.u64 (0 : Int))))))))), ((5 : Nat), (Blk.c (AV.arr (24 : Nat) (1 : Nat) (fun (i : Nat) => (AV.v (Value.int IntKind.u64 (((Sp.wordsN i) : Nat) : Int)))))))] [(5 : Nat), (4 : Nat), (2 : Nat), (3 : Nat)]) (fun (e : Ex) (S' : St) => Holds W.C W.P (105 : Nat) [] K Φ (after W.C w_rsum b_rsum [1, 1, 1, 1, 1, 1, 1, 0, 1, 0] [] lf e S')))))))))) := by kernel_rfl
noncomputable abbrev bd_rsum_1 : Code := bodyAt (b_rsum) [1, 1, 1, 1, 1, 1, 1, 0, 1, 0]
theorem ok_rsum_1 : codeOK bd_rsum_1 = true := by kernel_rfl
noncomputable abbrev rest_rsum_1 (K : Nat) (Φ : Ex → St → Prop) : Ex → St → Prop := fun e S' => Holds C P 105 [] K Φ (after C w_rsum (b_rsum) [1, 1, 1, 1, 1, 1, 1, 0, 1, 0] [] lf e S')
theorem rsum_L1 (l : List Nat) (m : Nat) (K : Nat) (Φ : Ex → St → Prop) :
  (Holds C P 105 [] K (RoundQ C 105 [] K (I_rs1 l) (fun m => m ≤ l.length / 136 + 1) (fun m => l.length / 136 + 1 - m) ((fun m => l.length / 136 + 1 - m) (m)) (rest_rsum_1 K Φ)) (vc C w_rsum bd_rsum_1 [] ((I_rs1 l) (m)) lf)) =
  (((decide (((((136 : Nat) * m) : Nat) : Int) < (((W.padLen l) : Nat) : Int))) = true → 
 (LoopOK W.C W.P (105 : Nat) [] K (bodyAt bd_rsum_1 [1, 0, 0, 0, 1, 0]) (St.mk [((2 : Nat), (AV.ptr (2 : Nat) [])), ((3 : Nat), (AV.sl (3 : Nat) [] (0 : Nat) (W.padLen l) (W.padLen l) false (1 : Nat))), ((4 : Nat), (AV.ptr (4 : Nat) [])), ((5 : Nat), (AV.ptr (5 : Nat) [])), ((6 : Nat), (AV.v (Value.int IntKind.i64 ((((136 : Nat) * m) : Nat) : Int)))), ((7 : Nat), (AV.v (Value.int IntKind.i64 (0 : Int)))), ((39 : Nat), (AV.v (Value.bool true)))] [((2 : Nat), (Blk.c (AV.arr (32 : Nat) (1 : Nat) (fun (x : Nat) => (AV.v (Value.int IntKind.u8 (0 : Int))))))), ((3 : Nat), (Blk.c (AV.arr (W.padLen l) (1 : Nat) (fun (i : Nat) => (AV.v (Value.int IntKind.u8 (((W.padN l i) : Nat) : Int))))))), ((4 : Nat), (Blk.c (AV.arr (5 : Nat) (5 : Nat) (fun (x : Nat) => (AV.arr (5 : Nat) (1 : Nat) (fun (y : Nat) => (AV.v (Value.int IntKind.u64 (((W.stR l m (x + ((5 : Nat) * y))) : Nat) : Int))))))))), ((5 : Nat), (Blk.c (AV.arr (24 : Nat) (1 : Nat) (fun (i : Nat) => (AV.v (Value.int IntKind.u64 (((Sp.wordsN i) : Nat) : Int)))))))] [(2 : Nat), (3 : Nat), (4 : Nat), (5 : Nat)]) (fun (e : Ex) (S' : St) => Holds W.C W.P (105 : Nat) [] K (RoundQ C 105 [] K (I_rs1 l) (fun m => m ≤ l.length / 136 + 1) (fun m => l.length / 136 + 1 - m) ((fun m => l.length / 136 + 1 - m) (m)) (rest_rsum_1 K Φ)) (after W.C w_rsum bd_rsum_1 [1, 0, 0, 0, 1, 0] [] lf e S')))) ∧
 ((decide (((((136 : Nat) * m) : Nat) : Int) < (((W.padLen l) : Nat) : Int))) = false → 
 (∃ (S2 : St), Ent W.C (105 : Nat) [] K (St.mk [((2 : Nat), (AV.ptr (2 : Nat) [])), ((3 : Nat), (AV.sl (3 : Nat) [] (0 : Nat) (W.padLen l) (W.padLen l) false (1 : Nat))), ((4 : Nat), (AV.ptr (4 : Nat) [])), ((5 : Nat), (AV.ptr (5 : Nat) [])), ((6 : Nat), (AV.v (Value.int IntKind.i64 ((((136 : Nat) * m) : Nat) : Int)))), ((39 : Nat), (AV.v (Value.bool false)))] [((2 : Nat), (Blk.c (AV.arr (32 : Nat) (1 : Nat) (fun (x : Nat) => (AV.v (Value.int IntKind.u8 (0 : Int))))))), ((3 : Nat), (Blk.c (AV.arr (W.padLen l) (1 : Nat) (fun (i : Nat) => (AV.v (Value.int IntKind.u8 (((W.padN l i) : Nat) : Int))))))), ((4 : Nat), (Blk.c (AV.arr (5 : Nat) (5 : Nat) (fun (x : Nat) => (AV.arr (5 : Nat) (1 : Nat) (fun (y : Nat) => (AV.v (Value.int IntKind.u64 (((W.stR l m (x + ((5 : Nat) * y))) : Nat) : Int))))))))), ((5 : Nat), (Blk.c (AV.arr (24 : Nat) (1 : Nat) (fun (i : Nat) => (AV.v (Value.int IntKind.u64 (((Sp.wordsN i) : Nat) : Int)))))))] [(2 : Nat), (3 : Nat), (4 : Nat), (5 : Nat)]) S2 ∧ Holds W.C W.P (105 : Nat) [] K Φ (cutAt W.C w_rsum b_rsum [1, 1, 1, 1, 1, 1, 1, 1, 0] S2 (after W.C w_rsum b_rsum [1, 1, 1, 1, 1, 1, 1, 1, 0] [] lf))))) := by kernel_rfl
noncomputable abbrev bd_rsum_2 : Code := bodyAt (bd_rsum_1) [1, 0, 0, 0, 1, 0]
theorem ok_rsum_2 : codeOK bd_rsum_2 = true := by kernel_rfl
noncomputable abbrev rest_rsum_2 (K : Nat) (Φ : Ex → St → Prop) : Ex → St → Prop := fun e S' => Holds C P 105 [] K Φ (after C w_rsum (bd_rsum_1) [1, 0, 0, 0, 1, 0] [] lf e S')
theorem rsum_L2 (l : List Nat) (m i : Nat) (K : Nat) (Φ : Ex → St → Prop) :
  (Holds C P 105 [] K (RoundQ C 105 [] K (I_rs2 l m) (fun i => i ≤ 17) (fun i => 17 - i) ((fun i => 17 - i) (i)) (rest_rsum_2 K Φ)) (vc C w_rsum bd_rsum_2 [] ((I_rs2 l m) (i)) lf)) =
  (((decide (((i : Nat) : Int) < (17 : Int))) = true → 
 (LoopOK W.C W.P (105 : Nat) [] K (bodyAt bd_rsum_2 [1, 0, 0, 1, 0, 1, 0]) (St.mk [((2 : Nat), (AV.ptr (2 : Nat) [])), ((3 : Nat), (AV.sl (3 : Nat) [] (0 : Nat) (W.padLen l) (W.padLen l) false (1 : Nat))), ((4 : Nat), (AV.ptr (4 : Nat) [])), ((5 : Nat), (AV.ptr (5 : Nat) [])), ((6 : Nat), (AV.v (Value.int IntKind.i64 ((((136 : Nat) * m) : Nat) : Int)))), ((7 : Nat), (AV.v (Value.int IntKind.i64 ((i : Nat) : Int)))), ((8 : Nat), (AV.v (Value.int IntKind.u64 (0 : Int)))), ((9 : Nat), (AV.v (Value.int IntKind.i64 (7 : Int)))), ((43 : Nat), (AV.v (Value.bool true)))] [((2 : Nat), (Blk.c (AV.arr (32 : Nat) (1 : Nat) (fun (x : Nat) => (AV.v (Value.int IntKind.u8 (0 : Int))))))), ((3 : Nat), (Blk.c (AV.arr (W.padLen l) (1 : Nat) (fun (i1 : Nat) => (AV.v (Value.int IntKind.u8 (((W.padN l i1) : Nat) : Int))))))), ((4 : Nat), (Blk.c (AV.arr (5 : Nat) (5 : Nat) (fun (x : Nat) => (AV.arr (5 : Nat) (1 : Nat) (fun (y : Nat) => (AV.v (Value.int IntKind.u64 (((W.absR (W.stR l m) (W.padN l) ((136 : Nat) * m) i (x + ((5 : Nat) * y))) : Nat) : Int))))))))), ((5 : Nat), (Blk.c (AV.arr (24 : Nat) (1 : Nat) (fun (i1 : Nat) => (AV.v (Value.int IntKind.u64 (((Sp.wordsN i1) : Nat) : Int)))))))] [(2 : Nat), (3 : Nat), (4 : Nat), (5 : Nat)]) (fun (e : Ex) (S' : St) => Holds W.C W.P (105 : Nat) [] K (RoundQ C 105 [] K (I_rs2 l m) (fun i => i ≤ 17) (fun i => 17 - i) ((fun i => 17 - i) (i)) (rest_rsum_2 K Φ)) (after W.C w_rsum bd_rsum_2 [1, 0, 0, 1, 0, 1, 0] [] lf e S')))) ∧
 ((decide (((i : Nat) : Int) < (17 : Int))) = false → 
 (LoopOK W.C W.P (105 : Nat) [] K (bodyAt bd_rsum_1 [1, 0, 0, 1, 1, 0]) (St.mk [((2 : Nat), (AV.ptr (2 : Nat) [])), ((3 : Nat), (AV.sl (3 : Nat) [] (0 : Nat) (W.padLen l) (W.padLen l) false (1 : Nat))), ((4 : Nat), (AV.ptr (4 : Nat) [])), ((5 : Nat), (AV.ptr (5 : Nat) [])), ((6 : Nat), (AV.v (Value.int IntKind.i64 ((((136 : Nat) * m) : Nat) : Int)))), ((7 : Nat), (AV.v (Value.int IntKind.i64 ((i : Nat) : Int)))), ((10 : Nat), (AV.v (Value.int IntKind.i64 (0 : Int)))), ((43 : Nat), (AV.v (Value.bool false)))] [((2 : Nat), (Blk.c (AV.arr (32 : Nat) (1 : Nat) (fun (x : Nat) => (AV.v (Value.int IntKind.u8 (0 : Int))))))), ((3 : Nat), (Blk.c (AV.arr (W.padLen l) (1 : Nat) (fun (i1 : Nat) => (AV.v (Value.int IntKind.u8 (((W.padN l i1) : Nat) : Int))))))), ((4 : Nat), (Blk.c (AV.arr (5 : Nat) (5 : Nat) (fun (x : Nat) => (AV.arr (5 : Nat) (1 : Nat) (fun (y : Nat) => (AV.v (Value.int IntKind.u64 (((W.absR (W.stR l m) (W.padN l) ((136 : Nat) * m) i (x + ((5 : Nat) * y))) : Nat) : Int))))))))), ((5 : Nat), (Blk.c (AV.arr (24 : Nat) (1 : Nat) (fun (i1 : Nat) => (AV.v (Value.int IntKind.u64 (((Sp.wordsN i1) : Nat) : Int)))))))] [(2 : Nat), (3 : Nat), (4 : Nat), (5 : Nat)]) (fun (e : Ex) (S' : St) => Holds W.C W.P (105 : Nat) [] K Φ (after W.C w_rsum bd_rsum_1 [1, 0, 0, 1, 1, 0] [] lf e S'))))) := by kernel_rfl
noncomputable abbrev bd_rsum_3 : Code := bodyAt (bd_rsum_2) [1, 0, 0, 1, 0, 1, 0]
theorem ok_rsum_3 : codeOK bd_rsum_3 = true := by kernel_rfl
noncomputable abbrev rest_rsum_3 (K : Nat) (Φ : Ex → St → Prop) : Ex → St → Prop := fun e S' => Holds C P 105 [] K Φ (after C w_rsum (bd_rsum_2) [1, 0, 0, 1, 0, 1, 0] [] lf e S')
theorem rsum_L3 (l : List Nat) (m i n : Nat) (K : Nat) (Φ : Ex → St → Prop) :
  (Holds C P 105 [] K (RoundQ C 105 [] K (I_rs3 l m i) (fun n => n ≤ 8) (fun n => 8 - n) ((fun n => 8 - n) (n)) (rest_rsum_3 K Φ)) (vc C w_rsum bd_rsum_3 [] ((I_rs3 l m i) (n)) lf)) =
  (((decide (((7 : Int) - ((n : Nat) : Int)) ≥ (0 : Int))) = true → 
 (((0 : Int) ≤ (8 : Int)) ∧
  ((I64 (((8 * i) : Nat) : Int)) ∧
  ((I64 (((((136 : Nat) * m) + (8 * i)) : Nat) : Int)) ∧
  ((I64 ((((((136 : Nat) * m) + (8 * i)) : Nat) : Int) + ((7 : Int) - ((n : Nat) : Int)))) ∧
  ((((0 : Int) ≤ ((((((136 : Nat) * m) + (8 * i)) : Nat) : Int) + ((7 : Int) - ((n : Nat) : Int)))) ∧ (((((((136 : Nat) * m) + (8 * i)) : Nat) : Int) + ((7 : Int) - ((n : Nat) : Int))) < (((W.padLen l) : Nat) : Int))) ∧
  ((I64 (((7 : Int) - ((n : Nat) : Int)) - (1 : Int))) ∧
  ((RoundQ C 105 [] K (I_rs3 l m i) (fun n => n ≤ 8) (fun n => 8 - n) ((fun n => 8 - n) (n)) (rest_rsum_3 K Φ)) Ex.normal (St.mk [((2 : Nat), (AV.ptr (2 : Nat) [])), ((3 : Nat), (AV.sl (3 : Nat) [] (0 : Nat) (W.padLen l) (W.padLen l) false (1 : Nat))), ((4 : Nat), (AV.ptr (4 : Nat) [])), ((5 : Nat), (AV.ptr (5 : Nat) [])), ((6 : Nat), (AV.v (Value.int IntKind.i64 ((((136 : Nat) * m) : Nat) : Int)))), ((7 : Nat), (AV.v (Value.int IntKind.i64 ((i : Nat) : Int)))), ((8 : Nat), (AV.v (Value.int IntKind.u64 (bOr IntKind.u64 (bShl IntKind.u64 (((Sp.wN (W.padN l) (((136 : Nat) * m) + ((8 : Nat) * i)) n) : Nat) : Int) (8 : Int)) (IntKind.wrap IntKind.u64 (((W.padN l ((0 : Nat) + (Int.toNat ((((((136 : Nat) * m) + (8 * i)) : Nat) : Int) + ((7 : Int) - ((n : Nat) : Int)))))) : Nat) : Int)))))), ((9 : Nat), (AV.v (Value.int IntKind.i64 (((7 : Int) - ((n : Nat) : Int)) - (1 : Int))))), ((47 : Nat), (AV.v (Value.bool true)))] [((2 : Nat), (Blk.c (AV.arr (32 : Nat) (1 : Nat) (fun (x : Nat) => (AV.v (Value.int IntKind.u8 (0 : Int))))))), ((3 : Nat), (Blk.c (AV.arr (W.padLen l) (1 : Nat) (fun (i1 : Nat) => (AV.v (Value.int IntKind.u8 (((W.padN l i1) : Nat) : Int))))))), ((4 : Nat), (Blk.c (AV.arr (5 : Nat) (5 : Nat) (fun (x : Nat) => (AV.arr (5 : Nat) (1 : Nat) (fun (y : Nat) => (AV.v (Value.int IntKind.u64 (((W.absR (W.stR l m) (W.padN l) ((136 : Nat) * m) i (x + ((5 : Nat) * y))) : Nat) : Int))))))))), ((5 : Nat), (Blk.c (AV.arr (24 : Nat) (1 : Nat) (fun (i1 : Nat) => (AV.v (Value.int IntKind.u64 (((Sp.wordsN i1) : Nat) : Int)))))))] [(2 : Nat), (3 : Nat), (4 : Nat), (5 : Nat)]))))))))) ∧
 ((decide (((7 : Int) - ((n : Nat) : Int)) ≥ (0 : Int))) = false → 
 (((5 : Int) ≠ (0 : Int)) ∧
  (((5 : Int) ≠ (0 : Int)) ∧
  ((I64 (((i / 5) : Nat) : Int)) ∧
  (((5 : Int) ≠ (0 : Int)) ∧
  (((5 : Int) ≠ (0 : Int)) ∧
  ((I64 (((i / 5) : Nat) : Int)) ∧
  ((((0 : Int) ≤ (((i % 5) : Nat) : Int)) ∧ ((((i % 5) : Nat) : Int) < (5 : Int))) ∧
  ((((0 : Int) ≤ (((i / 5) : Nat) : Int)) ∧ ((((i / 5) : Nat) : Int) < (5 : Int))) ∧
  ((((0 : Int) ≤ (((i % 5) : Nat) : Int)) ∧ ((((i % 5) : Nat) : Int) < (5 : Int))) ∧
  ((((0 : Int) ≤ (((i / 5) : Nat) : Int)) ∧ ((((i / 5) : Nat) : Int) < (5 : Int))) ∧
  ((I64 (((i + 1) : Nat) : Int)) ∧
  (Φ Ex.normal (St.mk [((2 : Nat), (AV.ptr (2 : Nat) [])), ((3 : Nat), (AV.sl (3 : Nat) [] (0 : Nat) (W.padLen l) (W.padLen l) false (1 : Nat))), ((4 : Nat), (AV.ptr (4 : Nat) [])), ((5 : Nat), (AV.ptr (5 : Nat) [])), ((6 : Nat), (AV.v (Value.int IntKind.i64 ((((136 : Nat) * m) : Nat) : Int)))), ((7 : Nat), (AV.v (Value.int IntKind.i64 (((i + 1) : Nat) : Int)))), ((8 : Nat), (AV.v (Value.int IntKind.u64 (((Sp.wN (W.padN l) (((136 : Nat) * m) + ((8 : Nat) * i)) n) : Nat) : Int)))), ((9 : Nat), (AV.v (Value.int IntKind.i64 ((7 : Int) - ((n : Nat) : Int))))), ((47 : Nat), (AV.v (Value.bool false)))] [((2 : Nat), (Blk.c (AV.arr (32 : Nat) (1 : Nat) (fun (x : Nat) => (AV.v (Value.int IntKind.u8 (0 : Int))))))), ((3 : Nat), (Blk.c (AV.arr (W.padLen l) (1 : Nat) (fun (i1 : Nat) => (AV.v (Value.int IntKind.u8 (((W.padN l i1) : Nat) : Int))))))), ((4 : Nat), (Blk.c (AV.arr (5 : Nat) (5 : Nat) (fun (j : Nat) => (if (j = (i % 5)) then (AV.arr (5 : Nat) (1 : Nat) (fun (j1 : Nat) => (if (j1 = (i / 5)) then (AV.v (Value.int IntKind.u64 (bXor IntKind.u64 (((W.absR (W.stR l m) (W.padN l) ((136 : Nat) * m) i ((i % 5) + ((5 : Nat) * (i / 5)))) : Nat) : Int) (((Sp.wN (W.padN l) (((136 : Nat) * m) + ((8 : Nat) * i)) n) : Nat) : Int)))) else (AV.v (Value.int IntKind.u64 (((W.absR (W.stR l m) (W.padN l) ((136 : Nat) * m) i ((i % 5) + ((5 : Nat) * j1))) : Nat) : Int)))))) else (AV.arr (5 : Nat) (1 : Nat) (fun (y : Nat) => (AV.v (Value.int IntKind.u64 (((W.absR (W.stR l m) (W.padN l) ((136 : Nat) * m) i (j + ((5 : Nat) * y))) : Nat) : Int)))))))))), ((5 : Nat), (Blk.c (AV.arr (24 : Nat) (1 : Nat) (fun (i1 : Nat) => (AV.v (Value.int IntKind.u64 (((Sp.wordsN i1) : Nat) : Int)))))))] [(2 : Nat), (3 : Nat), (4 : Nat), (5 : Nat)]))))))))))))))) := by kernel_rfl
noncomputable abbrev bd_rsum_4 : Code := bodyAt (bd_rsum_1) [1, 0, 0, 1, 1, 0]
theorem ok_rsum_4 : codeOK bd_rsum_4 = true := by kernel_rfl
noncomputable abbrev rest_rsum_4 (K : Nat) (Φ : Ex → St → Prop) : Ex → St → Prop := fun e S' => Holds C P 105 [] K Φ (after C w_rsum (bd_rsum_1) [1, 0, 0, 1, 1, 0] [] lf e S')
theorem rsum_L4 (l : List Nat) (m : Nat) (a : Nat → Nat) (t : Nat) (K : Nat) (Φ : Ex → St → Prop) :
  (Holds C P 105 [] K (RoundQ C 105 [] K (I_rs4 l m a) (fun t => t ≤ 24) (fun t => 24 - t) ((fun t => 24 - t) (t)) (rest_rsum_4 K Φ)) (vc C w_rsum bd_rsum_4 [] ((I_rs4 l m a) (t)) lf)) =
  (((decide (((t : Nat) : Int) < (24 : Int))) = true → 
 ((((0 : Int) ≤ ((t : Nat) : Int)) ∧ (((t : Nat) : Int) < (24 : Int))) ∧
  (Fun W.C W.P (45 : Nat) [(AV.arr (5 : Nat) (5 : Nat) (fun (x : Nat) => (AV.arr (5 : Nat) (1 : Nat) (fun (y : Nat) => (AV.v (Value.int IntKind.u64 (((Sp.permN a t (x + ((5 : Nat) * y))) : Nat) : Int))))))), (AV.v (Value.int IntKind.u64 (((Sp.wordsN t) : Nat) : Int)))] [] (AV.arr (5 : Nat) (5 : Nat) (fun (x : Nat) => (AV.arr (5 : Nat) (1 : Nat) (fun (y : Nat) => (AV.v (Value.int IntKind.u64 (((Sp.roundN (W.flatN (fun (x1 : Nat) => (AV.arr (5 : Nat) (1 : Nat) (fun (y1 : Nat) => (AV.v (Value.int IntKind.u64 (((Sp.permN a t (x1 + ((5 : Nat) * y1))) : Nat) : Int))))))) (Sp.wordsN t) (x + ((5 : Nat) * y))) : Nat) : Int))))))) [] ∧
  ((∀ (i : Nat), ((i < (5 : Nat)) → (∀ (i1 : Nat), ((i1 < (5 : Nat)) → True)))) ∧
  ((((5 : Nat) = (5 : Nat)) ∧ (((5 : Nat) = (5 : Nat)) ∧ (∀ (i : Nat), ((i < (5 : Nat)) → (((5 : Nat) = (5 : Nat)) ∧ (((1 : Nat) = (1 : Nat)) ∧ (∀ (i1 : Nat), ((i1 < (5 : Nat)) → ((Bool.true = true) ∧ (Bool.true = true)))))))))) ∧
  ((I64 (((t + 1) : Nat) : Int)) ∧
  ((RoundQ C 105 [] K (I_rs4 l m a) (fun t => t ≤ 24) (fun t => 24 - t) ((fun t => 24 - t) (t)) (rest_rsum_4 K Φ)) Ex.normal (St.mk [((2 : Nat), (AV.ptr (2 : Nat) [])), ((3 : Nat), (AV.sl (3 : Nat) [] (0 : Nat) (W.padLen l) (W.padLen l) false (1 : Nat))), ((4 : Nat), (AV.ptr (4 : Nat) [])), ((5 : Nat), (AV.ptr (5 : Nat) [])), ((6 : Nat), (AV.v (Value.int IntKind.i64 ((((136 : Nat) * m) : Nat) : Int)))), ((10 : Nat), (AV.v (Value.int IntKind.i64 (((t + 1) : Nat) : Int)))), ((79 : Nat), (AV.v (Value.bool true)))] [((2 : Nat), (Blk.c (AV.arr (32 : Nat) (1 : Nat) (fun (x : Nat) => (AV.v (Value.int IntKind.u8 (0 : Int))))))), ((3 : Nat), (Blk.c (AV.arr (W.padLen l) (1 : Nat) (fun (i : Nat) => (AV.v (Value.int IntKind.u8 (((W.padN l i) : Nat) : Int))))))), ((4 : Nat), (Blk.c (AV.arr (5 : Nat) (5 : Nat) (fun (x : Nat) => (AV.arr (5 : Nat) (1 : Nat) (fun (y : Nat) => (AV.v (Value.int IntKind.u64 (((Sp.roundN (W.flatN (fun (x1 : Nat) => (AV.arr (5 : Nat) (1 : Nat) (fun (y1 : Nat) => (AV.v (Value.int IntKind.u64 (((Sp.permN a t (x1 + ((5 : Nat) * y1))) : Nat) : Int))))))) (Sp.wordsN t) (x + ((5 : Nat) * y))) : Nat) : Int))))))))), ((5 : Nat), (Blk.c (AV.arr (24 : Nat) (1 : Nat) (fun (i : Nat) => (AV.v (Value.int IntKind.u64 (((Sp.wordsN i) : Nat) : Int)))))))] [(2 : Nat), (3 : Nat), (4 : Nat), (5 : Nat)])))))))) ∧
 ((decide (((t : Nat) : Int) < (24 : Int))) = false → 
 ((I64 (((((136 : Nat) * m) + 136) : Nat) : Int)) ∧
  (Φ Ex.normal (St.mk [((2 : Nat), (AV.ptr (2 : Nat) [])), ((3 : Nat), (AV.sl (3 : Nat) [] (0 : Nat) (W.padLen l) (W.padLen l) false (1 : Nat))), ((4 : Nat), (AV.ptr (4 : Nat) [])), ((5 : Nat), (AV.ptr (5 : Nat) [])), ((6 : Nat), (AV.v (Value.int IntKind.i64 (((((136 : Nat) * m) + 136) : Nat) : Int)))), ((10 : Nat), (AV.v (Value.int IntKind.i64 ((t : Nat) : Int)))), ((79 : Nat), (AV.v (Value.bool false)))] [((2 : Nat), (Blk.c (AV.arr (32 : Nat) (1 : Nat) (fun (x : Nat) => (AV.v (Value.int IntKind.u8 (0 : Int))))))), ((3 : Nat), (Blk.c (AV.arr (W.padLen l) (1 : Nat) (fun (i : Nat) => (AV.v (Value.int IntKind.u8 (((W.padN l i) : Nat) : Int))))))), ((4 : Nat), (Blk.c (AV.arr (5 : Nat) (5 : Nat) (fun (x : Nat) => (AV.arr (5 : Nat) (1 : Nat) (fun (y : Nat) => (AV.v (Value.int IntKind.u64 (((Sp.permN a t (x + ((5 : Nat) * y))) : Nat) : Int))))))))), ((5 : Nat), (Blk.c (AV.arr (24 : Nat) (1 : Nat) (fun (i : Nat) => (AV.v (Value.int IntKind.u64 (((Sp.wordsN i) : Nat) : Int)))))))] [(2 : Nat), (3 : Nat), (4 : Nat), (5 : Nat)]))))) := by kernel_rfl
theorem rsum_C24 (a : Nat → Nat) (K : Nat) (Φ : Ex → St → Prop) :
  (Holds C P 105 [] K Φ (cutAt C w_rsum b_rsum [1, 1, 1, 1, 1, 1, 1, 1, 0] (S_rs24 a) (after C w_rsum b_rsum [1, 1, 1, 1, 1, 1, 1, 1, 0] [] lf))) =
  ((((32 : Nat) = (32 : Nat)) ∧ (((1 : Nat) = (1 : Nat)) ∧ (∀ (i : Nat), ((i < (32 : Nat)) → ((true = true) ∧ (Bool.true = true)))))) ∧
 (LoopOK W.C W.P (105 : Nat) [] K (bodyAt b_rsum [1, 1, 1, 1, 1, 1, 1, 1, 1, 0, 1, 0]) (St.mk [((2 : Nat), (AV.ptr (2 : Nat) [])), ((4 : Nat), (AV.ptr (4 : Nat) [])), ((11 : Nat), (AV.ptr (11 : Nat) [])), ((12 : Nat), (AV.v (Value.int IntKind.i64 (0 : Int))))] [((2 : Nat), (Blk.c (AV.arr (32 : Nat) (1 : Nat) (fun (x : Nat) => (AV.v (Value.int IntKind.u8 (0 : Int))))))), ((4 : Nat), (Blk.c (AV.arr (5 : Nat) (5 : Nat) (fun (x : Nat) => (AV.arr (5 : Nat) (1 : Nat) (fun (y : Nat) => (AV.v (Value.int IntKind.u64 (((a (x + ((5 : Nat) * y))) : Nat) : Int))))))))), ((11 : Nat), (Blk.c (AV.arr (32 : Nat) (1 : Nat) (fun (x : Nat) => (AV.v (Value.int IntKind.u8 (0 : Int)))))))] [(11 : Nat), (2 : Nat), (4 : Nat)]) (fun (e : Ex) (S' : St) => Holds W.C W.P (105 : Nat) [] K Φ (after W.C w_rsum b_rsum [1, 1, 1, 1, 1, 1, 1, 1, 1, 0, 1, 0] [] lf e S')))) := by kernel_rfl
noncomputable abbrev bd_rsum_5 : Code := bodyAt (b_rsum) [1, 1, 1, 1, 1, 1, 1, 1, 1, 0, 1, 0]
theorem ok_rsum_5 : codeOK bd_rsum_5 = true := by kernel_rfl
noncomputable abbrev rest_rsum_5 (K : Nat) (Φ : Ex → St → Prop) : Ex → St → Prop := fun e S' => Holds C P 105 [] K Φ (after C w_rsum (b_rsum) [1, 1, 1, 1, 1, 1, 1, 1, 1, 0, 1, 0] [] lf e S')
theorem rsum_L5 (a : Nat → Nat) (i : Nat) (K : Nat) (Φ : Ex → St → Prop) :
  (Holds C P 105 [] K (RoundQ C 105 [] K (I_rs5 a) (fun i => i ≤ 32) (fun i => 32 - i) ((fun i => 32 - i) (i)) (rest_rsum_5 K Φ)) (vc C w_rsum bd_rsum_5 [] ((I_rs5 a) (i)) lf)) =
  (((decide (((i : Nat) : Int) < (32 : Int))) = true → 
 (((8 : Int) ≠ (0 : Int)) ∧
  ((I64 (((i / 8) : Nat) : Int)) ∧
  ((((0 : Int) ≤ (((i / 8) : Nat) : Int)) ∧ ((((i / 8) : Nat) : Int) < (5 : Int))) ∧
  ((((0 : Int) ≤ (0 : Int)) ∧ ((0 : Int) < (5 : Int))) ∧
  (((8 : Int) ≠ (0 : Int)) ∧
  ((I64 (((8 * (i % 8)) : Nat) : Int)) ∧
  (((0 : Int) ≤ (((8 * (i % 8)) : Nat) : Int)) ∧
  ((((0 : Int) ≤ ((i : Nat) : Int)) ∧ (((i : Nat) : Int) < (32 : Int))) ∧
  ((I64 (((i + 1) : Nat) : Int)) ∧
  ((RoundQ C 105 [] K (I_rs5 a) (fun i => i ≤ 32) (fun i => 32 - i) ((fun i => 32 - i) (i)) (rest_rsum_5 K Φ)) Ex.normal (St.mk [((2 : Nat), (AV.ptr (2 : Nat) [])), ((4 : Nat), (AV.ptr (4 : Nat) [])), ((11 : Nat), (AV.ptr (11 : Nat) [])), ((12 : Nat), (AV.v (Value.int IntKind.i64 (((i + 1) : Nat) : Int)))), ((89 : Nat), (AV.v (Value.bool true)))] [((2 : Nat), (Blk.c (AV.arr (32 : Nat) (1 : Nat) (fun (x : Nat) => (AV.v (Value.int IntKind.u8 (0 : Int))))))), ((4 : Nat), (Blk.c (AV.arr (5 : Nat) (5 : Nat) (fun (x : Nat) => (AV.arr (5 : Nat) (1 : Nat) (fun (y : Nat) => (AV.v (Value.int IntKind.u64 (((a (x + ((5 : Nat) * y))) : Nat) : Int))))))))), ((11 : Nat), (Blk.c (AV.arr (32 : Nat) (1 : Nat) (fun (j : Nat) => (if (j = i) then (AV.v (Value.int IntKind.u8 (IntKind.wrap IntKind.u8 (bShr IntKind.u64 (((a (i / 8)) : Nat) : Int) (((8 * (i % 8)) : Nat) : Int))))) else (AV.v (Value.int IntKind.u8 (((if (j < i) then (W.outN a j) else (0 : Nat)) : Nat) : Int))))))))] [(2 : Nat), (4 : Nat), (11 : Nat)])))))))))))) ∧
 ((decide (((i : Nat) : Int) < (32 : Int))) = false → 
 ((((32 : Nat) = (32 : Nat)) ∧ (((1 : Nat) = (1 : Nat)) ∧ (∀ (i1 : Nat), ((i1 < (32 : Nat)) → ((true = true) ∧ (Bool.true = true)))))) ∧
  (Φ Ex.ret (St.mk [((2 : Nat), (AV.ptr (2 : Nat) [])), ((4 : Nat), (AV.ptr (4 : Nat) [])), ((11 : Nat), (AV.ptr (11 : Nat) [])), ((12 : Nat), (AV.v (Value.int IntKind.i64 ((i : Nat) : Int)))), ((89 : Nat), (AV.v (Value.bool false)))] [((2 : Nat), (Blk.c (AV.arr (32 : Nat) (1 : Nat) (fun (i1 : Nat) => (AV.v (Value.int IntKind.u8 (((if (i1 < i) then (W.outN a i1) else (0 : Nat)) : Nat) : Int))))))), ((4 : Nat), (Blk.c (AV.arr (5 : Nat) (5 : Nat) (fun (x : Nat) => (AV.arr (5 : Nat) (1 : Nat) (fun (y : Nat) => (AV.v (Value.int IntKind.u64 (((a (x + ((5 : Nat) * y))) : Nat) : Int))))))))), ((11 : Nat), (Blk.c (AV.arr (32 : Nat) (1 : Nat) (fun (i1 : Nat) => (AV.v (Value.int IntKind.u8 (((if (i1 < i) then (W.outN a i1) else (0 : Nat)) : Nat) : Int)))))))] [(2 : Nat), (4 : Nat), (11 : Nat)]))))) := by kernel_rfl

theorem flatN_ref (f : Nat → Nat) : flatN (fun x1 => AV.arr 5 1 (fun y1 => u64 (f (x1 + 5 * y1)))) = f := by
  funext p
  exact flat_ref f p
theorem tail0_hi {l : List Nat} {i : Nat} (h : l.length ≤ i) : tail0 l i ≤ 6 := by
  unfold tail0
  rw [if_neg (by omega)]
  by_cases e : i = l.length
  · rw [if_pos e]; exact Nat.le_refl _
  · rw [if_neg e]; exact Nat.zero_le _
theorem tail0_lt {l : List Nat} (h : Small l) (i : Nat) : tail0 l i < 256 := by
  unfold tail0
  by_cases e : i < l.length
  · rw [if_pos e]; exact getD_small h i
  · rw [if_neg e]
    by_cases e : i = l.length
    · rw [if_pos e]; decide
    · rw [if_neg e]; decide
theorem padN_lt {l : List Nat} (h : Small l) (i : Nat) : padN l i < 256 := by
  unfold padN
  by_cases e : i = 136 * (l.length / 136) + 135
  · rw [if_pos e]
    have := tail0_hi (l := l) (i := i) (by omega)
    omega
  · rw [if_neg e]
    have := tail0_lt h i
    omega
theorem stR_lt (l : List Nat) : ∀ m i, i < 25 → stR l m i < 2 ^ 64
  | 0, _, _ => by show 0 < _; decide
  | m + 1, i, hi => mixN_lt (stR_lt l m) i hi
theorem stR_stN (l : List Nat) : ∀ m, m ≤ l.length / 136 → ∀ i, i < 25 → stR l m i = stN l m i
  | 0, _, _, _ => rfl
  | m + 1, hm, i, hi => by
    refine mixN_congr (stR_stN l m (by omega)) (fun j hj => ?_) i hi
    show padN l (136 * m + j) = _
    unfold padN tail0
    rw [if_pos (by omega), if_neg (by omega)]
    rfl
theorem stR_last (l : List Nat) {i : Nat} (hi : i < 25) : stR l (l.length / 136 + 1) i = mixN (stN l (l.length / 136)) (lastBlk l) 136 i := by
  refine mixN_congr (stR_stN l _ (Nat.le_refl _)) (fun j hj => ?_) i hi
  show padN l (136 * (l.length / 136) + j) = lastBlk l j
  unfold padN tail0 lastBlk
  have e1 : (136 * (l.length / 136) + j < l.length) ↔ j < l.length % 136 := by omega
  have e2 : (136 * (l.length / 136) + j = l.length) ↔ j = l.length % 136 := by omega
  have e3 : (136 * (l.length / 136) + j = 136 * (l.length / 136) + 135) ↔ j = 135 := by omega
  simp only [e1, e2, e3]
theorem absR_lt {a b : Nat → Nat} {o i : Nat} (ha : ∀ p, p < 25 → a p < 2 ^ 64) (hb : ∀ i, b i < 256) {p : Nat} (hp : p < 25) : absR a b o i p < 2 ^ 64 := by
  unfold absR
  by_cases e : p < i
  · rw [if_pos e]; exact Nat.xor_lt_two_pow (ha p hp) (wN_lt hb (Nat.le_refl _))
  · rw [if_neg e]; exact ha p hp

theorem rsum_fun (ex : Bool) (l : List Nat) (hs : Small l) (hn : l.length < 2 ^ 46) : Fun C P F_rsum [.dat l.length ex 1 (rowL l)] [] (sumAV l) [] := by
  have hpl : padLen l = 136 * (l.length / 136 + 1) := rfl
  refine in_rsum (W := w_rsum) rfl 0 (by simp) rfl (fun id h => absurd rfl h) ?_
  refine of_eq (rsum_A ex l 0 _) ⟨rfl, .inl rfl, (by first | omega | decide | (unfold I64; omega)), (by first | omega | decide | (unfold I64; omega)), ?_⟩
  refine loop_inv (W := w_rsum) ctx mixed ok_rsum_0 (I_rs0 l) (fun n => l.length < n ∧ n ≤ padLen l) (fun n => padLen l - n) (l.length + 1) (by omega) ?_ fun n hq => ?_
  · refine ent_of [(2, 2), (18, 3)] rfl (tm_cons rfl (sm_ptr rfl) (tm_cons rfl (sm_sl rfl (by omega) (by omega) (by omega) (by simp)) tm_nil)) (hp_cons rfl rfl (sm_same rfl) (hp_cons rfl rfl (sm_arr' (by omega) fun j hj => ?_) hp_nil))
    unfold cat tail0
    by_cases e : j < l.length
    · rw [if_pos (by omega), if_pos e]; dsimp only; rw [Nat.zero_add]
    · have e2 : j = l.length := by omega
      subst e2
      rw [if_neg (by omega), if_neg (by omega), if_pos rfl, Nat.zero_add, Nat.sub_self]
      rfl
  obtain ⟨hq1, hq2⟩ := hq
  refine of_eq (rsum_L0 l n 0 _) ⟨(by first | omega | decide | (unfold I64; omega)), fun h => ?_, fun h => ?_⟩
  · have h' : n % 136 ≠ 0 := fun e => by rw [e] at h; simp at h
    refine ⟨(by first | omega | decide | (unfold I64; omega)), round_end (n + 1) (by omega) (ent_of [(2, 2), (25, 3)] rfl (tm_cons rfl (sm_ptr rfl) (tm_cons rfl (sm_sl rfl rfl (Nat.le_refl _) (Nat.le_refl _) (by simp)) tm_nil)) (hp_cons rfl rfl (sm_same rfl) (hp_cons rfl rfl (sm_arr' rfl fun j hj => ?_) hp_nil))) (by dsimp only; omega)⟩
    unfold cat
    by_cases e : j < n
    · rw [if_pos e]; dsimp only; rw [Nat.zero_add]
    · have e2 : j = n := by omega
      subst e2
      rw [if_neg e, Nat.sub_self]
      unfold tail0
      rw [if_neg (by omega), if_neg (by omega)]
      rfl
  have hn0 : n = padLen l := by
    have h' : n % 136 = 0 := by
      simp only [bne_eq_false_iff_eq] at h
      omega
    omega
  subst hn0
  refine cut_ok (S2 := S_rs5 l) (ent_of [(2, 2), (3, 3)] rfl (tm_cons rfl (sm_ptr rfl) (tm_cons rfl (sm_sl rfl rfl (Nat.le_refl _) (Nat.le_refl _) (by simp)) tm_nil)) (hp_cons rfl rfl (sm_same rfl) (hp_cons rfl rfl (sm_same rfl) hp_nil))) ?_
  clear h hq1 hq2
  have hlast : (((padLen l : Nat) : Int) - 1).toNat = 136 * (l.length / 136) + 135 := by omega
  refine of_eq (rsum_C5 l 0 _) ⟨(by first | omega | decide | (unfold I64; omega)), (by first | omega | decide | (unfold I64; omega)), (by first | omega | decide | (unfold I64; omega)), ⟨rfl, rfl, fun _ _ => ⟨rfl, rfl, fun _ _ => ⟨rfl, rfl⟩⟩⟩, rwords_fun, fun _ _ => trivial, ⟨rfl, rfl, fun _ _ => ⟨rfl, rfl⟩⟩, ?_⟩
  refine loop_inv (W := w_rsum) ctx mixed ok_rsum_1 (I_rs1 l) (fun m => m ≤ l.length / 136 + 1) (fun m => l.length / 136 + 1 - m) 0 (by omega) ?_ fun m hm => ?_
  · refine ent_of [(2, 2), (3, 3), (4, 4), (5, 5)] rfl (tm_cons rfl (sm_ptr rfl) (tm_cons rfl (sm_sl rfl rfl (Nat.le_refl _) (Nat.le_refl _) (by simp)) (tm_cons rfl (sm_ptr rfl) (tm_cons rfl (sm_ptr rfl) (tm_cons rfl (sm_same rfl) tm_nil))))) (hp_cons rfl rfl (sm_same rfl) (hp_cons rfl rfl (sm_arr fun j hj => ?_) (hp_cons rfl rfl (sm_same rfl) (hp_cons rfl rfl (sm_same rfl) hp_nil))))
    rw [Nat.zero_add, hlast]
    unfold padN
    by_cases e : j = 136 * (l.length / 136) + 135
    · rw [if_pos e, if_pos e, e, wrap_u8]
      have := tail0_hi (l := l) (i := 136 * (l.length / 136) + 135) (by omega)
      rw [Nat.mod_eq_of_lt (by omega)]
    · rw [if_neg e, if_neg e]; rfl
  have hbs := padN_lt hs
  refine of_eq (rsum_L1 l m 0 _) ⟨fun h => ?_, fun h => ?_⟩
  · simp only [decide_eq_true_eq] at h
    have hm' : m ≤ l.length / 136 := by omega
    refine loop_inv (W := w_rsum) ctx mixed ok_rsum_2 (I_rs2 l m) (fun i => i ≤ 17) (fun i => 17 - i) 0 (by decide) ?_ fun i hi => ?_
    · exact ent_of [(2, 2), (3, 3), (4, 4), (5, 5)] rfl (tm_cons rfl (sm_ptr rfl) (tm_cons rfl (sm_sl rfl rfl (Nat.le_refl _) (Nat.le_refl _) (by simp)) (tm_cons rfl (sm_ptr rfl) (tm_cons rfl (sm_ptr rfl) (tm_cons rfl (sm_same rfl) (tm_cons rfl (sm_same rfl) tm_nil)))))) (hp_cons rfl rfl (sm_same rfl) (hp_cons rfl rfl (sm_same rfl) (hp_cons rfl rfl (sm_ref fun x y _ _ => (if_neg (Nat.not_lt_zero _)).symm) (hp_cons rfl rfl (sm_same rfl) hp_nil))))
    refine of_eq (rsum_L2 l m i 0 _) ⟨fun h2 => ?_, fun h2 => ?_⟩
    · simp only [decide_eq_true_eq] at h2
      refine loop_inv (W := w_rsum) ctx mixed ok_rsum_3 (I_rs3 l m i) (fun n => n ≤ 8) (fun n => 8 - n) 0 (by decide) ?_ fun n hn8 => ?_
      · exact ent_of [(2, 2), (3, 3), (4, 4), (5, 5)] rfl (tm_cons rfl (sm_ptr rfl) (tm_cons rfl (sm_sl rfl rfl (Nat.le_refl _) (Nat.le_refl _) (by simp)) (tm_cons rfl (sm_ptr rfl) (tm_cons rfl (sm_ptr rfl) (tm_cons rfl (sm_same rfl) (tm_cons rfl (sm_same rfl) (tm_cons rfl (sm_same rfl) (tm_cons rfl (sm_int (by omega)) tm_nil)))))))) (hp_cons rfl rfl (sm_same rfl) (hp_cons rfl rfl (sm_same rfl) (hp_cons rfl rfl (sm_same rfl) (hp_cons rfl rfl (sm_same rfl) hp_nil))))
      refine of_eq (rsum_L3 l m i n 0 _) ⟨fun h3 => ?_, fun h3 => ?_⟩
      · simp only [ge_iff_le, decide_eq_true_eq] at h3
        have hix : (((136 * m + 8 * i : Nat) : Int) + ((7 : Int) - ((n : Nat) : Int))).toNat = 136 * m + 8 * i + (7 - n) := by omega
        have hb1 := hbs (136 * m + 8 * i + (7 - n))
        have hw := wN_lt (b := padN l) (base := 136 * m + 8 * i) hbs (n := n) (by omega)
        have hsh : bShl IntKind.u64 ((wN (padN l) (136 * m + 8 * i) n : Nat) : Int) 8 = _ := shl64 _ 8
        rw [hix, Nat.zero_add, hsh, wrap_u64, Nat.mod_eq_of_lt (show padN l (136 * m + 8 * i + (7 - n)) < 2 ^ 64 by omega), or64 (Nat.mod_lt _ (by decide)) (by omega)]
        refine ⟨(by first | omega | decide | (unfold I64; omega)), (by first | omega | decide | (unfold I64; omega)), (by first | omega | decide | (unfold I64; omega)), (by first | omega | decide | (unfold I64; omega)), (by first | omega | decide | (unfold I64; omega)), (by first | omega | decide | (unfold I64; omega)), round_end (n + 1) (by omega) (ent_of [(2, 2), (3, 3), (4, 4), (5, 5)] rfl (tm_cons rfl (sm_ptr rfl) (tm_cons rfl (sm_sl rfl rfl (Nat.le_refl _) (Nat.le_refl _) (by simp)) (tm_cons rfl (sm_ptr rfl) (tm_cons rfl (sm_ptr rfl) (tm_cons rfl (sm_same rfl) (tm_cons rfl (sm_same rfl) (tm_cons rfl (sm_same rfl) (tm_cons rfl (sm_int (by omega)) tm_nil)))))))) (hp_cons rfl rfl (sm_same rfl) (hp_cons rfl rfl (sm_same rfl) (hp_cons rfl rfl (sm_same rfl) (hp_cons rfl rfl (sm_same rfl) hp_nil))))) (by dsimp only; omega)⟩
      · simp only [ge_iff_le, decide_eq_false_iff_not] at h3
        obtain rfl : n = 8 := by omega
        have hst := stR_lt l m
        have hii : i % 5 + 5 * (i / 5) = i := Nat.mod_add_div i 5
        rw [xor64 (absR_lt hst hbs (by omega)) (wN_lt hbs (Nat.le_refl _))]
        refine ⟨(by first | omega | decide | (unfold I64; omega)), (by first | omega | decide | (unfold I64; omega)), (by first | omega | decide | (unfold I64; omega)), (by first | omega | decide | (unfold I64; omega)), (by first | omega | decide | (unfold I64; omega)), (by first | omega | decide | (unfold I64; omega)), (by first | omega | decide | (unfold I64; omega)), (by first | omega | decide | (unfold I64; omega)), (by first | omega | decide | (unfold I64; omega)), (by first | omega | decide | (unfold I64; omega)), (by first | omega | decide | (unfold I64; omega)), round_end (i + 1) (by omega) (ent_of [(2, 2), (3, 3), (4, 4), (5, 5)] rfl (tm_cons rfl (sm_ptr rfl) (tm_cons rfl (sm_sl rfl rfl (Nat.le_refl _) (Nat.le_refl _) (by simp)) (tm_cons rfl (sm_ptr rfl) (tm_cons rfl (sm_ptr rfl) (tm_cons rfl (sm_same rfl) (tm_cons rfl (sm_same rfl) tm_nil)))))) (hp_cons rfl rfl (sm_same rfl) (hp_cons rfl rfl (sm_same rfl) (hp_cons rfl rfl (sm_upd2 ?_ fun x z hx hz hne => ?_) (hp_cons rfl rfl (sm_same rfl) hp_nil))))) (by dsimp only; omega)⟩
        · unfold absR
          rw [hii, if_neg (by omega), if_pos (by omega)]
        · unfold absR
          by_cases e : x + 5 * z < i
          · rw [if_pos e, if_pos (by omega)]
          · rw [if_neg e, if_neg (by omega)]
    simp only [decide_eq_false_iff_not] at h2
    obtain rfl : i = 17 := by omega
    refine loop_inv (W := w_rsum) ctx mixed ok_rsum_4 (I_rs4 l m (absR (stR l m) (padN l) (136 * m) 17)) (fun t => t ≤ 24) (fun t => 24 - t) 0 (by decide) ?_ fun t ht => ?_
    · exact ent_of [(2, 2), (3, 3), (4, 4), (5, 5)] rfl (tm_cons rfl (sm_ptr rfl) (tm_cons rfl (sm_sl rfl rfl (Nat.le_refl _) (Nat.le_refl _) (by simp)) (tm_cons rfl (sm_ptr rfl) (tm_cons rfl (sm_ptr rfl) (tm_cons rfl (sm_same rfl) (tm_cons rfl (sm_same rfl) tm_nil)))))) (hp_cons rfl rfl (sm_same rfl) (hp_cons rfl rfl (sm_same rfl) (hp_cons rfl rfl (sm_same rfl) (hp_cons rfl rfl (sm_same rfl) hp_nil))))
    have hpm : ∀ t p, p < 25 → permN (absR (stR l m) (padN l) (136 * m) 17) t p < 2 ^ 64 := permN_lt fun p hp => absR_lt (stR_lt l m) hbs hp
    refine of_eq (rsum_L4 l m (absR (stR l m) (padN l) (136 * m) 17) t 0 _) ⟨fun h3 => ?_, fun h3 => ?_⟩
    · simp only [decide_eq_true_eq] at h3
      rw [flatN_ref]
      exact ⟨(by first | omega | decide | (unfold I64; omega)), rround_fun _ _ (hpm t) (wordsN_lt t), fun _ _ _ _ => trivial, ⟨rfl, rfl, fun _ _ => ⟨rfl, rfl, fun _ _ => ⟨rfl, rfl⟩⟩⟩, (by first | omega | decide | (unfold I64; omega)), round_end (t + 1) (by omega) (ent_of [(2, 2), (3, 3), (4, 4), (5, 5)] rfl (tm_cons rfl (sm_ptr rfl) (tm_cons rfl (sm_sl rfl rfl (Nat.le_refl _) (Nat.le_refl _) (by simp)) (tm_cons rfl (sm_ptr rfl) (tm_cons rfl (sm_ptr rfl) (tm_cons rfl (sm_same rfl) (tm_cons rfl (sm_same rfl) tm_nil)))))) (hp_cons rfl rfl (sm_same rfl) (hp_cons rfl rfl (sm_same rfl) (hp_cons rfl rfl (sm_same rfl) (hp_cons rfl rfl (sm_same rfl) hp_nil))))) (by dsimp only; omega)⟩
    · simp only [decide_eq_false_iff_not] at h3
      obtain rfl : t = 24 := by omega
      refine ⟨(by first | omega | decide | (unfold I64; omega)), round_end (m + 1) (by omega) (ent_of [(2, 2), (3, 3), (4, 4), (5, 5)] rfl (tm_cons rfl (sm_ptr rfl) (tm_cons rfl (sm_sl rfl rfl (Nat.le_refl _) (Nat.le_refl _) (by simp)) (tm_cons rfl (sm_ptr rfl) (tm_cons rfl (sm_ptr rfl) (tm_cons rfl (sm_int (by omega)) tm_nil))))) (hp_cons rfl rfl (sm_same rfl) (hp_cons rfl rfl (sm_same rfl) (hp_cons rfl rfl (sm_ref fun x z hx hz => ?_) (hp_cons rfl rfl (sm_same rfl) hp_nil))))) (by dsimp only; omega)⟩
      refine permN_congr (fun p hp => ?_) 24 _ (by omega)
      rw [absN_block hbs]
      rfl
  simp only [decide_eq_false_iff_not] at h
  obtain rfl : m = l.length / 136 + 1 := by omega
  refine cut_ok (S2 := S_rs24 (stR l (l.length / 136 + 1))) (ent_of [(2, 2), (4, 4)] rfl (tm_cons rfl (sm_ptr rfl) (tm_cons rfl (sm_ptr rfl) tm_nil)) (hp_cons rfl rfl (sm_same rfl) (hp_cons rfl rfl (sm_same rfl) hp_nil))) ?_
  have hst := stR_lt l (l.length / 136 + 1)
  refine of_eq (rsum_C24 _ 0 _) ⟨⟨rfl, rfl, fun _ _ => ⟨rfl, rfl⟩⟩, ?_⟩
  refine loop_inv (W := w_rsum) ctx mixed ok_rsum_5 (I_rs5 (stR l (l.length / 136 + 1))) (fun i => i ≤ 32) (fun i => 32 - i) 0 (by decide) ?_ fun i hi => ?_
  · exact ent_of [(2, 2), (4, 4), (11, 11)] rfl (tm_cons rfl (sm_ptr rfl) (tm_cons rfl (sm_ptr rfl) (tm_cons rfl (sm_ptr rfl) (tm_cons rfl (sm_same rfl) tm_nil)))) (hp_cons rfl rfl (sm_same rfl) (hp_cons rfl rfl (sm_same rfl) (hp_cons rfl rfl (sm_arr fun j _ => rfl) hp_nil)))
  refine of_eq (rsum_L5 _ i 0 _) ⟨fun h2 => ?_, fun h2 => ?_⟩
  · simp only [decide_eq_true_eq] at h2
    rw [shr64 _ _ (hst _ (by omega)), wrap_u8]
    refine ⟨(by first | omega | decide | (unfold I64; omega)), (by first | omega | decide | (unfold I64; omega)), (by first | omega | decide | (unfold I64; omega)), (by first | omega | decide | (unfold I64; omega)), (by first | omega | decide | (unfold I64; omega)), (by first | omega | decide | (unfold I64; omega)), (by first | omega | decide | (unfold I64; omega)), (by first | omega | decide | (unfold I64; omega)), (by first | omega | decide | (unfold I64; omega)), round_end (i + 1) (by omega) (ent_of [(2, 2), (4, 4), (11, 11)] rfl (tm_cons rfl (sm_ptr rfl) (tm_cons rfl (sm_ptr rfl) (tm_cons rfl (sm_ptr rfl) (tm_cons rfl (sm_same rfl) tm_nil)))) (hp_cons rfl rfl (sm_same rfl) (hp_cons rfl rfl (sm_same rfl) (hp_cons rfl rfl (sm_arr fun j _ => ?_) hp_nil)))) (by dsimp only; omega)⟩
    show _ = u8 (if j < i + 1 then outN (stR l (l.length / 136 + 1)) j else 0)
    by_cases e : j = i
    · rw [if_pos e, if_pos (by omega), e]; rfl
    · rw [if_neg e]
      by_cases e2 : j < i
      · rw [if_pos e2, if_pos (by omega)]
      · rw [if_neg e2, if_neg (by omega)]
  simp only [decide_eq_false_iff_not] at h2
  obtain rfl : i = 32 := by omega
  refine ⟨⟨rfl, rfl, fun _ _ => ⟨rfl, rfl⟩⟩, post_cell rfl rfl (sm_arr fun k hk => ?_) rfl⟩
  rw [if_pos hk]
  unfold outN sumN
  rw [stR_last l (by omega)]
end Go.Bu.W

namespace Go.Bu.W
open Sp
def upN (n : Int) : Nat := 32 * ((n.toNat + 31) / 32)
def crRStream : List AV → Option (AV × List (Nat × Blk))
  | [.arr n _ f, id, k] => some (.sl 0 [] 0 (asI k).toNat (upN (asI k)) false 1, [(0, .c (ab (upN (asI k)) (streamN (bytesL n f) (asI id) (upN (asI k)))))])
  | _ => none
def crBlock : List AV → Option (AV × List (Nat × Blk))
  | [.arr n _ f, id, k] => some (sumAV (ofBytes 83 [bytesL n f, eightL (asI id), eightL (asI k)]), [])
  | _ => none
def crRT (g : Nat) (args : List AV) (H : List (Nat × Blk)) : Option (AV × List (Nat × Blk)) :=
  sel (Nat.beq g F_rstream) (crRStream args) <| sel (Nat.beq g F_block) (crBlock args) <| crRS g args H
def wayT (keep : List Nat) (nt : Nat) (cuts : List Nat) : Way := ⟨crRT, fun _ => false, keep, [], nt, cuts⟩
def w_rof : Way := wayT [0, 1, 4] 9 []
def w_block : Way := wayT [0, 1, 2, 3, 6] 14 []
def w_rstream : Way := wayT [0, 1, 2, 3, 6, 7, 8, 13] 27 []
def I_rt0 (key : List Nat) (id n : Int) (i : Nat) : St := { tm := [(1, .i id), (2, .i n), (3, .ptr 3 []), (7, .sl 7 [] 0 (32 * i) (32 * i) false 1)], hp := [(3, .c (.arr 32 1 (rowL key))), (7, .c (ab (32 * i) (streamN key id (32 * i))))], seen := [3, 7] }

theorem rof_A (tag : Nat) (ex : Bool) (exs : Nat → Bool) (ps : List (List Nat)) (K : Nat) (Φ : Ex → St → Prop) :
  (Holds C P 9 [] K Φ (vc C w_rof b_rof [] (start [u8 tag, dp ex exs ps] []) lf)) =
  (Fun W.C W.P (40 : Nat) [(AV.v (Value.int IntKind.u8 ((tag : Nat) : Int))), (AV.dat (List.length ps) ex (1 : Nat) (fun (i : Nat) => (AV.dat (List.length (List.getD ps i [])) (exs i) (1 : Nat) (rowL (List.getD ps i [])))))] [] (AV.sl (0 : Nat) [] (0 : Nat) (List.length (Sp.ofBytes tag (partsL (List.length ps) (fun (i : Nat) => (AV.dat (List.length (List.getD ps i [])) (exs i) (1 : Nat) (rowL (List.getD ps i []))))))) (List.length (Sp.ofBytes tag (partsL (List.length ps) (fun (i : Nat) => (AV.dat (List.length (List.getD ps i [])) (exs i) (1 : Nat) (rowL (List.getD ps i []))))))) false (1 : Nat)) [((0 : Nat), (Blk.c (AV.arr (List.length (Sp.ofBytes tag (partsL (List.length ps) (fun (i : Nat) => (AV.dat (List.length (List.getD ps i [])) (exs i) (1 : Nat) (rowL (List.getD ps i []))))))) (1 : Nat) (rowL (Sp.ofBytes tag (partsL (List.length ps) (fun (i : Nat) => (AV.dat (List.length (List.getD ps i [])) (exs i) (1 : Nat) (rowL (List.getD ps i []))))))))))] ∧
 (Fun W.C W.P (39 : Nat) [(AV.dat (List.length (Sp.ofBytes tag (partsL (List.length ps) (fun (i : Nat) => (AV.dat (List.length (List.getD ps i [])) (exs i) (1 : Nat) (rowL (List.getD ps i []))))))) false (1 : Nat) (fun (i : Nat) => (AV.v (Value.int IntKind.u8 (((List.getD (Sp.ofBytes tag (partsL (List.length ps) (fun (i1 : Nat) => (AV.dat (List.length (List.getD ps i1 [])) (exs i1) (1 : Nat) (rowL (List.getD ps i1 [])))))) ((0 : Nat) + i) (0 : Nat)) : Nat) : Int)))))] [] (AV.arr (32 : Nat) (1 : Nat) (fun (i : Nat) => (AV.v (Value.int IntKind.u8 (((Sp.sumN (bytesL (List.length (Sp.ofBytes tag (partsL (List.length ps) (fun (i1 : Nat) => (AV.dat (List.length (List.getD ps i1 [])) (exs i1) (1 : Nat) (rowL (List.getD ps i1 []))))))) (fun (i1 : Nat) => (AV.v (Value.int IntKind.u8 (((List.getD (Sp.ofBytes tag (partsL (List.length ps) (fun (i2 : Nat) => (AV.dat (List.length (List.getD ps i2 [])) (exs i2) (1 : Nat) (rowL (List.getD ps i2 [])))))) ((0 : Nat) + i1) (0 : Nat)) : Nat) : Int))))) i) : Nat) : Int))))) [] ∧
 ((∀ (i : Nat), ((i < (32 : Nat)) → True)) ∧
 ((((32 : Nat) = (32 : Nat)) ∧ (((1 : Nat) = (1 : Nat)) ∧ (∀ (i : Nat), ((i < (32 : Nat)) → ((true = true) ∧ (Bool.true = true)))))) ∧
 (Φ Ex.ret (St.mk [((0 : Nat), (AV.v (Value.int IntKind.u8 ((tag : Nat) : Int)))), ((1 : Nat), (AV.dat (List.length ps) ex (1 : Nat) (fun (i : Nat) => (AV.dat (List.length (List.getD ps i [])) (exs i) (1 : Nat) (rowL (List.getD ps i [])))))), ((4 : Nat), (AV.ptr (4 : Nat) []))] [((4 : Nat), (Blk.c (AV.arr (32 : Nat) (1 : Nat) (fun (i : Nat) => (AV.v (Value.int IntKind.u8 (((Sp.sumN (bytesL (List.length (Sp.ofBytes tag (partsL (List.length ps) (fun (i1 : Nat) => (AV.dat (List.length (List.getD ps i1 [])) (exs i1) (1 : Nat) (rowL (List.getD ps i1 []))))))) (fun (i1 : Nat) => (AV.v (Value.int IntKind.u8 (((List.getD (Sp.ofBytes tag (partsL (List.length ps) (fun (i2 : Nat) => (AV.dat (List.length (List.getD ps i2 [])) (exs i2) (1 : Nat) (rowL (List.getD ps i2 [])))))) ((0 : Nat) + i1) (0 : Nat)) : Nat) : Int))))) i) : Nat) : Int))))))), ((7 : Nat), (Blk.c (AV.arr (List.length (Sp.ofBytes tag (partsL (List.length ps) (fun (i : Nat) => (AV.dat (List.length (List.getD ps i [])) (exs i) (1 : Nat) (rowL (List.getD ps i []))))))) (1 : Nat) (rowL (Sp.ofBytes tag (partsL (List.length ps) (fun (i : Nat) => (AV.dat (List.length (List.getD ps i [])) (exs i) (1 : Nat) (rowL (List.getD ps i []))))))))))] [(7 : Nat), (4 : Nat)])))))) := by kernel_rfl
theorem block_A (key : List Nat) (id i : Int) (K : Nat) (Φ : Ex → St → Prop) :
  (Holds C P 14 [] K Φ (vc C w_block b_block [] (start [.arr 32 1 (rowL key), .i id, .i i] []) lf)) =
  ((((0 : Int) ≤ (0 : Int)) ∧ (((0 : Int) ≤ (32 : Int)) ∧ ((32 : Int) ≤ (32 : Int)))) ∧
 (Fun W.C W.P (42 : Nat) [(AV.v (Value.int IntKind.i64 id))] [] (AV.sl (0 : Nat) [] (0 : Nat) (8 : Nat) (8 : Nat) false (1 : Nat)) [((0 : Nat), (Blk.c (AV.arr (8 : Nat) (1 : Nat) (fun (i1 : Nat) => (AV.v (Value.int IntKind.u8 (((Sp.eightN id i1) : Nat) : Int)))))))] ∧
 (Fun W.C W.P (42 : Nat) [(AV.v (Value.int IntKind.i64 i))] [] (AV.sl (0 : Nat) [] (0 : Nat) (8 : Nat) (8 : Nat) false (1 : Nat)) [((0 : Nat), (Blk.c (AV.arr (8 : Nat) (1 : Nat) (fun (i1 : Nat) => (AV.v (Value.int IntKind.u8 (((Sp.eightN i i1) : Nat) : Int)))))))] ∧
 (Fun W.C W.P (30 : Nat) [(AV.v (Value.int IntKind.u8 (83 : Int))), (AV.dat (3 : Nat) false (1 : Nat) (fun (i1 : Nat) => (nthD [(AV.dat (32 : Nat) false (1 : Nat) (fun (i2 : Nat) => (AV.v (Value.int IntKind.u8 (((List.getD key ((0 : Nat) + i2) (0 : Nat)) : Nat) : Int))))), (AV.dat (8 : Nat) false (1 : Nat) (fun (i2 : Nat) => (AV.v (Value.int IntKind.u8 (((Sp.eightN id ((0 : Nat) + i2)) : Nat) : Int))))), (AV.dat (8 : Nat) false (1 : Nat) (fun (i2 : Nat) => (AV.v (Value.int IntKind.u8 (((Sp.eightN i ((0 : Nat) + i2)) : Nat) : Int)))))] ((0 : Nat) + i1) (AV.v (Value.tuple (List.toArray []))))))] [] (AV.arr (32 : Nat) (1 : Nat) (fun (i1 : Nat) => (AV.v (Value.int IntKind.u8 (((Sp.sumN (Sp.ofBytes (83 : Nat) (partsL (3 : Nat) (fun (i2 : Nat) => (nthD [(AV.dat (32 : Nat) false (1 : Nat) (fun (i3 : Nat) => (AV.v (Value.int IntKind.u8 (((List.getD key ((0 : Nat) + i3) (0 : Nat)) : Nat) : Int))))), (AV.dat (8 : Nat) false (1 : Nat) (fun (i3 : Nat) => (AV.v (Value.int IntKind.u8 (((Sp.eightN id ((0 : Nat) + i3)) : Nat) : Int))))), (AV.dat (8 : Nat) false (1 : Nat) (fun (i3 : Nat) => (AV.v (Value.int IntKind.u8 (((Sp.eightN i ((0 : Nat) + i3)) : Nat) : Int)))))] ((0 : Nat) + i2) (AV.v (Value.tuple (List.toArray []))))))) i1) : Nat) : Int))))) [] ∧
 ((∀ (i1 : Nat), ((i1 < (32 : Nat)) → True)) ∧
 ((((32 : Nat) = (32 : Nat)) ∧ (((1 : Nat) = (1 : Nat)) ∧ (∀ (i1 : Nat), ((i1 < (32 : Nat)) → ((true = true) ∧ (Bool.true = true)))))) ∧
 (Φ Ex.ret (St.mk [((0 : Nat), (AV.arr (32 : Nat) (1 : Nat) (rowL key))), ((1 : Nat), (AV.v (Value.int IntKind.i64 id))), ((2 : Nat), (AV.v (Value.int IntKind.i64 i))), ((3 : Nat), (AV.ptr (3 : Nat) [])), ((6 : Nat), (AV.ptr (6 : Nat) []))] [((3 : Nat), (Blk.c (AV.arr (32 : Nat) (1 : Nat) (rowL key)))), ((6 : Nat), (Blk.c (AV.arr (32 : Nat) (1 : Nat) (fun (i1 : Nat) => (AV.v (Value.int IntKind.u8 (((Sp.sumN (Sp.ofBytes (83 : Nat) (partsL (3 : Nat) (fun (i2 : Nat) => (nthD [(AV.dat (32 : Nat) false (1 : Nat) (fun (i3 : Nat) => (AV.v (Value.int IntKind.u8 (((List.getD key ((0 : Nat) + i3) (0 : Nat)) : Nat) : Int))))), (AV.dat (8 : Nat) false (1 : Nat) (fun (i3 : Nat) => (AV.v (Value.int IntKind.u8 (((Sp.eightN id ((0 : Nat) + i3)) : Nat) : Int))))), (AV.dat (8 : Nat) false (1 : Nat) (fun (i3 : Nat) => (AV.v (Value.int IntKind.u8 (((Sp.eightN i ((0 : Nat) + i3)) : Nat) : Int)))))] ((0 : Nat) + i2) (AV.v (Value.tuple (List.toArray []))))))) i1) : Nat) : Int))))))), ((9 : Nat), (Blk.c (AV.arr (8 : Nat) (1 : Nat) (fun (i1 : Nat) => (AV.v (Value.int IntKind.u8 (((Sp.eightN id i1) : Nat) : Int))))))), ((11 : Nat), (Blk.c (AV.arr (8 : Nat) (1 : Nat) (fun (i1 : Nat) => (AV.v (Value.int IntKind.u8 (((Sp.eightN i i1) : Nat) : Int))))))), ((12 : Nat), (Blk.c (AV.st [(AV.sl (3 : Nat) [] (0 : Nat) (32 : Nat) (32 : Nat) true (1 : Nat)), (AV.sl (9 : Nat) [] (0 : Nat) (8 : Nat) (8 : Nat) false (1 : Nat)), (AV.sl (11 : Nat) [] (0 : Nat) (8 : Nat) (8 : Nat) false (1 : Nat))])))] [(12 : Nat), (11 : Nat), (9 : Nat), (6 : Nat), (3 : Nat)])))))))) := by kernel_rfl
theorem rstream_A (key : List Nat) (id n : Int) (K : Nat) (Φ : Ex → St → Prop) :
  (Holds C P 27 [] K Φ (vc C w_rstream b_rstream [] (start [.arr 32 1 (rowL key), .i id, .i n] []) lf)) =
  (LoopOK W.C W.P (27 : Nat) [] K (bodyAt b_rstream [1, 1, 0, 0]) (St.mk [((0 : Nat), (AV.arr (32 : Nat) (1 : Nat) (rowL key))), ((1 : Nat), (AV.v (Value.int IntKind.i64 id))), ((2 : Nat), (AV.v (Value.int IntKind.i64 n))), ((3 : Nat), (AV.ptr (3 : Nat) [])), ((6 : Nat), (AV.dat (0 : Nat) true (0 : Nat) (fun (x : Nat) => (AV.v (Value.tuple (List.toArray [])))))), ((7 : Nat), (AV.sl (9 : Nat) [] (0 : Nat) (0 : Nat) (0 : Nat) true (1 : Nat)))] [((3 : Nat), (Blk.c (AV.arr (32 : Nat) (1 : Nat) (rowL key)))), ((9 : Nat), (Blk.c (AV.st [])))] [(9 : Nat), (3 : Nat)]) (fun (e : Ex) (S' : St) => Holds W.C W.P (27 : Nat) [] K Φ (after W.C w_rstream b_rstream [1, 1, 0, 0] [] lf e S'))) := by kernel_rfl
noncomputable abbrev bd_rstream_0 : Code := bodyAt (b_rstream) [1, 1, 0, 0]
theorem ok_rstream_0 : codeOK bd_rstream_0 = true := by kernel_rfl
noncomputable abbrev rest_rstream_0 (K : Nat) (Φ : Ex → St → Prop) : Ex → St → Prop := fun e S' => Holds C P 27 [] K Φ (after C w_rstream (b_rstream) [1, 1, 0, 0] [] lf e S')
theorem rstream_L0 (key : List Nat) (id n : Int) (i : Nat) (K : Nat) (Φ : Ex → St → Prop) :
  (Holds C P 27 [] K (RoundQ C 27 [] K (I_rt0 key id n) (fun i => 32 * i ≤ n.toNat + 31) (fun i => n.toNat + 31 - 32 * i) ((fun i => n.toNat + 31 - 32 * i) (i)) (rest_rstream_0 K Φ)) (vc C w_rstream bd_rstream_0 [] ((I_rt0 key id n) (i)) lf)) =
  (((decide (((((32 : Nat) * i) : Nat) : Int) < n)) = true → 
 (((32 : Int) ≠ (0 : Int)) ∧
  ((I64 (((((32 : Nat) * i) / 32) : Nat) : Int)) ∧
  (Fun W.C W.P (34 : Nat) [(AV.arr (32 : Nat) (1 : Nat) (rowL key)), (AV.v (Value.int IntKind.i64 id)), (AV.v (Value.int IntKind.i64 (((((32 : Nat) * i) / 32) : Nat) : Int)))] [] (AV.arr (32 : Nat) (1 : Nat) (fun (i1 : Nat) => (AV.v (Value.int IntKind.u8 (((Sp.sumN (Sp.ofBytes (83 : Nat) ((bytesL (32 : Nat) (rowL key)) :: ((Sp.eightL id) :: ((Sp.eightL (((((32 : Nat) * i) / 32) : Nat) : Int)) :: [])))) i1) : Nat) : Int))))) [] ∧
  ((∀ (i1 : Nat), ((i1 < (32 : Nat)) → True)) ∧
  ((((32 : Nat) = (32 : Nat)) ∧ (((1 : Nat) = (1 : Nat)) ∧ (∀ (i1 : Nat), ((i1 < (32 : Nat)) → ((true = true) ∧ (Bool.true = true)))))) ∧
  ((((0 : Int) ≤ (0 : Int)) ∧ (((0 : Int) ≤ (32 : Int)) ∧ ((32 : Int) ≤ (32 : Int)))) ∧
  ((((((32 : Nat) * i) + (32 : Nat)) * (1 : Nat)) ≤ (140737488355328 : Nat)) ∧
  ((RoundQ C 27 [] K (I_rt0 key id n) (fun i => 32 * i ≤ n.toNat + 31) (fun i => n.toNat + 31 - 32 * i) ((fun i => n.toNat + 31 - 32 * i) (i)) (rest_rstream_0 K Φ)) Ex.normal (St.mk [((1 : Nat), (AV.v (Value.int IntKind.i64 id))), ((2 : Nat), (AV.v (Value.int IntKind.i64 n))), ((3 : Nat), (AV.ptr (3 : Nat) [])), ((7 : Nat), (AV.sl (22 : Nat) [] (0 : Nat) (((32 : Nat) * i) + (32 : Nat)) (((32 : Nat) * i) + (32 : Nat)) false (1 : Nat))), ((8 : Nat), (AV.ptr (8 : Nat) [])), ((13 : Nat), (AV.v (Value.bool true)))] [((3 : Nat), (Blk.c (AV.arr (32 : Nat) (1 : Nat) (rowL key)))), ((8 : Nat), (Blk.c (AV.arr (32 : Nat) (1 : Nat) (fun (i1 : Nat) => (AV.v (Value.int IntKind.u8 (((Sp.sumN (Sp.ofBytes (83 : Nat) ((bytesL (32 : Nat) (rowL key)) :: ((Sp.eightL id) :: ((Sp.eightL (((((32 : Nat) * i) / 32) : Nat) : Int)) :: [])))) i1) : Nat) : Int))))))), ((22 : Nat), (Blk.c (AV.arr (((32 : Nat) * i) + (32 : Nat)) (1 : Nat) (cat ((32 : Nat) * i) (fun (i1 : Nat) => (AV.v (Value.int IntKind.u8 (((W.streamN key id ((32 : Nat) * i) ((0 : Nat) + i1)) : Nat) : Int)))) (fun (i1 : Nat) => (AV.v (Value.int IntKind.u8 (((Sp.sumN (Sp.ofBytes (83 : Nat) ((bytesL (32 : Nat) (rowL key)) :: ((Sp.eightL id) :: ((Sp.eightL (((((32 : Nat) * i) / 32) : Nat) : Int)) :: [])))) ((0 : Nat) + i1)) : Nat) : Int))))))))] [(22 : Nat), (8 : Nat), (3 : Nat), (7 : Nat)])))))))))) ∧
 ((decide (((((32 : Nat) * i) : Nat) : Int) < n)) = false → 
 ((((0 : Int) ≤ (0 : Int)) ∧ (((0 : Int) ≤ (Max.max n (0 : Int))) ∧ ((Max.max n (0 : Int)) ≤ ((((32 : Nat) * i) : Nat) : Int)))) ∧
  (Φ Ex.ret (St.mk [((1 : Nat), (AV.v (Value.int IntKind.i64 id))), ((2 : Nat), (AV.v (Value.int IntKind.i64 n))), ((3 : Nat), (AV.ptr (3 : Nat) [])), ((6 : Nat), (AV.sl (7 : Nat) [] (0 : Nat) (Int.toNat (Max.max n (0 : Int))) ((32 : Nat) * i) false (1 : Nat))), ((7 : Nat), (AV.sl (7 : Nat) [] (0 : Nat) ((32 : Nat) * i) ((32 : Nat) * i) false (1 : Nat))), ((13 : Nat), (AV.v (Value.bool false)))] [((3 : Nat), (Blk.c (AV.arr (32 : Nat) (1 : Nat) (rowL key)))), ((7 : Nat), (Blk.c (AV.arr ((32 : Nat) * i) (1 : Nat) (fun (i1 : Nat) => (AV.v (Value.int IntKind.u8 (((W.streamN key id ((32 : Nat) * i) i1) : Nat) : Int)))))))] [(3 : Nat), (7 : Nat)]))))) := by kernel_rfl

theorem rsum_call {n e : Nat} {ex : Bool} {f : Nat → AV} (hb : B8 n f) (he : n = 0 ∨ e = 1) (hn : n < 2 ^ 46) : Fun C P F_rsum [.dat n ex e f] [] (sumAV (bytesL n f)) [] := by
  have h := rsum_fun ex (bytesL n f) (small_bytesL hb) (by rw [bytesL_len]; exact hn)
  refine h.sim ⟨.inr ⟨(bytesL_len n f).symm, id, he, fun i hi => .inl (row_bytesL hb i hi)⟩, trivial⟩ trivial
theorem parts_dat {exs : Nat → Bool} (ps : List (List Nat)) : partsL ps.length (fun i2 => AV.dat (ps.getD i2 []).length (exs i2) 1 (rowL (ps.getD i2 []))) = ps := by
  apply List.ext_getElem
  · simp [partsL]
  · intro i h1 h2
    have e : ps.getD i [] = ps[i] := by rw [List.getD_eq_getElem?_getD, List.getElem?_eq_getElem h2]; rfl
    simp only [partsL, List.getElem_map, List.getElem_range, datL]
    rw [e, bytesL_row]
theorem rof_fun (tag : Nat) (ex : Bool) (exs : Nat → Bool) (ps : List (List Nat)) (ht : tag < 256) (hp : ∀ p ∈ ps, Small p) (hn : (ofBytes tag ps).length < 2 ^ 46) :
    Fun C P F_rof [u8 tag, dp ex exs ps] [] (sumAV (ofBytes tag ps)) [] := by
  refine in_rof (W := w_rof) rfl 0 (by simp) rfl (fun id h => absurd rfl h) ?_
  refine of_eq (rof_A tag ex exs ps 0 _) ?_
  rw [parts_dat]
  have hb : B8 (ofBytes tag ps).length (fun i1 => u8 ((ofBytes tag ps).getD (0 + i1) 0)) := fun i _ => ⟨rfl, getD_small (small_ofBytes ht hp) _⟩
  have hl : bytesL (ofBytes tag ps).length (fun i1 => u8 ((ofBytes tag ps).getD (0 + i1) 0)) = ofBytes tag ps := bytesL_of rfl fun i _ => by rw [Nat.zero_add]
  have hs := rsum_call (ex := false) hb (.inr rfl) hn
  rw [hl] at hs ⊢
  exact ⟨bytes_fun tag ex exs ps hn, hs, fun _ _ => trivial, ⟨rfl, rfl, fun _ _ => ⟨rfl, rfl⟩⟩, post_cell rfl rfl (sm_same rfl) rfl⟩
theorem rof_call {tag n e : Nat} {ex : Bool} {f : Nat → AV} (ht : tag < 256) (hf : Parts n f) (he : n = 0 ∨ e = 1) (hn : (ofBytes tag (partsL n f)).length < 2 ^ 46) : Fun C P F_rof [u8 tag, .dat n ex e f] [] (sumAV (ofBytes tag (partsL n f))) [] := by
  have hlen : (partsL n f).length = n := by simp [partsL]
  have hget : ∀ i, i < n → (partsL n f).getD i [] = datL (f i) := fun i hi => by simp [partsL, List.getD_eq_getElem?_getD, hi]
  have hsm : ∀ p ∈ partsL n f, Small p := fun p hp => by
    obtain ⟨i, hi, rfl⟩ := List.mem_map.1 hp
    obtain ⟨m, ex, e, g, h1, h2, h3⟩ := hf i (List.mem_range.1 hi)
    rw [h1]
    exact small_bytesL h3
  have h := rof_fun tag ex (fun i => match f i with | .dat _ x _ _ => x | _ => false) (partsL n f) ht hsm hn
  refine h.sim ⟨sm_same rfl, .inr ⟨hlen.symm, id, he, fun i hi => .inr ?_⟩, trivial⟩ trivial
  obtain ⟨m, x, e', g, h1, h2, h3⟩ := hf i hi
  dsimp only
  rw [hget i hi, h1]
  exact ⟨(bytesL_len m g).symm, id, h2, fun j hj => .inl (row_bytesL h3 j hj)⟩
theorem block_fun (key : List Nat) (id i : Int) (hk : key.length = 32) (hs : Small key) (hid : I64 id) (hi : I64 i) : Fun C P F_block [.arr 32 1 (rowL key), .i id, .i i] [] (sumAV (ofBytes 83 [key, eightL id, eightL i])) [] := by
  refine in_block (W := w_block) rfl 0 (by simp) rfl (fun id h => absurd rfl h) ?_
  refine of_eq (block_A key id i 0 _) ?_
  have hof := rof_call (tag := 83) (ex := false) (e := 1) (by decide) (parts_blk (id := id) (i := i) hs) (.inr rfl) (by rw [partsL_blk hk]; simp [ofBytes, eightL, hk])
  rw [partsL_blk hk] at hof ⊢
  exact ⟨(by first | omega | decide | (unfold I64; omega)), reight_fun id hid, reight_fun i hi, hof, fun _ _ => trivial, ⟨rfl, rfl, fun _ _ => ⟨rfl, rfl⟩⟩, post_cell rfl rfl (sm_same rfl) rfl⟩
theorem rstream_fun (key : List Nat) (id n : Int) (hk : key.length = 32) (hs : Small key) (hid : I64 id) (hn : n.toNat < 2 ^ 40) :
    Fun C P F_rstream [.arr 32 1 (rowL key), .i id, .i n] [] (.sl 0 [] 0 n.toNat (upN n) false 1) [(0, .c (ab (upN n) (streamN key id (upN n))))] := by
  refine in_rstream (W := w_rstream) rfl 0 (by simp) rfl (fun id h => absurd rfl h) ?_
  refine of_eq (rstream_A key id n 0 _) ?_
  refine loop_inv (W := w_rstream) ctx mixed ok_rstream_0 (I_rt0 key id n) (fun i => 32 * i ≤ n.toNat + 31) (fun i => n.toNat + 31 - 32 * i) 0 (by omega) ?_ fun i hi => ?_
  · refine ent_of [(3, 3), (9, 7)] rfl (tm_cons rfl (sm_same rfl) (tm_cons rfl (sm_same rfl) (tm_cons rfl (sm_ptr rfl) (tm_cons rfl (sm_sl rfl rfl (Nat.le_refl _) (Nat.le_refl _) (by simp)) tm_nil)))) (hp_cons rfl rfl (sm_same rfl) (hp_cons rfl rfl (sm_row rfl rfl rfl fun i x hx => ?_) hp_nil))
    cases i with
    | zero => cases hx
    | succ i => cases hx
  refine of_eq (rstream_L0 key id n i 0 _) ⟨fun h => ?_, fun h => ?_⟩
  · simp only [decide_eq_true_eq] at h
    have hb1 : bytesL 32 (rowL key) = key := bytesL_of hk.symm fun _ _ => rfl
    rw [hb1, Nat.mul_div_cancel_left i (by decide : 0 < 32)]
    refine ⟨(by first | omega | decide | (unfold I64; omega)), (by first | omega | decide | (unfold I64; omega)), block_fun key id _ hk hs hid (by first | omega | decide | (unfold I64; omega)), fun _ _ => trivial, ⟨rfl, rfl, fun _ _ => ⟨rfl, rfl⟩⟩, (by first | omega | decide | (unfold I64; omega)), (by first | omega | decide | (unfold I64; omega)), round_end (i + 1) (by omega) (ent_of [(3, 3), (22, 7)] rfl (tm_cons rfl (sm_same rfl) (tm_cons rfl (sm_same rfl) (tm_cons rfl (sm_ptr rfl) (tm_cons rfl (sm_sl rfl (by omega) (by omega) (by omega) (by simp)) tm_nil)))) (hp_cons rfl rfl (sm_same rfl) (hp_cons rfl rfl (sm_arr' (by omega) fun j hj => ?_) hp_nil))) (by dsimp only; omega)⟩
    have hj' : j < 32 * i + 32 := hj
    show _ = u8 ((streamL key id (32 * (i + 1))).getD j 0)
    rw [streamL_get key id (by omega)]
    unfold cat
    by_cases e : j < 32 * i
    · rw [if_pos e]
      dsimp only
      unfold streamN
      rw [Nat.zero_add, streamL_get key id e]
    · rw [if_neg e]
      dsimp only
      rw [Nat.zero_add, show j / 32 = i by omega, show j % 32 = j - 32 * i by omega]
      exact (congrArg (fun z : Nat => u8 z) (sumL_get _ (by omega))).symm
  simp only [decide_eq_false_iff_not] at h
  have hL : 32 * i = upN n := by unfold upN; omega
  have hmx : (max n 0).toNat = n.toNat := by omega
  rw [hmx, hL]
  have hup : n.toNat ≤ upN n := by unfold upN; omega
  refine ⟨by omega, funPost_of (S2 := { tm := [(6, .sl 0 [] 0 n.toNat (upN n) false 1)], hp := [(0, .c (ab (upN n) (streamN key id (upN n))))], seen := [0] }) (by simp) (ent_of [(7, 0)] rfl (tm_cons rfl (sm_sl rfl rfl hup (Nat.le_refl _) (by simp)) tm_nil) (hp_cons rfl rfl (sm_same rfl) hp_nil)) rfl
      (.inr ⟨rfl, rfl, rfl, rfl, hup, Nat.le_refl _, by simp, rfl⟩) fun _ _ h => h⟩
end Go.Bu.W

namespace Go.Bu.W
open Sp
def crGrow : List AV → Option (AV × List (Nat × Blk))
  | [_, n] => some (.sl 0 [] 0 0 (asI n).toNat false 1, [(0, .c (zb (asI n).toNat))])
  | _ => none
def crConcat : List AV → Option (AV × List (Nat × Blk))
  | [.dat n _ _ f] => some (ownB (partsL n f).flatten)
  | _ => none
def crG (g : Nat) (args : List AV) (H : List (Nat × Blk)) : Option (AV × List (Nat × Blk)) :=
  sel (Nat.beq g F_grow) (crGrow args) <| sel (Nat.beq g F_concat) (crConcat args) <| crRef g args H
def wayG (keep : List Nat) (nt : Nat) (cuts : List Nat) : Way := ⟨crG, fun _ => false, keep, [33], nt, cuts⟩
def w_grow : Way := wayG [0, 1, 4, 6, 16] 27 []
def w_concat : Way := wayG [0, 2, 3, 5, 6, 8, 9, 10, 11, 12, 20, 25, 26, 27, 28] 36 []
def I_cc0 (ex : Bool) (exs : Nat → Bool) (ps : List (List Nat)) (i : Nat) : St := { tm := [(0, dp ex exs ps), (3, i64 (ps.take i).flatten.length), (9, dp ex exs ps), (10, i64 ps.length), (11, i64 i)], hp := [], seen := [] }
def fillN (ps : List (List Nat)) (i j : Nat) : Nat := (ps.take i).flatten.getD j 0
def I_cc1 (ex : Bool) (exs : Nat → Bool) (ps : List (List Nat)) (i : Nat) : St := { tm := [(6, .sl 6 [] 0 (ps.take i).flatten.length ps.flatten.length false 1), (25, dp ex exs ps), (26, i64 ps.length), (27, i64 i)], hp := [(6, .c (ab ps.flatten.length (fillN ps i)))], seen := [6] }

theorem grow_A (n : Nat) (K : Nat) (Φ : Ex → St → Prop) :
  (Holds C P 27 [] K Φ (vc C w_grow b_grow [] (start [.dat 0 true 0 (fun _ => .v (.tuple #[])), i64 n] []) lf)) =
  (((decide (((n : Nat) : Int) < (0 : Int))) = true → 
 (Holds W.C W.P (27 : Nat) [] K Φ (VC.fail (5 : Nat)))) ∧
 ((decide (((n : Nat) : Int) < (0 : Int))) = false → 
 ((I64 (0 : Int)) ∧
  ((I64 (((n : Nat) : Int) - (0 : Int))) ∧
  (((decide ((((n : Nat) : Int) - (0 : Int)) > (0 : Int))) = true → 
  ((((0 : Nat) = (0 : Nat)) ∧ ((true = true) ∧ (((0 : Int) ≤ (0 : Int)) ∧ (((0 : Int) ≤ (0 : Int)) ∧ ((0 : Int) ≤ (0 : Int)))))) ∧
   ((((0 : Int) ≤ (((n : Nat) : Int) - (0 : Int))) ∧ (((Int.toNat (((n : Nat) : Int) - (0 : Int))) * (1 : Nat)) ≤ (140737488355328 : Nat))) ∧
   ((((Int.toNat (((n : Nat) : Int) - (0 : Int))) * (1 : Nat)) ≤ (140737488355328 : Nat)) ∧
   ((((0 : Int) ≤ (0 : Int)) ∧ (((0 : Int) ≤ (0 : Int)) ∧ ((0 : Int) ≤ (((Int.toNat (((n : Nat) : Int) - (0 : Int))) : Nat) : Int)))) ∧
   (Φ Ex.ret (St.mk [((0 : Nat), (AV.sl (22 : Nat) [] (0 : Nat) (0 : Nat) (Int.toNat (((n : Nat) : Int) - (0 : Int))) false (1 : Nat))), ((1 : Nat), (AV.v (Value.int IntKind.i64 (((n : Nat) : Int) - (0 : Int))))), ((4 : Nat), (AV.sl (22 : Nat) [] (0 : Nat) (0 : Nat) (Int.toNat (((n : Nat) : Int) - (0 : Int))) false (1 : Nat))), ((6 : Nat), (AV.v (Value.bool false))), ((16 : Nat), (AV.v (Value.bool true)))] [((22 : Nat), (Blk.c (AV.arr (Int.toNat (((n : Nat) : Int) - (0 : Int))) (1 : Nat) (fun (x : Nat) => (AV.v (Value.int IntKind.u8 (0 : Int)))))))] [(22 : Nat)]))))))) ∧
  ((decide ((((n : Nat) : Int) - (0 : Int)) > (0 : Int))) = false → 
  (Φ Ex.ret (St.mk [((0 : Nat), (AV.dat (0 : Nat) true (0 : Nat) (fun (x : Nat) => (AV.v (Value.tuple (List.toArray [])))))), ((1 : Nat), (AV.v (Value.int IntKind.i64 (((n : Nat) : Int) - (0 : Int))))), ((4 : Nat), (AV.dat (0 : Nat) true (0 : Nat) (fun (x : Nat) => (AV.v (Value.tuple (List.toArray [])))))), ((6 : Nat), (AV.v (Value.bool false))), ((16 : Nat), (AV.v (Value.bool false)))] [] [])))))))) := by kernel_rfl
theorem concat_A (ex : Bool) (exs : Nat → Bool) (ps : List (List Nat)) (K : Nat) (Φ : Ex → St → Prop) :
  (Holds C P 36 [] K Φ (vc C w_concat b_concat [] (start [dp ex exs ps] []) lf)) =
  (LoopOK W.C W.P (36 : Nat) [] K (bodyAt b_concat [1, 1, 0, 1, 0]) (St.mk [((0 : Nat), (AV.dat (List.length ps) ex (1 : Nat) (fun (i : Nat) => (AV.dat (List.length (List.getD ps i [])) (exs i) (1 : Nat) (rowL (List.getD ps i [])))))), ((2 : Nat), (AV.dat (0 : Nat) true (0 : Nat) (fun (x : Nat) => (AV.v (Value.tuple (List.toArray [])))))), ((3 : Nat), (AV.v (Value.int IntKind.i64 (0 : Int)))), ((9 : Nat), (AV.dat (List.length ps) ex (1 : Nat) (fun (i : Nat) => (AV.dat (List.length (List.getD ps i [])) (exs i) (1 : Nat) (rowL (List.getD ps i [])))))), ((10 : Nat), (AV.v (Value.int IntKind.i64 (((List.length ps) : Nat) : Int)))), ((11 : Nat), (AV.v (Value.int IntKind.i64 (0 : Int))))] [] []) (fun (e : Ex) (S' : St) => Holds W.C W.P (36 : Nat) [] K Φ (after W.C w_concat b_concat [1, 1, 0, 1, 0] [] lf e S'))) := by kernel_rfl
noncomputable abbrev bd_concat_0 : Code := bodyAt (b_concat) [1, 1, 0, 1, 0]
theorem ok_concat_0 : codeOK bd_concat_0 = true := by kernel_rfl
noncomputable abbrev rest_concat_0 (K : Nat) (Φ : Ex → St → Prop) : Ex → St → Prop := fun e S' => Holds C P 36 [] K Φ (after C w_concat (b_concat) [1, 1, 0, 1, 0] [] lf e S')
theorem concat_L0 (ex : Bool) (exs : Nat → Bool) (ps : List (List Nat)) (i : Nat) (K : Nat) (Φ : Ex → St → Prop) :
  (Holds C P 36 [] K (RoundQ C 36 [] K (I_cc0 ex exs ps) (fun i => i ≤ ps.length) (fun i => ps.length - i) ((fun i => ps.length - i) (i)) (rest_concat_0 K Φ)) (vc C w_concat bd_concat_0 [] ((I_cc0 ex exs ps) (i)) lf)) =
  (((decide (((i : Nat) : Int) < (((List.length ps) : Nat) : Int))) = true → 
 ((((0 : Int) ≤ ((i : Nat) : Int)) ∧ (((i : Nat) : Int) < (((List.length ps) : Nat) : Int))) ∧
  ((I64 ((((List.length (List.flatten (List.take i ps))) + (List.length (List.getD ps i []))) : Nat) : Int)) ∧
  (((decide (((((List.length (List.flatten (List.take i ps))) + (List.length (List.getD ps i []))) : Nat) : Int) < (0 : Int))) = true → 
  (Holds W.C W.P (36 : Nat) [] K (RoundQ W.C (36 : Nat) [] K (W.I_cc0 ex exs ps) (fun (i1 : Nat) => (i1 ≤ (List.length ps))) (fun (i1 : Nat) => ((List.length ps) - i1)) ((List.length ps) - i) (W.rest_concat_0 K Φ)) (VC.fail (5 : Nat)))) ∧
  ((decide (((((List.length (List.flatten (List.take i ps))) + (List.length (List.getD ps i []))) : Nat) : Int) < (0 : Int))) = false → 
  ((I64 (((i + 1) : Nat) : Int)) ∧
   ((RoundQ C 36 [] K (I_cc0 ex exs ps) (fun i => i ≤ ps.length) (fun i => ps.length - i) ((fun i => ps.length - i) (i)) (rest_concat_0 K Φ)) Ex.normal (St.mk [((0 : Nat), (AV.dat (List.length ps) ex (1 : Nat) (fun (i1 : Nat) => (AV.dat (List.length (List.getD ps i1 [])) (exs i1) (1 : Nat) (rowL (List.getD ps i1 [])))))), ((3 : Nat), (AV.v (Value.int IntKind.i64 ((((List.length (List.flatten (List.take i ps))) + (List.length (List.getD ps i []))) : Nat) : Int)))), ((5 : Nat), (AV.dat (List.length (List.getD ps i [])) (exs i) (1 : Nat) (rowL (List.getD ps i [])))), ((9 : Nat), (AV.dat (List.length ps) ex (1 : Nat) (fun (i1 : Nat) => (AV.dat (List.length (List.getD ps i1 [])) (exs i1) (1 : Nat) (rowL (List.getD ps i1 [])))))), ((10 : Nat), (AV.v (Value.int IntKind.i64 (((List.length ps) : Nat) : Int)))), ((11 : Nat), (AV.v (Value.int IntKind.i64 (((i + 1) : Nat) : Int)))), ((12 : Nat), (AV.v (Value.bool true))), ((20 : Nat), (AV.v (Value.bool false)))] [] [])))))))) ∧
 ((decide (((i : Nat) : Int) < (((List.length ps) : Nat) : Int))) = false → 
 (Fun W.C W.P (38 : Nat) [(AV.dat (0 : Nat) true (0 : Nat) (fun (x : Nat) => (AV.v (Value.tuple (List.toArray []))))), (AV.v (Value.int IntKind.i64 (((List.length (List.flatten (List.take i ps))) : Nat) : Int)))] [] (AV.sl (0 : Nat) [] (0 : Nat) (0 : Nat) (Int.toNat (((List.length (List.flatten (List.take i ps))) : Nat) : Int)) false (1 : Nat)) [((0 : Nat), (Blk.c (AV.arr (Int.toNat (((List.length (List.flatten (List.take i ps))) : Nat) : Int)) (1 : Nat) (fun (x : Nat) => (AV.v (Value.int IntKind.u8 (0 : Int)))))))] ∧
  (LoopOK W.C W.P (36 : Nat) [] K (bodyAt b_concat [1, 1, 1, 1, 0, 1, 0]) (St.mk [((0 : Nat), (AV.dat (List.length ps) ex (1 : Nat) (fun (i1 : Nat) => (AV.dat (List.length (List.getD ps i1 [])) (exs i1) (1 : Nat) (rowL (List.getD ps i1 [])))))), ((3 : Nat), (AV.v (Value.int IntKind.i64 (((List.length (List.flatten (List.take i ps))) : Nat) : Int)))), ((6 : Nat), (AV.sl (24 : Nat) [] (0 : Nat) (0 : Nat) (Int.toNat (((List.length (List.flatten (List.take i ps))) : Nat) : Int)) false (1 : Nat))), ((9 : Nat), (AV.dat (List.length ps) ex (1 : Nat) (fun (i1 : Nat) => (AV.dat (List.length (List.getD ps i1 [])) (exs i1) (1 : Nat) (rowL (List.getD ps i1 [])))))), ((10 : Nat), (AV.v (Value.int IntKind.i64 (((List.length ps) : Nat) : Int)))), ((11 : Nat), (AV.v (Value.int IntKind.i64 ((i : Nat) : Int)))), ((12 : Nat), (AV.v (Value.bool false))), ((25 : Nat), (AV.dat (List.length ps) ex (1 : Nat) (fun (i1 : Nat) => (AV.dat (List.length (List.getD ps i1 [])) (exs i1) (1 : Nat) (rowL (List.getD ps i1 [])))))), ((26 : Nat), (AV.v (Value.int IntKind.i64 (((List.length ps) : Nat) : Int)))), ((27 : Nat), (AV.v (Value.int IntKind.i64 (0 : Int))))] [((24 : Nat), (Blk.c (AV.arr (Int.toNat (((List.length (List.flatten (List.take i ps))) : Nat) : Int)) (1 : Nat) (fun (x : Nat) => (AV.v (Value.int IntKind.u8 (0 : Int)))))))] [(24 : Nat)]) (fun (e : Ex) (S' : St) => Holds W.C W.P (36 : Nat) [] K Φ (after W.C w_concat b_concat [1, 1, 1, 1, 0, 1, 0] [] lf e S')))))) := by kernel_rfl
noncomputable abbrev bd_concat_1 : Code := bodyAt (b_concat) [1, 1, 1, 1, 0, 1, 0]
theorem ok_concat_1 : codeOK bd_concat_1 = true := by kernel_rfl
noncomputable abbrev rest_concat_1 (K : Nat) (Φ : Ex → St → Prop) : Ex → St → Prop := fun e S' => Holds C P 36 [] K Φ (after C w_concat (b_concat) [1, 1, 1, 1, 0, 1, 0] [] lf e S')
theorem concat_L1 (ex : Bool) (exs : Nat → Bool) (ps : List (List Nat)) (i : Nat) (K : Nat) (Φ : Ex → St → Prop) :
  (Holds C P 36 [] K (RoundQ C 36 [] K (I_cc1 ex exs ps) (fun i => i ≤ ps.length) (fun i => ps.length - i) ((fun i => ps.length - i) (i)) (rest_concat_1 K Φ)) (vc C w_concat bd_concat_1 [] ((I_cc1 ex exs ps) (i)) lf)) =
  (((decide (((i : Nat) : Int) < (((List.length ps) : Nat) : Int))) = true → 
 ((((0 : Int) ≤ ((i : Nat) : Int)) ∧ (((i : Nat) : Int) < (((List.length ps) : Nat) : Int))) ∧
  ((((List.length (List.flatten (List.take i ps))) + (List.length (List.getD ps i []))) ≤ (List.length (List.flatten ps))) ∧
  ((∀ (i1 : Nat), ((i1 < (List.length (List.getD ps i []))) → ((Bool.true = true) ∧ (Bool.true = true)))) ∧
  ((I64 (((i + 1) : Nat) : Int)) ∧
  ((RoundQ C 36 [] K (I_cc1 ex exs ps) (fun i => i ≤ ps.length) (fun i => ps.length - i) ((fun i => ps.length - i) (i)) (rest_concat_1 K Φ)) Ex.normal (St.mk [((6 : Nat), (AV.sl (6 : Nat) [] (0 : Nat) ((List.length (List.flatten (List.take i ps))) + (List.length (List.getD ps i []))) (List.length (List.flatten ps)) false (1 : Nat))), ((8 : Nat), (AV.dat (List.length (List.getD ps i [])) (exs i) (1 : Nat) (rowL (List.getD ps i [])))), ((25 : Nat), (AV.dat (List.length ps) ex (1 : Nat) (fun (i1 : Nat) => (AV.dat (List.length (List.getD ps i1 [])) (exs i1) (1 : Nat) (rowL (List.getD ps i1 [])))))), ((26 : Nat), (AV.v (Value.int IntKind.i64 (((List.length ps) : Nat) : Int)))), ((27 : Nat), (AV.v (Value.int IntKind.i64 (((i + 1) : Nat) : Int)))), ((28 : Nat), (AV.v (Value.bool true)))] [((6 : Nat), (Blk.c (AV.arr (List.length (List.flatten ps)) (1 : Nat) (lay ((0 : Nat) + (List.length (List.flatten (List.take i ps)))) (List.length (List.getD ps i [])) (fun (i1 : Nat) => (AV.v (Value.int IntKind.u8 (((W.fillN ps i i1) : Nat) : Int)))) (rowL (List.getD ps i []))))))] [(6 : Nat)]))))))) ∧
 ((decide (((i : Nat) : Int) < (((List.length ps) : Nat) : Int))) = false → 
 (Φ Ex.ret (St.mk [((2 : Nat), (AV.sl (6 : Nat) [] (0 : Nat) (List.length (List.flatten (List.take i ps))) (List.length (List.flatten ps)) false (1 : Nat))), ((6 : Nat), (AV.sl (6 : Nat) [] (0 : Nat) (List.length (List.flatten (List.take i ps))) (List.length (List.flatten ps)) false (1 : Nat))), ((25 : Nat), (AV.dat (List.length ps) ex (1 : Nat) (fun (i1 : Nat) => (AV.dat (List.length (List.getD ps i1 [])) (exs i1) (1 : Nat) (rowL (List.getD ps i1 [])))))), ((26 : Nat), (AV.v (Value.int IntKind.i64 (((List.length ps) : Nat) : Int)))), ((27 : Nat), (AV.v (Value.int IntKind.i64 ((i : Nat) : Int)))), ((28 : Nat), (AV.v (Value.bool false)))] [((6 : Nat), (Blk.c (AV.arr (List.length (List.flatten ps)) (1 : Nat) (fun (i1 : Nat) => (AV.v (Value.int IntKind.u8 (((W.fillN ps i i1) : Nat) : Int)))))))] [(6 : Nat)])))) := by kernel_rfl

theorem grow_fun (n : Nat) (hn : n < 2 ^ 46) : Fun C P F_grow [.dat 0 true 0 (fun _ => .v (.tuple #[])), i64 n] [] (.sl 0 [] 0 0 n false 1) [(0, .c (zb n))] := by
  refine in_grow (W := w_grow) rfl 0 (by simp) rfl (fun id h => absurd rfl h) ?_
  refine of_eq (grow_A n 0 _) ?_
  have hz : (((n : Nat) : Int) - 0).toNat = n := by omega
  rw [hz]
  refine ⟨fun h => ?_, fun _ => ⟨(by first | omega | decide | (unfold I64; omega)), (by first | omega | decide | (unfold I64; omega)), fun _ => ⟨⟨rfl, rfl, (by first | omega | decide | (unfold I64; omega))⟩, (by first | omega | decide | (unfold I64; omega)), (by first | omega | decide | (unfold I64; omega)), (by first | omega | decide | (unfold I64; omega)), ?_⟩, fun h => ?_⟩⟩
  · simp only [decide_eq_true_eq] at h
    omega
  · exact funPost_of (S2 := { tm := [(4, .sl 0 [] 0 0 n false 1)], hp := [(0, .c (zb n))], seen := [0] }) (by simp) (ent_of [(22, 0)] rfl (tm_cons rfl (sm_sl rfl rfl (Nat.zero_le _) (Nat.le_refl _) (by simp)) tm_nil) (hp_cons rfl rfl (sm_same rfl) hp_nil)) rfl
      (.inr ⟨rfl, rfl, rfl, rfl, Nat.zero_le _, Nat.le_refl _, by simp, rfl⟩) fun _ _ h => h
  · simp only [gt_iff_lt, decide_eq_false_iff_not] at h
    obtain rfl : n = 0 := by omega
    exact funPost_of (S2 := { tm := [(4, .sl 0 [] 0 0 0 false 1)], hp := [(0, .c (zb 0))], seen := [0] }) (by simp) (ent_of [] rfl (tm_cons rfl (sm_nil rfl rfl) tm_nil) (hp_new rfl rfl hp_nil)) rfl
      (.inr ⟨rfl, rfl, rfl, rfl, Nat.zero_le _, Nat.le_refl _, by simp, rfl⟩) fun _ _ h => h

theorem take_flat {ps : List (List Nat)} {i : Nat} (hi : i < ps.length) : (ps.take (i + 1)).flatten = (ps.take i).flatten ++ ps.getD i [] := by
  have e : ps[i]? = some (ps.getD i []) := by rw [List.getD_eq_getElem?_getD, List.getElem?_eq_getElem hi]; rfl
  rw [List.take_add_one, e]
  simp
theorem take_len (ps : List (List Nat)) (i : Nat) : (ps.take i).flatten.length ≤ ps.flatten.length := by
  have : ps.flatten = (ps.take i).flatten ++ (ps.drop i).flatten := by rw [← List.flatten_append, List.take_append_drop]
  rw [this, List.length_append]
  omega
theorem concat_fun (ex : Bool) (exs : Nat → Bool) (ps : List (List Nat)) (hl : ps.length < 2 ^ 46) (hn : ps.flatten.length < 2 ^ 46) : Fun C P F_concat [dp ex exs ps] [] (ownB ps.flatten).1 (ownB ps.flatten).2 := by
  refine in_concat (W := w_concat) rfl 0 (by simp) rfl (fun id h => absurd rfl h) ?_
  refine of_eq (concat_A ex exs ps 0 _) ?_
  refine loop_inv (W := w_concat) ctx mixed ok_concat_0 (I_cc0 ex exs ps) (fun i => i ≤ ps.length) (fun i => ps.length - i) 0 (Nat.zero_le _) ?_ fun i hi => ?_
  · exact ent_of [] rfl (tm_cons rfl (sm_same rfl) (tm_cons rfl (sm_same rfl) (tm_cons rfl (sm_same rfl) (tm_cons rfl (sm_same rfl) (tm_cons rfl (sm_same rfl) tm_nil))))) hp_nil
  have ht := take_len ps
  refine of_eq (concat_L0 ex exs ps i 0 _) ⟨fun h => ?_, fun h => ?_⟩
  · simp only [decide_eq_true_eq] at h
    have hs := congrArg List.length (take_flat (ps := ps) (i := i) (by omega))
    rw [List.length_append] at hs
    have h1 := ht (i + 1)
    refine ⟨(by first | omega | decide | (unfold I64; omega)), (by first | omega | decide | (unfold I64; omega)), fun h2 => ?_, fun _ => ⟨(by first | omega | decide | (unfold I64; omega)), round_end (i + 1) (by omega) (ent_of [] rfl (tm_cons rfl (sm_same rfl) (tm_cons rfl (sm_int (by omega)) (tm_cons rfl (sm_same rfl) (tm_cons rfl (sm_same rfl) (tm_cons rfl (sm_same rfl) tm_nil))))) hp_nil) (by dsimp only; omega)⟩⟩
    simp only [decide_eq_true_eq] at h2
    omega
  simp only [decide_eq_false_iff_not] at h
  obtain rfl : i = ps.length := by omega
  clear h
  rw [List.take_length]
  refine ⟨grow_fun _ hn, ?_⟩
  refine loop_inv (W := w_concat) ctx mixed ok_concat_1 (I_cc1 ex exs ps) (fun i => i ≤ ps.length) (fun i => ps.length - i) 0 (Nat.zero_le _) ?_ fun i hi => ?_
  · exact ent_of [(24, 6)] rfl (tm_cons rfl (sm_sl rfl rfl (Nat.zero_le _) (Nat.le_refl _) (by simp)) (tm_cons rfl (sm_same rfl) (tm_cons rfl (sm_same rfl) (tm_cons rfl (sm_same rfl) tm_nil)))) (hp_cons rfl rfl (sm_arr' rfl fun j _ => rfl) hp_nil)
  refine of_eq (concat_L1 ex exs ps i 0 _) ⟨fun h => ?_, fun h => ?_⟩
  · simp only [decide_eq_true_eq] at h
    have hf := take_flat (ps := ps) (i := i) (by omega)
    have hs := congrArg List.length hf
    rw [List.length_append] at hs
    have h1 := ht (i + 1)
    refine ⟨(by first | omega | decide | (unfold I64; omega)), by omega, fun _ _ => ⟨rfl, rfl⟩, (by first | omega | decide | (unfold I64; omega)), round_end (i + 1) (by omega) (ent_of [(6, 6)] rfl (tm_cons rfl (sm_sl rfl (by omega) (by omega) (Nat.le_refl _) (by simp)) (tm_cons rfl (sm_same rfl) (tm_cons rfl (sm_same rfl) (tm_cons rfl (sm_same rfl) tm_nil)))) (hp_cons rfl rfl (sm_arr' rfl fun j hj => ?_) hp_nil)) (by dsimp only; omega)⟩
    show _ = u8 ((ps.take (i + 1)).flatten.getD j 0)
    rw [hf, getD_append]
    unfold lay
    by_cases e : j < (ps.take i).flatten.length
    · rw [if_pos (by omega), if_pos e]; rfl
    · rw [if_neg (by omega), if_neg e]
      by_cases e2 : j < (ps.take i).flatten.length + (ps.getD i []).length
      · rw [if_pos (by omega), Nat.zero_add]; rfl
      · rw [if_neg (by omega)]
        have a1 : (ps.take i).flatten.getD j 0 = 0 := by rw [List.getD_eq_getElem?_getD, List.getElem?_eq_none (by omega)]; rfl
        have a2 : (ps.getD i []).getD (j - (ps.take i).flatten.length) 0 = 0 := by rw [List.getD_eq_getElem?_getD, List.getElem?_eq_none (by omega)]; rfl
        rw [a2]
        exact congrArg (fun z : Nat => u8 z) a1
  simp only [decide_eq_false_iff_not] at h
  obtain rfl : i = ps.length := by omega
  have hfin : fillN ps ps.length = fun j => ps.flatten.getD j 0 := by
    unfold fillN
    rw [List.take_length]
  rw [List.take_length, hfin]
  exact funPost_of (S2 := { tm := [(2, (ownB ps.flatten).1)], hp := (ownB ps.flatten).2, seen := [0] }) (by simp) (ent_of [(6, 0)] rfl (tm_cons rfl (sm_sl rfl rfl (Nat.le_refl _) (Nat.le_refl _) (by simp)) tm_nil) (hp_cons rfl rfl (sm_same rfl) hp_nil)) rfl
      (.inr ⟨rfl, rfl, rfl, rfl, Nat.le_refl _, Nat.le_refl _, by simp, rfl⟩) fun _ _ h => h
end Go.Bu.W

