/- The reference's hash. -/
import Derived.Test.YtfhdnaonihhjjaaDoorKR2
import Derived.Test.YtfhdnaonihhjjaaDoorK10
namespace Go.Bu.W
open Sp
def w_rsum : Way := wayS [0, 2, 3, 4, 5, 6, 7, 8, 9, 10, 11, 12, 22, 39, 43, 47, 79, 89] 105 [5,24]
def tail0 (l : List Nat) (i : Nat) : Nat := if i < l.length then l.getD i 0 else if i = l.length then 6 else 0
def padLen (l : List Nat) : Nat := 136 * (l.length / 136 + 1)
def padN (l : List Nat) (i : Nat) : Nat := tail0 l i + (if i = 136 * (l.length / 136) + 135 then 128 else 0)
def stR (l : List Nat) : Nat → Nat → Nat
  | 0 => fun _ => 0
  | m + 1 => mixN (stR l m) (fun i => padN l (136 * m + i)) 136
def absR (a b : Nat → Nat) (from' i p : Nat) : Nat := if p < i then a p ^^^ wN b (from' + 8 * p) 8 else a p
def I_rs0 (l : List Nat) (n : Nat) : St := { tm := [(2, .ptr 2 []), (3, .sl 3 [] 0 n n false 1)], hp := [(2, .c (zb 32)), (3, .c (ab n (tail0 l)))], seen := [2, 3] }
def S_rs5 (l : List Nat) : St := I_rs0 l (padLen l)
def I_rs1 (l : List Nat) (m : Nat) : St := { tm := [(2, .ptr 2 []), (3, .sl 3 [] 0 (padLen l) (padLen l) false 1), (4, .ptr 4 []), (5, .ptr 5 []), (6, i64 (136 * m))], hp := [(2, .c (zb 32)), (3, .c (ab (padLen l) (padN l))), (4, .c (refArr (stR l m))), (5, .c wordsR)], seen := [2, 3, 4, 5] }
def I_rs2 (l : List Nat) (m i : Nat) : St := { tm := [(2, .ptr 2 []), (3, .sl 3 [] 0 (padLen l) (padLen l) false 1), (4, .ptr 4 []), (5, .ptr 5 []), (6, i64 (136 * m)), (7, i64 i)], hp := [(2, .c (zb 32)), (3, .c (ab (padLen l) (padN l))), (4, .c (refArr (absR (stR l m) (padN l) (136 * m) i))), (5, .c wordsR)], seen := [2, 3, 4, 5] }
def I_rs3 (l : List Nat) (m i n : Nat) : St := { tm := [(2, .ptr 2 []), (3, .sl 3 [] 0 (padLen l) (padLen l) false 1), (4, .ptr 4 []), (5, .ptr 5 []), (6, i64 (136 * m)), (7, i64 i), (8, u64 (wN (padN l) (136 * m + 8 * i) n)), (9, .i (7 - (n : Int)))], hp := [(2, .c (zb 32)), (3, .c (ab (padLen l) (padN l))), (4, .c (refArr (absR (stR l m) (padN l) (136 * m) i))), (5, .c wordsR)], seen := [2, 3, 4, 5] }
def I_rs4 (l : List Nat) (m : Nat) (a : Nat → Nat) (t : Nat) : St := { tm := [(2, .ptr 2 []), (3, .sl 3 [] 0 (padLen l) (padLen l) false 1), (4, .ptr 4 []), (5, .ptr 5 []), (6, i64 (136 * m)), (10, i64 t)], hp := [(2, .c (zb 32)), (3, .c (ab (padLen l) (padN l))), (4, .c (refArr (permN a t))), (5, .c wordsR)], seen := [2, 3, 4, 5] }
def outN (a : Nat → Nat) (i : Nat) : Nat := (a (i / 8) >>> (8 * (i % 8))) % 256
def S_rs24 (a : Nat → Nat) : St := { tm := [(2, .ptr 2 []), (4, .ptr 4 [])], hp := [(2, .c (zb 32)), (4, .c (refArr a))], seen := [2, 4] }
def I_rs5 (a : Nat → Nat) (i : Nat) : St := { tm := [(2, .ptr 2 []), (4, .ptr 4 []), (11, .ptr 11 []), (12, i64 i)], hp := [(2, .c (zb 32)), (4, .c (refArr a)), (11, .c (ab 32 (fun k => if k < i then outN a k else 0)))], seen := [2, 4, 11] }

theorem rsum_A (ex : Bool) (l : List Nat) (K : Nat) (Φ : Ex → St → Prop) :
  (Holds C P 105 [] K Φ (vc C w_rsum b_rsum [] (start [.dat l.length ex 1 (rowL l)] []) lf)) =
  (((0 : Nat) = (0 : Nat)) ∧
 ((((0 : Nat) = (0 : Nat)) ∨ ((0 : Nat) < (List.length l))) ∧
 (((((0 : Nat) + (List.length l)) * (1 : Nat)) ≤ (140737488355328 : Nat)) ∧
 ((((((0 : Nat) + (List.length l)) + (1 : Nat)) * (1 : Nat)) ≤ (140737488355328 : Nat)) ∧
 (LoopOK W.C W.P (105 : Nat) [] K (bodyAt b_rsum [1, 1, 1, 0, 0]) (St.mk [((0 : Nat), (AV.dat (List.length l) ex (1 : Nat) (rowL l))), ((2 : Nat), (AV.ptr (2 : Nat) [])), ((3 : Nat), (AV.sl (18 : Nat) [] (0 : Nat) (((0 : Nat) + (List.length l)) + (1 : Nat)) (((0 : Nat) + (List.length l)) + (1 : Nat)) false (1 : Nat)))] [((2 : Nat), (Blk.c (AV.arr (32 : Nat) (1 : Nat) (fun (x : Nat) => (AV.v (Value.int IntKind.u8 (0 : Int))))))), ((13 : Nat), (Blk.c (AV.st []))), ((17 : Nat), (Blk.c (AV.st [(AV.v (Value.int IntKind.u8 (6 : Int)))]))), ((18 : Nat), (Blk.c (AV.arr (((0 : Nat) + (List.length l)) + (1 : Nat)) (1 : Nat) (cat ((0 : Nat) + (List.length l)) (fun (i : Nat) => (AV.v (Value.int IntKind.u8 (((List.getD l ((0 : Nat) + i) (0 : Nat)) : Nat) : Int)))) (fun (i : Nat) => (nthD [(AV.v (Value.int IntKind.u8 (6 : Int)))] ((0 : Nat) + i) (AV.v (Value.tuple (List.toArray [])))))))))] [(18 : Nat), (17 : Nat), (15 : Nat), (13 : Nat), (2 : Nat)]) (fun (e : Ex) (S' : St) => Holds W.C W.P (105 : Nat) [] K Φ (after W.C w_rsum b_rsum [1, 1, 1, 0, 0] [] lf e S'))))))) := by kernel_rfl
noncomputable abbrev bd_rsum_0 : Code := bodyAt (b_rsum) [1, 1, 1, 0, 0]
theorem ok_rsum_0 : codeOK bd_rsum_0 = true := by kernel_rfl
noncomputable abbrev rest_rsum_0 (K : Nat) (Φ : Ex → St → Prop) : Ex → St → Prop := fun e S' => Holds C P 105 [] K Φ (after C w_rsum (b_rsum) [1, 1, 1, 0, 0] [] lf e S')
theorem rsum_L0 (l : List Nat) (n : Nat) (K : Nat) (Φ : Ex → St → Prop) :
  (Holds C P 105 [] K (RoundQ C 105 [] K (I_rs0 l) (fun n => l.length < n ∧ n ≤ padLen l) (fun n => padLen l - n) ((fun n => padLen l - n) (n)) (rest_rsum_0 K Φ)) (vc C w_rsum bd_rsum_0 [] ((I_rs0 l) (n)) lf)) =
  (((136 : Int) ≠ (0 : Int)) ∧
 ((((((n % 136) : Nat) : Int) != (0 : Int)) = true → 
 ((((n + (1 : Nat)) * (1 : Nat)) ≤ (140737488355328 : Nat)) ∧
  ((RoundQ C 105 [] K (I_rs0 l) (fun n => l.length < n ∧ n ≤ padLen l) (fun n => padLen l - n) ((fun n => padLen l - n) (n)) (rest_rsum_0 K Φ)) Ex.normal (St.mk [((2 : Nat), (AV.ptr (2 : Nat) [])), ((3 : Nat), (AV.sl (25 : Nat) [] (0 : Nat) (n + (1 : Nat)) (n + (1 : Nat)) false (1 : Nat))), ((22 : Nat), (AV.v (Value.bool true)))] [((2 : Nat), (Blk.c (AV.arr (32 : Nat) (1 : Nat) (fun (x : Nat) => (AV.v (Value.int IntKind.u8 (0 : Int))))))), ((24 : Nat), (Blk.c (AV.st [(AV.v (Value.int IntKind.u8 (0 : Int)))]))), ((25 : Nat), (Blk.c (AV.arr (n + (1 : Nat)) (1 : Nat) (cat n (fun (i : Nat) => (AV.v (Value.int IntKind.u8 (((W.tail0 l ((0 : Nat) + i)) : Nat) : Int)))) (fun (i : Nat) => (nthD [(AV.v (Value.int IntKind.u8 (0 : Int)))] ((0 : Nat) + i) (AV.v (Value.tuple (List.toArray [])))))))))] [(25 : Nat), (24 : Nat), (2 : Nat), (3 : Nat)])))) ∧
 (((((n % 136) : Nat) : Int) != (0 : Int)) = false → 
 (∃ (S2 : St), Ent W.C (105 : Nat) [] K (St.mk [((2 : Nat), (AV.ptr (2 : Nat) [])), ((3 : Nat), (AV.sl (3 : Nat) [] (0 : Nat) n n false (1 : Nat))), ((22 : Nat), (AV.v (Value.bool false)))] [((2 : Nat), (Blk.c (AV.arr (32 : Nat) (1 : Nat) (fun (x : Nat) => (AV.v (Value.int IntKind.u8 (0 : Int))))))), ((3 : Nat), (Blk.c (AV.arr n (1 : Nat) (fun (i : Nat) => (AV.v (Value.int IntKind.u8 (((W.tail0 l i) : Nat) : Int)))))))] [(2 : Nat), (3 : Nat)]) S2 ∧ Holds W.C W.P (105 : Nat) [] K Φ (cutAt W.C w_rsum b_rsum [1, 1, 1, 1, 0] S2 (after W.C w_rsum b_rsum [1, 1, 1, 1, 0] [] lf)))))) := by kernel_rfl
theorem rsum_C5 (l : List Nat) (K : Nat) (Φ : Ex → St → Prop) :
  (Holds C P 105 [] K Φ (cutAt C w_rsum b_rsum [1, 1, 1, 1, 0] (S_rs5 l) (after C w_rsum b_rsum [1, 1, 1, 1, 0] [] lf))) =
  ((I64 ((((W.padLen l) : Nat) : Int) - (1 : Int))) ∧
 ((((0 : Int) ≤ ((((W.padLen l) : Nat) : Int) - (1 : Int))) ∧ (((((W.padLen l) : Nat) : Int) - (1 : Int)) < (((W.padLen l) : Nat) : Int))) ∧
 ((((0 : Int) ≤ ((((W.padLen l) : Nat) : Int) - (1 : Int))) ∧ (((((W.padLen l) : Nat) : Int) - (1 : Int)) < (((W.padLen l) : Nat) : Int))) ∧
 ((((5 : Nat) = (5 : Nat)) ∧ (((5 : Nat) = (5 : Nat)) ∧ (∀ (i : Nat), ((i < (5 : Nat)) → (((5 : Nat) = (5 : Nat)) ∧ (((1 : Nat) = (1 : Nat)) ∧ (∀ (i1 : Nat), ((i1 < (5 : Nat)) → ((true = true) ∧ (true = true)))))))))) ∧
 (Fun W.C W.P (27 : Nat) [] [] (AV.arr (24 : Nat) (1 : Nat) (fun (i : Nat) => (AV.v (Value.int IntKind.u64 (((Sp.wordsN i) : Nat) : Int))))) [] ∧
 ((∀ (i : Nat), ((i < (24 : Nat)) → True)) ∧
 ((((24 : Nat) = (24 : Nat)) ∧ (((1 : Nat) = (1 : Nat)) ∧ (∀ (i : Nat), ((i < (24 : Nat)) → ((true = true) ∧ (Bool.true = true)))))) ∧
 (LoopOK W.C W.P (105 : Nat) [] K (bodyAt b_rsum [1, 1, 1, 1, 1, 1, 1, 0, 1, 0]) (St.mk [((2 : Nat), (AV.ptr (2 : Nat) [])), ((3 : Nat), (AV.sl (3 : Nat) [] (0 : Nat) (W.padLen l) (W.padLen l) false (1 : Nat))), ((4 : Nat), (AV.ptr (4 : Nat) [])), ((5 : Nat), (AV.ptr (5 : Nat) [])), ((6 : Nat), (AV.v (Value.int IntKind.i64 (0 : Int))))] [((2 : Nat), (Blk.c (AV.arr (32 : Nat) (1 : Nat) (fun (x : Nat) => (AV.v (Value.int IntKind.u8 (0 : Int))))))), ((3 : Nat), (Blk.c (AV.arr (W.padLen l) (1 : Nat) (fun (j : Nat) => (if (j = ((0 : Nat) + (Int.toNat ((((W.padLen l) : Nat) : Int) - (1 : Int))))) then (AV.v (Value.int IntKind.u8 (IntKind.wrap IntKind.u8 ((((W.tail0 l ((0 : Nat) + (Int.toNat ((((W.padLen l) : Nat) : Int) - (1 : Int))))) + 128) : Nat) : Int)))) else (AV.v (Value.int IntKind.u8 (((W.tail0 l j) : Nat) : Int)))))))), ((4 : Nat), (Blk.c (AV.arr (5 : Nat) (5 : Nat) (fun (x : Nat) => (AV.arr (5 : Nat) (1 : Nat) (fun (x1 : Nat) => (AV.v (Value.int IntKind.u64 (0 : Int))))))))), ((5 : Nat), (Blk.c (AV.arr (24 : Nat) (1 : Nat) (fun (i : Nat) => (AV.v (Value.int IntKind.u64 (((Sp.wordsN i) : Nat) : Int)))))))] [(5 : Nat), (4 : Nat), (2 : Nat), (3 : Nat)]) (fun (e : Ex) (S' : St) => Holds W.C W.P (105 : Nat) [] K Φ (after W.C w_rsum b_rsum [1, 1, 1, 1, 1, 1, 1, 0, 1, 0] [] lf e S')))))))))) := by kernel_rfl
noncomputable abbrev bd_rsum_1 : Code := bodyAt (b_rsum) [1, 1, 1, 1, 1, 1, 1, 0, 1, 0]
theorem ok_rsum_1 : codeOK bd_rsum_1 = true := by kernel_rfl
noncomputable abbrev rest_rsum_1 (K : Nat) (Φ : Ex → St → Prop) : Ex → St → Prop := fun e S' => Holds C P 105 [] K Φ (after C w_rsum (b_rsum) [1, 1, 1, 1, 1, 1, 1, 0, 1, 0] [] lf e S')
theorem rsum_L1 (l : List Nat) (m : Nat) (K : Nat) (Φ : Ex → St → Prop) :
  (Holds C P 105 [] K (RoundQ C 105 [] K (I_rs1 l) (fun m => m ≤ l.length / 136 + 1) (fun m => l.length / 136 + 1 - m) ((fun m => l.length / 136 + 1 - m) (m)) (rest_rsum_1 K Φ)) (vc C w_rsum bd_rsum_1 [] ((I_rs1 l) (m)) lf)) =
  (((decide (((((136 : Nat) * m) : Nat) : Int) < (((W.padLen l) : Nat) : Int))) = true → 
 (LoopOK W.C W.P (105 : Nat) [] K (bodyAt bd_rsum_1 [1, 0, 0, 0, 1, 0]) (St.mk [((2 : Nat), (AV.ptr (2 : Nat) [])), ((3 : Nat), (AV.sl (3 : Nat) [] (0 : Nat) (W.padLen l) (W.padLen l) false (1 : Nat))), ((4 : Nat), (AV.ptr (4 : Nat) [])), ((5 : Nat), (AV.ptr (5 : Nat) [])), ((6 : Nat), (AV.v (Value.int IntKind.i64 ((((136 : Nat) * m) : Nat) : Int)))), ((7 : Nat), (AV.v (Value.int IntKind.i64 (0 : Int)))), ((39 : Nat), (AV.v (Value.bool true)))] [((2 : Nat), (Blk.c (AV.arr (32 : Nat) (1 : Nat) (fun (x : Nat) => (AV.v (Value.int IntKind.u8 (0 : Int))))))), ((3 : Nat), (Blk.c (AV.arr (W.padLen l) (1 : Nat) (fun (i : Nat) => (AV.v (Value.int IntKind.u8 (((W.padN l i) : Nat) : Int))))))), ((4 : Nat), (Blk.c (AV.arr (5 : Nat) (5 : Nat) (fun (x : Nat) => (AV.arr (5 : Nat) (1 : Nat) (fun (y : Nat) => (AV.v (Value.int IntKind.u64 (((W.stR l m (x + ((5 : Nat) * y))) : Nat) : Int))))))))), ((5 : Nat), (Blk.c (AV.arr (24 : Nat) (1 : Nat) (fun (i : Nat) => (AV.v (Value.int IntKind.u64 (((Sp.wordsN i) : Nat) : Int)))))))] [(2 : Nat), (3 : Nat), (4 : Nat), (5 : Nat)]) (fun (e : Ex) (S' : St) => Holds W.C W.P (105 : Nat) [] K (RoundQ C 105 [] K (I_rs1 l) (fun m => m ≤ l.length / 136 + 1) (fun m => l.length / 136 + 1 - m) ((fun m => l.length / 136 + 1 - m) (m)) (rest_rsum_1 K Φ)) (after W.C w_rsum bd_rsum_1 [1, 0, 0, 0, 1, 0] [] lf e S')))) ∧
 ((decide (((((136 : Nat) * m) : Nat) : Int) < (((W.padLen l) : Nat) : Int))) = false → 
 (∃ (S2 : St), Ent W.C (105 : Nat) [] K (St.mk [((2 : Nat), (AV.ptr (2 : Nat) [])), ((3 : Nat), (AV.sl (3 : Nat) [] (0 : Nat) (W.padLen l) (W.padLen l) false (1 : Nat))), ((4 : Nat), (AV.ptr (4 : Nat) [])), ((5 : Nat), (AV.ptr (5 : Nat) [])), ((6 : Nat), (AV.v (Value.int IntKind.i64 ((((136 : Nat) * m) : Nat) : Int)))), ((39 : Nat), (AV.v (Value.bool false)))] [((2 : Nat), (Blk.c (AV.arr (32 : Nat) (1 : Nat) (fun (x : Nat) => (AV.v (Value.int IntKind.u8 (0 : Int))))))), ((3 : Nat), (Blk.c (AV.arr (W.padLen l) (1 : Nat) (fun (i : Nat) => (AV.v (Value.int IntKind.u8 (((W.padN l i) : Nat) : Int))))))), ((4 : Nat), (Blk.c (AV.arr (5 : Nat) (5 : Nat) (fun (x : Nat) => (AV.arr (5 : Nat) (1 : Nat) (fun (y : Nat) => (AV.v (Value.int IntKind.u64 (((W.stR l m (x + ((5 : Nat) * y))) : Nat) : Int))))))))), ((5 : Nat), (Blk.c (AV.arr (24 : Nat) (1 : Nat) (fun (i : Nat) => (AV.v (Value.int IntKind.u64 (((Sp.wordsN i) : Nat) : Int)))))))] [(2 : Nat), (3 : Nat), (4 : Nat), (5 : Nat)]) S2 ∧ Holds W.C W.P (105 : Nat) [] K Φ (cutAt W.C w_rsum b_rsum [1, 1, 1, 1, 1, 1, 1, 1, 0] S2 (after W.C w_rsum b_rsum [1, 1, 1, 1, 1, 1, 1, 1, 0] [] lf))))) := by kernel_rfl
noncomputable abbrev bd_rsum_2 : Code := bodyAt (bd_rsum_1) [1, 0, 0, 0, 1, 0]
theorem ok_rsum_2 : codeOK bd_rsum_2 = true := by kernel_rfl
noncomputable abbrev rest_rsum_2 (K : Nat) (Φ : Ex → St → Prop) : Ex → St → Prop := fun e S' => Holds C P 105 [] K Φ (after C w_rsum (bd_rsum_1) [1, 0, 0, 0, 1, 0] [] lf e S')
theorem rsum_L2 (l : List Nat) (m i : Nat) (K : Nat) (Φ : Ex → St → Prop) :
  (Holds C P 105 [] K (RoundQ C 105 [] K (I_rs2 l m) (fun i => i ≤ 17) (fun i => 17 - i) ((fun i => 17 - i) (i)) (rest_rsum_2 K Φ)) (vc C w_rsum bd_rsum_2 [] ((I_rs2 l m) (i)) lf)) =
  (((decide (((i : Nat) : Int) < (17 : Int))) = true → 
 (LoopOK W.C W.P (105 : Nat) [] K (bodyAt bd_rsum_2 [1, 0, 0, 1, 0, 1, 0]) (St.mk [((2 : Nat), (AV.ptr (2 : Nat) [])), ((3 : Nat), (AV.sl (3 : Nat) [] (0 : Nat) (W.padLen l) (W.padLen l) false (1 : Nat))), ((4 : Nat), (AV.ptr (4 : Nat) [])), ((5 : Nat), (AV.ptr (5 : Nat) [])), ((6 : Nat), (AV.v (Value.int IntKind.i64 ((((136 : Nat) * m) : Nat) : Int)))), ((7 : Nat), (AV.v (Value.int IntKind.i64 ((i : Nat) : Int)))), ((8 : Nat), (AV.v (Value.int IntKind.u64 (0 : Int)))), ((9 : Nat), (AV.v (Value.int IntKind.i64 (7 : Int)))), ((43 : Nat), (AV.v (Value.bool true)))] [((2 : Nat), (Blk.c (AV.arr (32 : Nat) (1 : Nat) (fun (x : Nat) => (AV.v (Value.int IntKind.u8 (0 : Int))))))), ((3 : Nat), (Blk.c (AV.arr (W.padLen l) (1 : Nat) (fun (i1 : Nat) => (AV.v (Value.int IntKind.u8 (((W.padN l i1) : Nat) : Int))))))), ((4 : Nat), (Blk.c (AV.arr (5 : Nat) (5 : Nat) (fun (x : Nat) => (AV.arr (5 : Nat) (1 : Nat) (fun (y : Nat) => (AV.v (Value.int IntKind.u64 (((W.absR (W.stR l m) (W.padN l) ((136 : Nat) * m) i (x + ((5 : Nat) * y))) : Nat) : Int))))))))), ((5 : Nat), (Blk.c (AV.arr (24 : Nat) (1 : Nat) (fun (i1 : Nat) => (AV.v (Value.int IntKind.u64 (((Sp.wordsN i1) : Nat) : Int)))))))] [(2 : Nat), (3 : Nat), (4 : Nat), (5 : Nat)]) (fun (e : Ex) (S' : St) => Holds W.C W.P (105 : Nat) [] K (RoundQ C 105 [] K (I_rs2 l m) (fun i => i ≤ 17) (fun i => 17 - i) ((fun i => 17 - i) (i)) (rest_rsum_2 K Φ)) (after W.C w_rsum bd_rsum_2 [1, 0, 0, 1, 0, 1, 0] [] lf e S')))) ∧
 ((decide (((i : Nat) : Int) < (17 : Int))) = false → 
 (LoopOK W.C W.P (105 : Nat) [] K (bodyAt bd_rsum_1 [1, 0, 0, 1, 1, 0]) (St.mk [((2 : Nat), (AV.ptr (2 : Nat) [])), ((3 : Nat), (AV.sl (3 : Nat) [] (0 : Nat) (W.padLen l) (W.padLen l) false (1 : Nat))), ((4 : Nat), (AV.ptr (4 : Nat) [])), ((5 : Nat), (AV.ptr (5 : Nat) [])), ((6 : Nat), (AV.v (Value.int IntKind.i64 ((((136 : Nat) * m) : Nat) : Int)))), ((7 : Nat), (AV.v (Value.int IntKind.i64 ((i : Nat) : Int)))), ((10 : Nat), (AV.v (Value.int IntKind.i64 (0 : Int)))), ((43 : Nat), (AV.v (Value.bool false)))] [((2 : Nat), (Blk.c (AV.arr (32 : Nat) (1 : Nat) (fun (x : Nat) => (AV.v (Value.int IntKind.u8 (0 : Int))))))), ((3 : Nat), (Blk.c (AV.arr (W.padLen l) (1 : Nat) (fun (i1 : Nat) => (AV.v (Value.int IntKind.u8 (((W.padN l i1) : Nat) : Int))))))), ((4 : Nat), (Blk.c (AV.arr (5 : Nat) (5 : Nat) (fun (x : Nat) => (AV.arr (5 : Nat) (1 : Nat) (fun (y : Nat) => (AV.v (Value.int IntKind.u64 (((W.absR (W.stR l m) (W.padN l) ((136 : Nat) * m) i (x + ((5 : Nat) * y))) : Nat) : Int))))))))), ((5 : Nat), (Blk.c (AV.arr (24 : Nat) (1 : Nat) (fun (i1 : Nat) => (AV.v (Value.int IntKind.u64 (((Sp.wordsN i1) : Nat) : Int)))))))] [(2 : Nat), (3 : Nat), (4 : Nat), (5 : Nat)]) (fun (e : Ex) (S' : St) => Holds W.C W.P (105 : Nat) [] K Φ (after W.C w_rsum bd_rsum_1 [1, 0, 0, 1, 1, 0] [] lf e S'))))) := by kernel_rfl
noncomputable abbrev bd_rsum_3 : Code := bodyAt (bd_rsum_2) [1, 0, 0, 1, 0, 1, 0]
theorem ok_rsum_3 : codeOK bd_rsum_3 = true := by kernel_rfl
noncomputable abbrev rest_rsum_3 (K : Nat) (Φ : Ex → St → Prop) : Ex → St → Prop := fun e S' => Holds C P 105 [] K Φ (after C w_rsum (bd_rsum_2) [1, 0, 0, 1, 0, 1, 0] [] lf e S')
theorem rsum_L3 (l : List Nat) (m i n : Nat) (K : Nat) (Φ : Ex → St → Prop) :
  (Holds C P 105 [] K (RoundQ C 105 [] K (I_rs3 l m i) (fun n => n ≤ 8) (fun n => 8 - n) ((fun n => 8 - n) (n)) (rest_rsum_3 K Φ)) (vc C w_rsum bd_rsum_3 [] ((I_rs3 l m i) (n)) lf)) =
  (((decide (((7 : Int) - ((n : Nat) : Int)) ≥ (0 : Int))) = true → 
 (((0 : Int) ≤ (8 : Int)) ∧
  ((I64 (((8 * i) : Nat) : Int)) ∧
  ((I64 (((((136 : Nat) * m) + (8 * i)) : Nat) : Int)) ∧
  ((I64 ((((((136 : Nat) * m) + (8 * i)) : Nat) : Int) + ((7 : Int) - ((n : Nat) : Int)))) ∧
  ((((0 : Int) ≤ ((((((136 : Nat) * m) + (8 * i)) : Nat) : Int) + ((7 : Int) - ((n : Nat) : Int)))) ∧ (((((((136 : Nat) * m) + (8 * i)) : Nat) : Int) + ((7 : Int) - ((n : Nat) : Int))) < (((W.padLen l) : Nat) : Int))) ∧
  ((I64 (((7 : Int) - ((n : Nat) : Int)) - (1 : Int))) ∧
  ((RoundQ C 105 [] K (I_rs3 l m i) (fun n => n ≤ 8) (fun n => 8 - n) ((fun n => 8 - n) (n)) (rest_rsum_3 K Φ)) Ex.normal (St.mk [((2 : Nat), (AV.ptr (2 : Nat) [])), ((3 : Nat), (AV.sl (3 : Nat) [] (0 : Nat) (W.padLen l) (W.padLen l) false (1 : Nat))), ((4 : Nat), (AV.ptr (4 : Nat) [])), ((5 : Nat), (AV.ptr (5 : Nat) [])), ((6 : Nat), (AV.v (Value.int IntKind.i64 ((((136 : Nat) * m) : Nat) : Int)))), ((7 : Nat), (AV.v (Value.int IntKind.i64 ((i : Nat) : Int)))), ((8 : Nat), (AV.v (Value.int IntKind.u64 (bOr IntKind.u64 (bShl IntKind.u64 (((Sp.wN (W.padN l) (((136 : Nat) * m) + ((8 : Nat) * i)) n) : Nat) : Int) (8 : Int)) (IntKind.wrap IntKind.u64 (((W.padN l ((0 : Nat) + (Int.toNat ((((((136 : Nat) * m) + (8 * i)) : Nat) : Int) + ((7 : Int) - ((n : Nat) : Int)))))) : Nat) : Int)))))), ((9 : Nat), (AV.v (Value.int IntKind.i64 (((7 : Int) - ((n : Nat) : Int)) - (1 : Int))))), ((47 : Nat), (AV.v (Value.bool true)))] [((2 : Nat), (Blk.c (AV.arr (32 : Nat) (1 : Nat) (fun (x : Nat) => (AV.v (Value.int IntKind.u8 (0 : Int))))))), ((3 : Nat), (Blk.c (AV.arr (W.padLen l) (1 : Nat) (fun (i1 : Nat) => (AV.v (Value.int IntKind.u8 (((W.padN l i1) : Nat) : Int))))))), ((4 : Nat), (Blk.c (AV.arr (5 : Nat) (5 : Nat) (fun (x : Nat) => (AV.arr (5 : Nat) (1 : Nat) (fun (y : Nat) => (AV.v (Value.int IntKind.u64 (((W.absR (W.stR l m) (W.padN l) ((136 : Nat) * m) i (x + ((5 : Nat) * y))) : Nat) : Int))))))))), ((5 : Nat), (Blk.c (AV.arr (24 : Nat) (1 : Nat) (fun (i1 : Nat) => (AV.v (Value.int IntKind.u64 (((Sp.wordsN i1) : Nat) : Int)))))))] [(2 : Nat), (3 : Nat), (4 : Nat), (5 : Nat)]))))))))) ∧
 ((decide (((7 : Int) - ((n : Nat) : Int)) ≥ (0 : Int))) = false → 
 (((5 : Int) ≠ (0 : Int)) ∧
  (((5 : Int) ≠ (0 : Int)) ∧
  ((I64 (((i / 5) : Nat) : Int)) ∧
  (((5 : Int) ≠ (0 : Int)) ∧
  (((5 : Int) ≠ (0 : Int)) ∧
  ((I64 (((i / 5) : Nat) : Int)) ∧
  ((((0 : Int) ≤ (((i % 5) : Nat) : Int)) ∧ ((((i % 5) : Nat) : Int) < (5 : Int))) ∧
  ((((0 : Int) ≤ (((i / 5) : Nat) : Int)) ∧ ((((i / 5) : Nat) : Int) < (5 : Int))) ∧
  ((((0 : Int) ≤ (((i % 5) : Nat) : Int)) ∧ ((((i % 5) : Nat) : Int) < (5 : Int))) ∧
  ((((0 : Int) ≤ (((i / 5) : Nat) : Int)) ∧ ((((i / 5) : Nat) : Int) < (5 : Int))) ∧
  ((I64 (((i + 1) : Nat) : Int)) ∧
  (Φ Ex.normal (St.mk [((2 : Nat), (AV.ptr (2 : Nat) [])), ((3 : Nat), (AV.sl (3 : Nat) [] (0 : Nat) (W.padLen l) (W.padLen l) false (1 : Nat))), ((4 : Nat), (AV.ptr (4 : Nat) [])), ((5 : Nat), (AV.ptr (5 : Nat) [])), ((6 : Nat), (AV.v (Value.int IntKind.i64 ((((136 : Nat) * m) : Nat) : Int)))), ((7 : Nat), (AV.v (Value.int IntKind.i64 (((i + 1) : Nat) : Int)))), ((8 : Nat), (AV.v (Value.int IntKind.u64 (((Sp.wN (W.padN l) (((136 : Nat) * m) + ((8 : Nat) * i)) n) : Nat) : Int)))), ((9 : Nat), (AV.v (Value.int IntKind.i64 ((7 : Int) - ((n : Nat) : Int))))), ((47 : Nat), (AV.v (Value.bool false)))] [((2 : Nat), (Blk.c (AV.arr (32 : Nat) (1 : Nat) (fun (x : Nat) => (AV.v (Value.int IntKind.u8 (0 : Int))))))), ((3 : Nat), (Blk.c (AV.arr (W.padLen l) (1 : Nat) (fun (i1 : Nat) => (AV.v (Value.int IntKind.u8 (((W.padN l i1) : Nat) : Int))))))), ((4 : Nat), (Blk.c (AV.arr (5 : Nat) (5 : Nat) (fun (j : Nat) => (if (j = (i % 5)) then (AV.arr (5 : Nat) (1 : Nat) (fun (j1 : Nat) => (if (j1 = (i / 5)) then (AV.v (Value.int IntKind.u64 (bXor IntKind.u64 (((W.absR (W.stR l m) (W.padN l) ((136 : Nat) * m) i ((i % 5) + ((5 : Nat) * (i / 5)))) : Nat) : Int) (((Sp.wN (W.padN l) (((136 : Nat) * m) + ((8 : Nat) * i)) n) : Nat) : Int)))) else (AV.v (Value.int IntKind.u64 (((W.absR (W.stR l m) (W.padN l) ((136 : Nat) * m) i ((i % 5) + ((5 : Nat) * j1))) : Nat) : Int)))))) else (AV.arr (5 : Nat) (1 : Nat) (fun (y : Nat) => (AV.v (Value.int IntKind.u64 (((W.absR (W.stR l m) (W.padN l) ((136 : Nat) * m) i (j + ((5 : Nat) * y))) : Nat) : Int)))))))))), ((5 : Nat), (Blk.c (AV.arr (24 : Nat) (1 : Nat) (fun (i1 : Nat) => (AV.v (Value.int IntKind.u64 (((Sp.wordsN i1) : Nat) : Int)))))))] [(2 : Nat), (3 : Nat), (4 : Nat), (5 : Nat)]))))))))))))))) := by kernel_rfl
noncomputable abbrev bd_rsum_4 : Code := bodyAt (bd_rsum_1) [1, 0, 0, 1, 1, 0]
theorem ok_rsum_4 : codeOK bd_rsum_4 = true := by kernel_rfl
noncomputable abbrev rest_rsum_4 (K : Nat) (Φ : Ex → St → Prop) : Ex → St → Prop := fun e S' => Holds C P 105 [] K Φ (after C w_rsum (bd_rsum_1) [1, 0, 0, 1, 1, 0] [] lf e S')
theorem rsum_L4 (l : List Nat) (m : Nat) (a : Nat → Nat) (t : Nat) (K : Nat) (Φ : Ex → St → Prop) :
  (Holds C P 105 [] K (RoundQ C 105 [] K (I_rs4 l m a) (fun t => t ≤ 24) (fun t => 24 - t) ((fun t => 24 - t) (t)) (rest_rsum_4 K Φ)) (vc C w_rsum bd_rsum_4 [] ((I_rs4 l m a) (t)) lf)) =
  (((decide (((t : Nat) : Int) < (24 : Int))) = true → 
 ((((0 : Int) ≤ ((t : Nat) : Int)) ∧ (((t : Nat) : Int) < (24 : Int))) ∧
  (Fun W.C W.P (28 : Nat) [(AV.arr (5 : Nat) (5 : Nat) (fun (x : Nat) => (AV.arr (5 : Nat) (1 : Nat) (fun (y : Nat) => (AV.v (Value.int IntKind.u64 (((Sp.permN a t (x + ((5 : Nat) * y))) : Nat) : Int))))))), (AV.v (Value.int IntKind.u64 (((Sp.wordsN t) : Nat) : Int)))] [] (AV.arr (5 : Nat) (5 : Nat) (fun (x : Nat) => (AV.arr (5 : Nat) (1 : Nat) (fun (y : Nat) => (AV.v (Value.int IntKind.u64 (((Sp.roundN (W.flatN (fun (x1 : Nat) => (AV.arr (5 : Nat) (1 : Nat) (fun (y1 : Nat) => (AV.v (Value.int IntKind.u64 (((Sp.permN a t (x1 + ((5 : Nat) * y1))) : Nat) : Int))))))) (Sp.wordsN t) (x + ((5 : Nat) * y))) : Nat) : Int))))))) [] ∧
  ((∀ (i : Nat), ((i < (5 : Nat)) → (∀ (i1 : Nat), ((i1 < (5 : Nat)) → True)))) ∧
  ((((5 : Nat) = (5 : Nat)) ∧ (((5 : Nat) = (5 : Nat)) ∧ (∀ (i : Nat), ((i < (5 : Nat)) → (((5 : Nat) = (5 : Nat)) ∧ (((1 : Nat) = (1 : Nat)) ∧ (∀ (i1 : Nat), ((i1 < (5 : Nat)) → ((Bool.true = true) ∧ (Bool.true = true)))))))))) ∧
  ((I64 (((t + 1) : Nat) : Int)) ∧
  ((RoundQ C 105 [] K (I_rs4 l m a) (fun t => t ≤ 24) (fun t => 24 - t) ((fun t => 24 - t) (t)) (rest_rsum_4 K Φ)) Ex.normal (St.mk [((2 : Nat), (AV.ptr (2 : Nat) [])), ((3 : Nat), (AV.sl (3 : Nat) [] (0 : Nat) (W.padLen l) (W.padLen l) false (1 : Nat))), ((4 : Nat), (AV.ptr (4 : Nat) [])), ((5 : Nat), (AV.ptr (5 : Nat) [])), ((6 : Nat), (AV.v (Value.int IntKind.i64 ((((136 : Nat) * m) : Nat) : Int)))), ((10 : Nat), (AV.v (Value.int IntKind.i64 (((t + 1) : Nat) : Int)))), ((79 : Nat), (AV.v (Value.bool true)))] [((2 : Nat), (Blk.c (AV.arr (32 : Nat) (1 : Nat) (fun (x : Nat) => (AV.v (Value.int IntKind.u8 (0 : Int))))))), ((3 : Nat), (Blk.c (AV.arr (W.padLen l) (1 : Nat) (fun (i : Nat) => (AV.v (Value.int IntKind.u8 (((W.padN l i) : Nat) : Int))))))), ((4 : Nat), (Blk.c (AV.arr (5 : Nat) (5 : Nat) (fun (x : Nat) => (AV.arr (5 : Nat) (1 : Nat) (fun (y : Nat) => (AV.v (Value.int IntKind.u64 (((Sp.roundN (W.flatN (fun (x1 : Nat) => (AV.arr (5 : Nat) (1 : Nat) (fun (y1 : Nat) => (AV.v (Value.int IntKind.u64 (((Sp.permN a t (x1 + ((5 : Nat) * y1))) : Nat) : Int))))))) (Sp.wordsN t) (x + ((5 : Nat) * y))) : Nat) : Int))))))))), ((5 : Nat), (Blk.c (AV.arr (24 : Nat) (1 : Nat) (fun (i : Nat) => (AV.v (Value.int IntKind.u64 (((Sp.wordsN i) : Nat) : Int)))))))] [(2 : Nat), (3 : Nat), (4 : Nat), (5 : Nat)])))))))) ∧
 ((decide (((t : Nat) : Int) < (24 : Int))) = false → 
 ((I64 (((((136 : Nat) * m) + 136) : Nat) : Int)) ∧
  (Φ Ex.normal (St.mk [((2 : Nat), (AV.ptr (2 : Nat) [])), ((3 : Nat), (AV.sl (3 : Nat) [] (0 : Nat) (W.padLen l) (W.padLen l) false (1 : Nat))), ((4 : Nat), (AV.ptr (4 : Nat) [])), ((5 : Nat), (AV.ptr (5 : Nat) [])), ((6 : Nat), (AV.v (Value.int IntKind.i64 (((((136 : Nat) * m) + 136) : Nat) : Int)))), ((10 : Nat), (AV.v (Value.int IntKind.i64 ((t : Nat) : Int)))), ((79 : Nat), (AV.v (Value.bool false)))] [((2 : Nat), (Blk.c (AV.arr (32 : Nat) (1 : Nat) (fun (x : Nat) => (AV.v (Value.int IntKind.u8 (0 : Int))))))), ((3 : Nat), (Blk.c (AV.arr (W.padLen l) (1 : Nat) (fun (i : Nat) => (AV.v (Value.int IntKind.u8 (((W.padN l i) : Nat) : Int))))))), ((4 : Nat), (Blk.c (AV.arr (5 : Nat) (5 : Nat) (fun (x : Nat) => (AV.arr (5 : Nat) (1 : Nat) (fun (y : Nat) => (AV.v (Value.int IntKind.u64 (((Sp.permN a t (x + ((5 : Nat) * y))) : Nat) : Int))))))))), ((5 : Nat), (Blk.c (AV.arr (24 : Nat) (1 : Nat) (fun (i : Nat) => (AV.v (Value.int IntKind.u64 (((Sp.wordsN i) : Nat) : Int)))))))] [(2 : Nat), (3 : Nat), (4 : Nat), (5 : Nat)]))))) := by kernel_rfl
theorem rsum_C24 (a : Nat → Nat) (K : Nat) (Φ : Ex → St → Prop) :
  (Holds C P 105 [] K Φ (cutAt C w_rsum b_rsum [1, 1, 1, 1, 1, 1, 1, 1, 0] (S_rs24 a) (after C w_rsum b_rsum [1, 1, 1, 1, 1, 1, 1, 1, 0] [] lf))) =
  ((((32 : Nat) = (32 : Nat)) ∧ (((1 : Nat) = (1 : Nat)) ∧ (∀ (i : Nat), ((i < (32 : Nat)) → ((true = true) ∧ (Bool.true = true)))))) ∧
 (LoopOK W.C W.P (105 : Nat) [] K (bodyAt b_rsum [1, 1, 1, 1, 1, 1, 1, 1, 1, 0, 1, 0]) (St.mk [((2 : Nat), (AV.ptr (2 : Nat) [])), ((4 : Nat), (AV.ptr (4 : Nat) [])), ((11 : Nat), (AV.ptr (11 : Nat) [])), ((12 : Nat), (AV.v (Value.int IntKind.i64 (0 : Int))))] [((2 : Nat), (Blk.c (AV.arr (32 : Nat) (1 : Nat) (fun (x : Nat) => (AV.v (Value.int IntKind.u8 (0 : Int))))))), ((4 : Nat), (Blk.c (AV.arr (5 : Nat) (5 : Nat) (fun (x : Nat) => (AV.arr (5 : Nat) (1 : Nat) (fun (y : Nat) => (AV.v (Value.int IntKind.u64 (((a (x + ((5 : Nat) * y))) : Nat) : Int))))))))), ((11 : Nat), (Blk.c (AV.arr (32 : Nat) (1 : Nat) (fun (x : Nat) => (AV.v (Value.int IntKind.u8 (0 : Int)))))))] [(11 : Nat), (2 : Nat), (4 : Nat)]) (fun (e : Ex) (S' : St) => Holds W.C W.P (105 : Nat) [] K Φ (after W.C w_rsum b_rsum [1, 1, 1, 1, 1, 1, 1, 1, 1, 0, 1, 0] [] lf e S')))) := by kernel_rfl
noncomputable abbrev bd_rsum_5 : Code := bodyAt (b_rsum) [1, 1, 1, 1, 1, 1, 1, 1, 1, 0, 1, 0]
theorem ok_rsum_5 : codeOK bd_rsum_5 = true := by kernel_rfl
noncomputable abbrev rest_rsum_5 (K : Nat) (Φ : Ex → St → Prop) : Ex → St → Prop := fun e S' => Holds C P 105 [] K Φ (after C w_rsum (b_rsum) [1, 1, 1, 1, 1, 1, 1, 1, 1, 0, 1, 0] [] lf e S')
theorem rsum_L5 (a : Nat → Nat) (i : Nat) (K : Nat) (Φ : Ex → St → Prop) :
  (Holds C P 105 [] K (RoundQ C 105 [] K (I_rs5 a) (fun i => i ≤ 32) (fun i => 32 - i) ((fun i => 32 - i) (i)) (rest_rsum_5 K Φ)) (vc C w_rsum bd_rsum_5 [] ((I_rs5 a) (i)) lf)) =
  (((decide (((i : Nat) : Int) < (32 : Int))) = true → 
 (((8 : Int) ≠ (0 : Int)) ∧
  ((I64 (((i / 8) : Nat) : Int)) ∧
  ((((0 : Int) ≤ (((i / 8) : Nat) : Int)) ∧ ((((i / 8) : Nat) : Int) < (5 : Int))) ∧
  ((((0 : Int) ≤ (0 : Int)) ∧ ((0 : Int) < (5 : Int))) ∧
  (((8 : Int) ≠ (0 : Int)) ∧
  ((I64 (((8 * (i % 8)) : Nat) : Int)) ∧
  (((0 : Int) ≤ (((8 * (i % 8)) : Nat) : Int)) ∧
  ((((0 : Int) ≤ ((i : Nat) : Int)) ∧ (((i : Nat) : Int) < (32 : Int))) ∧
  ((I64 (((i + 1) : Nat) : Int)) ∧
  ((RoundQ C 105 [] K (I_rs5 a) (fun i => i ≤ 32) (fun i => 32 - i) ((fun i => 32 - i) (i)) (rest_rsum_5 K Φ)) Ex.normal (St.mk [((2 : Nat), (AV.ptr (2 : Nat) [])), ((4 : Nat), (AV.ptr (4 : Nat) [])), ((11 : Nat), (AV.ptr (11 : Nat) [])), ((12 : Nat), (AV.v (Value.int IntKind.i64 (((i + 1) : Nat) : Int)))), ((89 : Nat), (AV.v (Value.bool true)))] [((2 : Nat), (Blk.c (AV.arr (32 : Nat) (1 : Nat) (fun (x : Nat) => (AV.v (Value.int IntKind.u8 (0 : Int))))))), ((4 : Nat), (Blk.c (AV.arr (5 : Nat) (5 : Nat) (fun (x : Nat) => (AV.arr (5 : Nat) (1 : Nat) (fun (y : Nat) => (AV.v (Value.int IntKind.u64 (((a (x + ((5 : Nat) * y))) : Nat) : Int))))))))), ((11 : Nat), (Blk.c (AV.arr (32 : Nat) (1 : Nat) (fun (j : Nat) => (if (j = i) then (AV.v (Value.int IntKind.u8 (IntKind.wrap IntKind.u8 (bShr IntKind.u64 (((a (i / 8)) : Nat) : Int) (((8 * (i % 8)) : Nat) : Int))))) else (AV.v (Value.int IntKind.u8 (((if (j < i) then (W.outN a j) else (0 : Nat)) : Nat) : Int))))))))] [(2 : Nat), (4 : Nat), (11 : Nat)])))))))))))) ∧
 ((decide (((i : Nat) : Int) < (32 : Int))) = false → 
 ((((32 : Nat) = (32 : Nat)) ∧ (((1 : Nat) = (1 : Nat)) ∧ (∀ (i1 : Nat), ((i1 < (32 : Nat)) → ((true = true) ∧ (Bool.true = true)))))) ∧
  (Φ Ex.ret (St.mk [((2 : Nat), (AV.ptr (2 : Nat) [])), ((4 : Nat), (AV.ptr (4 : Nat) [])), ((11 : Nat), (AV.ptr (11 : Nat) [])), ((12 : Nat), (AV.v (Value.int IntKind.i64 ((i : Nat) : Int)))), ((89 : Nat), (AV.v (Value.bool false)))] [((2 : Nat), (Blk.c (AV.arr (32 : Nat) (1 : Nat) (fun (i1 : Nat) => (AV.v (Value.int IntKind.u8 (((if (i1 < i) then (W.outN a i1) else (0 : Nat)) : Nat) : Int))))))), ((4 : Nat), (Blk.c (AV.arr (5 : Nat) (5 : Nat) (fun (x : Nat) => (AV.arr (5 : Nat) (1 : Nat) (fun (y : Nat) => (AV.v (Value.int IntKind.u64 (((a (x + ((5 : Nat) * y))) : Nat) : Int))))))))), ((11 : Nat), (Blk.c (AV.arr (32 : Nat) (1 : Nat) (fun (i1 : Nat) => (AV.v (Value.int IntKind.u8 (((if (i1 < i) then (W.outN a i1) else (0 : Nat)) : Nat) : Int)))))))] [(2 : Nat), (4 : Nat), (11 : Nat)]))))) := by kernel_rfl

theorem flatN_ref (f : Nat → Nat) : flatN (fun x1 => AV.arr 5 1 (fun y1 => u64 (f (x1 + 5 * y1)))) = f := by
  funext p
  exact flat_ref f p
theorem tail0_hi {l : List Nat} {i : Nat} (h : l.length ≤ i) : tail0 l i ≤ 6 := by
  unfold tail0
  rw [if_neg (by omega)]
  by_cases e : i = l.length
  · rw [if_pos e]; exact Nat.le_refl _
  · rw [if_neg e]; exact Nat.zero_le _
theorem tail0_lt {l : List Nat} (h : Small l) (i : Nat) : tail0 l i < 256 := by
  unfold tail0
  by_cases e : i < l.length
  · rw [if_pos e]; exact getD_small h i
  · rw [if_neg e]
    by_cases e : i = l.length
    · rw [if_pos e]; decide
    · rw [if_neg e]; decide
theorem padN_lt {l : List Nat} (h : Small l) (i : Nat) : padN l i < 256 := by
  unfold padN
  by_cases e : i = 136 * (l.length / 136) + 135
  · rw [if_pos e]
    have := tail0_hi (l := l) (i := i) (by omega)
    omega
  · rw [if_neg e]
    have := tail0_lt h i
    omega
theorem stR_lt (l : List Nat) : ∀ m i, i < 25 → stR l m i < 2 ^ 64
  | 0, _, _ => by show 0 < _; decide
  | m + 1, i, hi => mixN_lt (stR_lt l m) i hi
theorem stR_stN (l : List Nat) : ∀ m, m ≤ l.length / 136 → ∀ i, i < 25 → stR l m i = stN l m i
  | 0, _, _, _ => rfl
  | m + 1, hm, i, hi => by
    refine mixN_congr (stR_stN l m (by omega)) (fun j hj => ?_) i hi
    show padN l (136 * m + j) = _
    unfold padN tail0
    rw [if_pos (by omega), if_neg (by omega)]
    rfl
theorem stR_last (l : List Nat) {i : Nat} (hi : i < 25) : stR l (l.length / 136 + 1) i = mixN (stN l (l.length / 136)) (lastBlk l) 136 i := by
  refine mixN_congr (stR_stN l _ (Nat.le_refl _)) (fun j hj => ?_) i hi
  show padN l (136 * (l.length / 136) + j) = lastBlk l j
  unfold padN tail0 lastBlk
  have e1 : (136 * (l.length / 136) + j < l.length) ↔ j < l.length % 136 := by omega
  have e2 : (136 * (l.length / 136) + j = l.length) ↔ j = l.length % 136 := by omega
  have e3 : (136 * (l.length / 136) + j = 136 * (l.length / 136) + 135) ↔ j = 135 := by omega
  simp only [e1, e2, e3]
theorem absR_lt {a b : Nat → Nat} {o i : Nat} (ha : ∀ p, p < 25 → a p < 2 ^ 64) (hb : ∀ i, b i < 256) {p : Nat} (hp : p < 25) : absR a b o i p < 2 ^ 64 := by
  unfold absR
  by_cases e : p < i
  · rw [if_pos e]; exact Nat.xor_lt_two_pow (ha p hp) (wN_lt hb (Nat.le_refl _))
  · rw [if_neg e]; exact ha p hp

theorem rsum_fun (ex : Bool) (l : List Nat) (hs : Small l) (hn : l.length < 2 ^ 46) : Fun C P F_rsum [.dat l.length ex 1 (rowL l)] [] (sumAV l) [] := by
  have hpl : padLen l = 136 * (l.length / 136 + 1) := rfl
  refine in_rsum (W := w_rsum) rfl 0 (by simp) rfl (fun id h => absurd rfl h) ?_
  refine of_eq (rsum_A ex l 0 _) ⟨rfl, .inl rfl, (by first | omega | decide | (unfold I64; omega)), (by first | omega | decide | (unfold I64; omega)), ?_⟩
  refine loop_inv (W := w_rsum) ctx mixed ok_rsum_0 (I_rs0 l) (fun n => l.length < n ∧ n ≤ padLen l) (fun n => padLen l - n) (l.length + 1) (by omega) ?_ fun n hq => ?_
  · refine ent_of [(2, 2), (18, 3)] rfl (tm_cons rfl (sm_ptr rfl) (tm_cons rfl (sm_sl rfl (by omega) (by omega) (by omega) (by simp)) tm_nil)) (hp_cons rfl rfl (sm_same rfl) (hp_cons rfl rfl (sm_arr' (by omega) fun j hj => ?_) hp_nil))
    unfold cat tail0
    by_cases e : j < l.length
    · rw [if_pos (by omega), if_pos e]; dsimp only; rw [Nat.zero_add]
    · have e2 : j = l.length := by omega
      subst e2
      rw [if_neg (by omega), if_neg (by omega), if_pos rfl, Nat.zero_add, Nat.sub_self]
      rfl
  obtain ⟨hq1, hq2⟩ := hq
  refine of_eq (rsum_L0 l n 0 _) ⟨(by first | omega | decide | (unfold I64; omega)), fun h => ?_, fun h => ?_⟩
  · have h' : n % 136 ≠ 0 := fun e => by rw [e] at h; simp at h
    refine ⟨(by first | omega | decide | (unfold I64; omega)), round_end (n + 1) (by omega) (ent_of [(2, 2), (25, 3)] rfl (tm_cons rfl (sm_ptr rfl) (tm_cons rfl (sm_sl rfl rfl (Nat.le_refl _) (Nat.le_refl _) (by simp)) tm_nil)) (hp_cons rfl rfl (sm_same rfl) (hp_cons rfl rfl (sm_arr' rfl fun j hj => ?_) hp_nil))) (by dsimp only; omega)⟩
    unfold cat
    by_cases e : j < n
    · rw [if_pos e]; dsimp only; rw [Nat.zero_add]
    · have e2 : j = n := by omega
      subst e2
      rw [if_neg e, Nat.sub_self]
      unfold tail0
      rw [if_neg (by omega), if_neg (by omega)]
      rfl
  have hn0 : n = padLen l := by
    have h' : n % 136 = 0 := by
      simp only [bne_eq_false_iff_eq] at h
      omega
    omega
  subst hn0
  refine cut_ok (S2 := S_rs5 l) (ent_of [(2, 2), (3, 3)] rfl (tm_cons rfl (sm_ptr rfl) (tm_cons rfl (sm_sl rfl rfl (Nat.le_refl _) (Nat.le_refl _) (by simp)) tm_nil)) (hp_cons rfl rfl (sm_same rfl) (hp_cons rfl rfl (sm_same rfl) hp_nil))) ?_
  clear h hq1 hq2
  have hlast : (((padLen l : Nat) : Int) - 1).toNat = 136 * (l.length / 136) + 135 := by omega
  refine of_eq (rsum_C5 l 0 _) ⟨(by first | omega | decide | (unfold I64; omega)), (by first | omega | decide | (unfold I64; omega)), (by first | omega | decide | (unfold I64; omega)), ⟨rfl, rfl, fun _ _ => ⟨rfl, rfl, fun _ _ => ⟨rfl, rfl⟩⟩⟩, rwords_fun, fun _ _ => trivial, ⟨rfl, rfl, fun _ _ => ⟨rfl, rfl⟩⟩, ?_⟩
  refine loop_inv (W := w_rsum) ctx mixed ok_rsum_1 (I_rs1 l) (fun m => m ≤ l.length / 136 + 1) (fun m => l.length / 136 + 1 - m) 0 (by omega) ?_ fun m hm => ?_
  · refine ent_of [(2, 2), (3, 3), (4, 4), (5, 5)] rfl (tm_cons rfl (sm_ptr rfl) (tm_cons rfl (sm_sl rfl rfl (Nat.le_refl _) (Nat.le_refl _) (by simp)) (tm_cons rfl (sm_ptr rfl) (tm_cons rfl (sm_ptr rfl) (tm_cons rfl (sm_same rfl) tm_nil))))) (hp_cons rfl rfl (sm_same rfl) (hp_cons rfl rfl (sm_arr fun j hj => ?_) (hp_cons rfl rfl (sm_same rfl) (hp_cons rfl rfl (sm_same rfl) hp_nil))))
    rw [Nat.zero_add, hlast]
    unfold padN
    by_cases e : j = 136 * (l.length / 136) + 135
    · rw [if_pos e, if_pos e, e, wrap_u8]
      have := tail0_hi (l := l) (i := 136 * (l.length / 136) + 135) (by omega)
      rw [Nat.mod_eq_of_lt (by omega)]
    · rw [if_neg e, if_neg e]; rfl
  have hbs := padN_lt hs
  refine of_eq (rsum_L1 l m 0 _) ⟨fun h => ?_, fun h => ?_⟩
  · simp only [decide_eq_true_eq] at h
    have hm' : m ≤ l.length / 136 := by omega
    refine loop_inv (W := w_rsum) ctx mixed ok_rsum_2 (I_rs2 l m) (fun i => i ≤ 17) (fun i => 17 - i) 0 (by decide) ?_ fun i hi => ?_
    · exact ent_of [(2, 2), (3, 3), (4, 4), (5, 5)] rfl (tm_cons rfl (sm_ptr rfl) (tm_cons rfl (sm_sl rfl rfl (Nat.le_refl _) (Nat.le_refl _) (by simp)) (tm_cons rfl (sm_ptr rfl) (tm_cons rfl (sm_ptr rfl) (tm_cons rfl (sm_same rfl) (tm_cons rfl (sm_same rfl) tm_nil)))))) (hp_cons rfl rfl (sm_same rfl) (hp_cons rfl rfl (sm_same rfl) (hp_cons rfl rfl (sm_ref fun x y _ _ => (if_neg (Nat.not_lt_zero _)).symm) (hp_cons rfl rfl (sm_same rfl) hp_nil))))
    refine of_eq (rsum_L2 l m i 0 _) ⟨fun h2 => ?_, fun h2 => ?_⟩
    · simp only [decide_eq_true_eq] at h2
      refine loop_inv (W := w_rsum) ctx mixed ok_rsum_3 (I_rs3 l m i) (fun n => n ≤ 8) (fun n => 8 - n) 0 (by decide) ?_ fun n hn8 => ?_
      · exact ent_of [(2, 2), (3, 3), (4, 4), (5, 5)] rfl (tm_cons rfl (sm_ptr rfl) (tm_cons rfl (sm_sl rfl rfl (Nat.le_refl _) (Nat.le_refl _) (by simp)) (tm_cons rfl (sm_ptr rfl) (tm_cons rfl (sm_ptr rfl) (tm_cons rfl (sm_same rfl) (tm_cons rfl (sm_same rfl) (tm_cons rfl (sm_same rfl) (tm_cons rfl (sm_int (by omega)) tm_nil)))))))) (hp_cons rfl rfl (sm_same rfl) (hp_cons rfl rfl (sm_same rfl) (hp_cons rfl rfl (sm_same rfl) (hp_cons rfl rfl (sm_same rfl) hp_nil))))
      refine of_eq (rsum_L3 l m i n 0 _) ⟨fun h3 => ?_, fun h3 => ?_⟩
      · simp only [ge_iff_le, decide_eq_true_eq] at h3
        have hix : (((136 * m + 8 * i : Nat) : Int) + ((7 : Int) - ((n : Nat) : Int))).toNat = 136 * m + 8 * i + (7 - n) := by omega
        have hb1 := hbs (136 * m + 8 * i + (7 - n))
        have hw := wN_lt (b := padN l) (base := 136 * m + 8 * i) hbs (n := n) (by omega)
        have hsh : bShl IntKind.u64 ((wN (padN l) (136 * m + 8 * i) n : Nat) : Int) 8 = _ := shl64 _ 8
        rw [hix, Nat.zero_add, hsh, wrap_u64, Nat.mod_eq_of_lt (show padN l (136 * m + 8 * i + (7 - n)) < 2 ^ 64 by omega), or64 (Nat.mod_lt _ (by decide)) (by omega)]
        refine ⟨(by first | omega | decide | (unfold I64; omega)), (by first | omega | decide | (unfold I64; omega)), (by first | omega | decide | (unfold I64; omega)), (by first | omega | decide | (unfold I64; omega)), (by first | omega | decide | (unfold I64; omega)), (by first | omega | decide | (unfold I64; omega)), round_end (n + 1) (by omega) (ent_of [(2, 2), (3, 3), (4, 4), (5, 5)] rfl (tm_cons rfl (sm_ptr rfl) (tm_cons rfl (sm_sl rfl rfl (Nat.le_refl _) (Nat.le_refl _) (by simp)) (tm_cons rfl (sm_ptr rfl) (tm_cons rfl (sm_ptr rfl) (tm_cons rfl (sm_same rfl) (tm_cons rfl (sm_same rfl) (tm_cons rfl (sm_same rfl) (tm_cons rfl (sm_int (by omega)) tm_nil)))))))) (hp_cons rfl rfl (sm_same rfl) (hp_cons rfl rfl (sm_same rfl) (hp_cons rfl rfl (sm_same rfl) (hp_cons rfl rfl (sm_same rfl) hp_nil))))) (by dsimp only; omega)⟩
      · simp only [ge_iff_le, decide_eq_false_iff_not] at h3
        obtain rfl : n = 8 := by omega
        have hst := stR_lt l m
        have hii : i % 5 + 5 * (i / 5) = i := Nat.mod_add_div i 5
        rw [xor64 (absR_lt hst hbs (by omega)) (wN_lt hbs (Nat.le_refl _))]
        refine ⟨(by first | omega | decide | (unfold I64; omega)), (by first | omega | decide | (unfold I64; omega)), (by first | omega | decide | (unfold I64; omega)), (by first | omega | decide | (unfold I64; omega)), (by first | omega | decide | (unfold I64; omega)), (by first | omega | decide | (unfold I64; omega)), (by first | omega | decide | (unfold I64; omega)), (by first | omega | decide | (unfold I64; omega)), (by first | omega | decide | (unfold I64; omega)), (by first | omega | decide | (unfold I64; omega)), (by first | omega | decide | (unfold I64; omega)), round_end (i + 1) (by omega) (ent_of [(2, 2), (3, 3), (4, 4), (5, 5)] rfl (tm_cons rfl (sm_ptr rfl) (tm_cons rfl (sm_sl rfl rfl (Nat.le_refl _) (Nat.le_refl _) (by simp)) (tm_cons rfl (sm_ptr rfl) (tm_cons rfl (sm_ptr rfl) (tm_cons rfl (sm_same rfl) (tm_cons rfl (sm_same rfl) tm_nil)))))) (hp_cons rfl rfl (sm_same rfl) (hp_cons rfl rfl (sm_same rfl) (hp_cons rfl rfl (sm_upd2 ?_ fun x z hx hz hne => ?_) (hp_cons rfl rfl (sm_same rfl) hp_nil))))) (by dsimp only; omega)⟩
        · unfold absR
          rw [hii, if_neg (by omega), if_pos (by omega)]
        · unfold absR
          by_cases e : x + 5 * z < i
          · rw [if_pos e, if_pos (by omega)]
          · rw [if_neg e, if_neg (by omega)]
    simp only [decide_eq_false_iff_not] at h2
    obtain rfl : i = 17 := by omega
    refine loop_inv (W := w_rsum) ctx mixed ok_rsum_4 (I_rs4 l m (absR (stR l m) (padN l) (136 * m) 17)) (fun t => t ≤ 24) (fun t => 24 - t) 0 (by decide) ?_ fun t ht => ?_
    · exact ent_of [(2, 2), (3, 3), (4, 4), (5, 5)] rfl (tm_cons rfl (sm_ptr rfl) (tm_cons rfl (sm_sl rfl rfl (Nat.le_refl _) (Nat.le_refl _) (by simp)) (tm_cons rfl (sm_ptr rfl) (tm_cons rfl (sm_ptr rfl) (tm_cons rfl (sm_same rfl) (tm_cons rfl (sm_same rfl) tm_nil)))))) (hp_cons rfl rfl (sm_same rfl) (hp_cons rfl rfl (sm_same rfl) (hp_cons rfl rfl (sm_same rfl) (hp_cons rfl rfl (sm_same rfl) hp_nil))))
    have hpm : ∀ t p, p < 25 → permN (absR (stR l m) (padN l) (136 * m) 17) t p < 2 ^ 64 := permN_lt fun p hp => absR_lt (stR_lt l m) hbs hp
    refine of_eq (rsum_L4 l m (absR (stR l m) (padN l) (136 * m) 17) t 0 _) ⟨fun h3 => ?_, fun h3 => ?_⟩
    · simp only [decide_eq_true_eq] at h3
      rw [flatN_ref]
      exact ⟨(by first | omega | decide | (unfold I64; omega)), rround_fun _ _ (hpm t) (wordsN_lt t), fun _ _ _ _ => trivial, ⟨rfl, rfl, fun _ _ => ⟨rfl, rfl, fun _ _ => ⟨rfl, rfl⟩⟩⟩, (by first | omega | decide | (unfold I64; omega)), round_end (t + 1) (by omega) (ent_of [(2, 2), (3, 3), (4, 4), (5, 5)] rfl (tm_cons rfl (sm_ptr rfl) (tm_cons rfl (sm_sl rfl rfl (Nat.le_refl _) (Nat.le_refl _) (by simp)) (tm_cons rfl (sm_ptr rfl) (tm_cons rfl (sm_ptr rfl) (tm_cons rfl (sm_same rfl) (tm_cons rfl (sm_same rfl) tm_nil)))))) (hp_cons rfl rfl (sm_same rfl) (hp_cons rfl rfl (sm_same rfl) (hp_cons rfl rfl (sm_same rfl) (hp_cons rfl rfl (sm_same rfl) hp_nil))))) (by dsimp only; omega)⟩
    · simp only [decide_eq_false_iff_not] at h3
      obtain rfl : t = 24 := by omega
      refine ⟨(by first | omega | decide | (unfold I64; omega)), round_end (m + 1) (by omega) (ent_of [(2, 2), (3, 3), (4, 4), (5, 5)] rfl (tm_cons rfl (sm_ptr rfl) (tm_cons rfl (sm_sl rfl rfl (Nat.le_refl _) (Nat.le_refl _) (by simp)) (tm_cons rfl (sm_ptr rfl) (tm_cons rfl (sm_ptr rfl) (tm_cons rfl (sm_int (by omega)) tm_nil))))) (hp_cons rfl rfl (sm_same rfl) (hp_cons rfl rfl (sm_same rfl) (hp_cons rfl rfl (sm_ref fun x z hx hz => ?_) (hp_cons rfl rfl (sm_same rfl) hp_nil))))) (by dsimp only; omega)⟩
      refine permN_congr (fun p hp => ?_) 24 _ (by omega)
      rw [absN_block hbs]
      rfl
  simp only [decide_eq_false_iff_not] at h
  obtain rfl : m = l.length / 136 + 1 := by omega
  refine cut_ok (S2 := S_rs24 (stR l (l.length / 136 + 1))) (ent_of [(2, 2), (4, 4)] rfl (tm_cons rfl (sm_ptr rfl) (tm_cons rfl (sm_ptr rfl) tm_nil)) (hp_cons rfl rfl (sm_same rfl) (hp_cons rfl rfl (sm_same rfl) hp_nil))) ?_
  have hst := stR_lt l (l.length / 136 + 1)
  refine of_eq (rsum_C24 _ 0 _) ⟨⟨rfl, rfl, fun _ _ => ⟨rfl, rfl⟩⟩, ?_⟩
  refine loop_inv (W := w_rsum) ctx mixed ok_rsum_5 (I_rs5 (stR l (l.length / 136 + 1))) (fun i => i ≤ 32) (fun i => 32 - i) 0 (by decide) ?_ fun i hi => ?_
  · exact ent_of [(2, 2), (4, 4), (11, 11)] rfl (tm_cons rfl (sm_ptr rfl) (tm_cons rfl (sm_ptr rfl) (tm_cons rfl (sm_ptr rfl) (tm_cons rfl (sm_same rfl) tm_nil)))) (hp_cons rfl rfl (sm_same rfl) (hp_cons rfl rfl (sm_same rfl) (hp_cons rfl rfl (sm_arr fun j _ => rfl) hp_nil)))
  refine of_eq (rsum_L5 _ i 0 _) ⟨fun h2 => ?_, fun h2 => ?_⟩
  · simp only [decide_eq_true_eq] at h2
    rw [shr64 _ _ (hst _ (by omega)), wrap_u8]
    refine ⟨(by first | omega | decide | (unfold I64; omega)), (by first | omega | decide | (unfold I64; omega)), (by first | omega | decide | (unfold I64; omega)), (by first | omega | decide | (unfold I64; omega)), (by first | omega | decide | (unfold I64; omega)), (by first | omega | decide | (unfold I64; omega)), (by first | omega | decide | (unfold I64; omega)), (by first | omega | decide | (unfold I64; omega)), (by first | omega | decide | (unfold I64; omega)), round_end (i + 1) (by omega) (ent_of [(2, 2), (4, 4), (11, 11)] rfl (tm_cons rfl (sm_ptr rfl) (tm_cons rfl (sm_ptr rfl) (tm_cons rfl (sm_ptr rfl) (tm_cons rfl (sm_same rfl) tm_nil)))) (hp_cons rfl rfl (sm_same rfl) (hp_cons rfl rfl (sm_same rfl) (hp_cons rfl rfl (sm_arr fun j _ => ?_) hp_nil)))) (by dsimp only; omega)⟩
    show _ = u8 (if j < i + 1 then outN (stR l (l.length / 136 + 1)) j else 0)
    by_cases e : j = i
    · rw [if_pos e, if_pos (by omega), e]; rfl
    · rw [if_neg e]
      by_cases e2 : j < i
      · rw [if_pos e2, if_pos (by omega)]
      · rw [if_neg e2, if_neg (by omega)]
  simp only [decide_eq_false_iff_not] at h2
  obtain rfl : i = 32 := by omega
  refine ⟨⟨rfl, rfl, fun _ _ => ⟨rfl, rfl⟩⟩, post_cell rfl rfl (sm_arr fun k hk => ?_) rfl⟩
  rw [if_pos hk]
  unfold outN sumN
  rw [stR_last l (by omega)]
end Go.Bu.W

