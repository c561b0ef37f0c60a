/- The digits of a hash, and reading them: the walks. -/
import Derived.Test.YtfhdnaonihhjjaaDoorKR1
import Derived.Test.YtfhdnaonihhjjaaDoorK10
namespace Go.Bu.W
open Sp
def errV (b : Bool) : Int := match b with | true => 0 | false => 3
def sumV (s : List UInt8) : AV := .arr 32 1 (fun k => u8 (sumVal s k))
def crDigit : List AV → Option (AV × List (Nat × Blk))
  | [x] => some (i64 (hexV (asN x)), [])
  | _ => none
def crIndexByte : List AV → Option (AV × List (Nat × Blk))
  | [.v (.string s), x] => some (.i (Lib.indexByte s.data.toList (asI x).toNat.toUInt8), [])
  | _ => none
def crParse : List AV → Option (AV × List (Nat × Blk))
  | [.v (.string s)] => some (.tup [sumV s.data.toList, .i (errV (okL s.data.toList))], [])
  | _ => none
def crRParse : List AV → Option (AV × List (Nat × Blk))
  | [.v (.string s)] => some (.st [sumV s.data.toList, .sb (okL s.data.toList)], [])
  | _ => none
def crHex (g : Nat) (args : List AV) (H : List (Nat × Blk)) : Option (AV × List (Nat × Blk)) :=
  sel (Nat.beq g F_digit) (crDigit args) <| sel (Nat.beq g F_indexbyte) (crIndexByte args) <| sel (Nat.beq g F_parse) (crParse args) <| sel (Nat.beq g F_rparse) (crRParse args) <| sel (Nat.beq g F_rprint) (crPrint args) <| crRef g args H
def wayH (keep : List Nat) (nt : Nat) (cuts : List Nat) : Way := ⟨crHex, fun _ => false, keep, [], nt, cuts⟩
def w_digit : Way := wayH [0, 2, 3, 5, 11] 13 []
def w_parse : Way := wayH [0, 2, 3, 4, 5, 6, 9, 12, 13, 14, 21] 36 []
def w_rparse : Way := wayH [0, 2, 3, 4, 5, 6, 10, 13, 32] 43 []
def I_dg0 (c : Nat) (i : Nat) : St := { tm := [(0, u8 c), (2, i64 0), (3, i64 i)], hp := [], seen := [] }
def I_pa0 (s : ByteArray) (i : Nat) : St := { tm := [(0, .v (.string s)), (2, .ptr 2 []), (3, .i 0), (4, .ptr 4 []), (12, i64 64), (13, i64 i)], hp := [(2, .c (zb 32)), (4, .c (.arr 32 1 (fun k => u8 (nib s.data.toList i k))))], seen := [2, 4] }
def I_rp0 (s : ByteArray) (i : Nat) : St := { tm := [(0, .v (.string s)), (2, .ptr 2 []), (3, .ptr 3 []), (4, i64 i)], hp := [(2, .c (.st [zb 32, .v (.bool false)])), (3, .c (.arr 32 1 (fun k => u8 (nib s.data.toList (2 * i) k))))], seen := [2, 3] }

theorem digit_A (c : Nat) (K : Nat) (Φ : Ex → St → Prop) :
  (Holds C P 13 [] K Φ (vc C w_digit b_digit [] (start [u8 c] []) lf)) =
  (LoopOK W.C W.P (13 : Nat) [] K (bodyAt b_digit [1, 0, 1, 0]) (St.mk [((0 : Nat), (AV.v (Value.int IntKind.u8 ((c : Nat) : Int)))), ((2 : Nat), (AV.v (Value.int IntKind.i64 (0 : Int)))), ((3 : Nat), (AV.v (Value.int IntKind.i64 (0 : Int))))] [] []) (fun (e : Ex) (S' : St) => Holds W.C W.P (13 : Nat) [] K Φ (after W.C w_digit b_digit [1, 0, 1, 0] [] lf e S'))) := by kernel_rfl
noncomputable abbrev bd_digit_0 : Code := bodyAt (b_digit) [1, 0, 1, 0]
theorem ok_digit_0 : codeOK bd_digit_0 = true := by kernel_rfl
noncomputable abbrev rest_digit_0 (K : Nat) (Φ : Ex → St → Prop) : Ex → St → Prop := fun e S' => Holds C P 13 [] K Φ (after C w_digit (b_digit) [1, 0, 1, 0] [] lf e S')
theorem digit_L0 (c : Nat) (i : Nat) (K : Nat) (Φ : Ex → St → Prop) :
  (Holds C P 13 [] K (RoundQ C 13 [] K (I_dg0 c) (fun i => i ≤ 16 ∧ ∀ j, j < i → digN j ≠ c) (fun i => 16 - i) ((fun i => 16 - i) (i)) (rest_digit_0 K Φ)) (vc C w_digit bd_digit_0 [] ((I_dg0 c) (i)) lf)) =
  (((decide (((i : Nat) : Int) < (16 : Int))) = true → 
 ((((0 : Int) ≤ ((i : Nat) : Int)) ∧ (((i : Nat) : Int) < (16 : Int))) ∧
  ((((((UInt8.toNat (List.getD [(48 : UInt8), (49 : UInt8), (50 : UInt8), (51 : UInt8), (52 : UInt8), (53 : UInt8), (54 : UInt8), (55 : UInt8), (56 : UInt8), (57 : UInt8), (97 : UInt8), (98 : UInt8), (99 : UInt8), (100 : UInt8), (101 : UInt8), (102 : UInt8)] i (0 : UInt8))) : Nat) : Int) == ((c : Nat) : Int)) = true → 
  (Φ Ex.ret (St.mk [((0 : Nat), (AV.v (Value.int IntKind.u8 ((c : Nat) : Int)))), ((2 : Nat), (AV.v (Value.int IntKind.i64 ((i : Nat) : Int)))), ((3 : Nat), (AV.v (Value.int IntKind.i64 ((i : Nat) : Int)))), ((5 : Nat), (AV.v (Value.bool true))), ((11 : Nat), (AV.v (Value.bool true)))] [] []))) ∧
  (((((UInt8.toNat (List.getD [(48 : UInt8), (49 : UInt8), (50 : UInt8), (51 : UInt8), (52 : UInt8), (53 : UInt8), (54 : UInt8), (55 : UInt8), (56 : UInt8), (57 : UInt8), (97 : UInt8), (98 : UInt8), (99 : UInt8), (100 : UInt8), (101 : UInt8), (102 : UInt8)] i (0 : UInt8))) : Nat) : Int) == ((c : Nat) : Int)) = false → 
  ((I64 (((i + 1) : Nat) : Int)) ∧
   ((RoundQ C 13 [] K (I_dg0 c) (fun i => i ≤ 16 ∧ ∀ j, j < i → digN j ≠ c) (fun i => 16 - i) ((fun i => 16 - i) (i)) (rest_digit_0 K Φ)) Ex.normal (St.mk [((0 : Nat), (AV.v (Value.int IntKind.u8 ((c : Nat) : Int)))), ((2 : Nat), (AV.v (Value.int IntKind.i64 (0 : Int)))), ((3 : Nat), (AV.v (Value.int IntKind.i64 (((i + 1) : Nat) : Int)))), ((5 : Nat), (AV.v (Value.bool true))), ((11 : Nat), (AV.v (Value.bool false)))] [] []))))))) ∧
 ((decide (((i : Nat) : Int) < (16 : Int))) = false → 
 (Φ Ex.ret (St.mk [((0 : Nat), (AV.v (Value.int IntKind.u8 ((c : Nat) : Int)))), ((2 : Nat), (AV.v (Value.int IntKind.i64 (16 : Int)))), ((3 : Nat), (AV.v (Value.int IntKind.i64 ((i : Nat) : Int)))), ((5 : Nat), (AV.v (Value.bool false)))] [] [])))) := by kernel_rfl
theorem parse_A (s : ByteArray) (K : Nat) (Φ : Ex → St → Prop) :
  (Holds C P 36 [] K Φ (vc C w_parse b_parse [] (start [.v (.string s)] []) lf)) =
  ((((((ByteArray.size s) : Nat) : Int) != (64 : Int)) = true → 
 ((((32 : Nat) = (32 : Nat)) ∧ (((1 : Nat) = (1 : Nat)) ∧ (∀ (i : Nat), ((i < (32 : Nat)) → ((true = true) ∧ (true = true)))))) ∧
  (Φ Ex.ret (St.mk [((0 : Nat), (AV.v (Value.string s))), ((2 : Nat), (AV.ptr (2 : Nat) [])), ((3 : Nat), (AV.v (Value.int IntKind.i64 (3 : Int)))), ((4 : Nat), (AV.ptr (4 : Nat) [])), ((9 : Nat), (AV.v (Value.bool true)))] [((2 : Nat), (Blk.c (AV.arr (32 : Nat) (1 : Nat) (fun (x : Nat) => (AV.v (Value.int IntKind.u8 (0 : Int))))))), ((4 : Nat), (Blk.c (AV.arr (32 : Nat) (1 : Nat) (fun (x : Nat) => (AV.v (Value.int IntKind.u8 (0 : Int)))))))] [(4 : Nat), (2 : Nat)])))) ∧
 (((((ByteArray.size s) : Nat) : Int) != (64 : Int)) = false → 
 (LoopOK W.C W.P (36 : Nat) [] K (bodyAt b_parse [1, 1, 1, 0, 1, 0]) (St.mk [((0 : Nat), (AV.v (Value.string s))), ((2 : Nat), (AV.ptr (2 : Nat) [])), ((3 : Nat), (AV.v (Value.int IntKind.i64 (0 : Int)))), ((4 : Nat), (AV.ptr (4 : Nat) [])), ((9 : Nat), (AV.v (Value.bool false))), ((12 : Nat), (AV.v (Value.int IntKind.i64 (((ByteArray.size s) : Nat) : Int)))), ((13 : Nat), (AV.v (Value.int IntKind.i64 (0 : Int))))] [((2 : Nat), (Blk.c (AV.arr (32 : Nat) (1 : Nat) (fun (x : Nat) => (AV.v (Value.int IntKind.u8 (0 : Int))))))), ((4 : Nat), (Blk.c (AV.arr (32 : Nat) (1 : Nat) (fun (x : Nat) => (AV.v (Value.int IntKind.u8 (0 : Int)))))))] [(4 : Nat), (2 : Nat)]) (fun (e : Ex) (S' : St) => Holds W.C W.P (36 : Nat) [] K Φ (after W.C w_parse b_parse [1, 1, 1, 0, 1, 0] [] lf e S'))))) := by kernel_rfl
noncomputable abbrev bd_parse_0 : Code := bodyAt (b_parse) [1, 1, 1, 0, 1, 0]
theorem ok_parse_0 : codeOK bd_parse_0 = true := by kernel_rfl
noncomputable abbrev rest_parse_0 (K : Nat) (Φ : Ex → St → Prop) : Ex → St → Prop := fun e S' => Holds C P 36 [] K Φ (after C w_parse (b_parse) [1, 1, 1, 0, 1, 0] [] lf e S')
theorem parse_L0 (s : ByteArray) (i : Nat) (K : Nat) (Φ : Ex → St → Prop) :
  (Holds C P 36 [] K (RoundQ C 36 [] K (I_pa0 s) (fun i => s.data.toList.length = 64 ∧ i ≤ 64 ∧ ∀ j, j < i → hexV (cN' s.data.toList j) < 16) (fun i => 64 - i) ((fun i => 64 - i) (i)) (rest_parse_0 K Φ)) (vc C w_parse bd_parse_0 [] ((I_pa0 s) (i)) lf)) =
  (((decide (((i : Nat) : Int) < (64 : Int))) = true → 
 ((((0 : Int) ≤ ((i : Nat) : Int)) ∧ (((i : Nat) : Int) < (((ByteArray.size s) : Nat) : Int))) ∧
  (Fun W.C W.P (33 : Nat) [(AV.v (Value.string (ByteArray.mk (List.toArray [(48 : UInt8), (49 : UInt8), (50 : UInt8), (51 : UInt8), (52 : UInt8), (53 : UInt8), (54 : UInt8), (55 : UInt8), (56 : UInt8), (57 : UInt8), (97 : UInt8), (98 : UInt8), (99 : UInt8), (100 : UInt8), (101 : UInt8), (102 : UInt8)])))), (AV.v (Value.int IntKind.u8 (((UInt8.toNat (List.getD (Array.toList (ByteArray.data s)) i (0 : UInt8))) : Nat) : Int)))] [] (AV.v (Value.int IntKind.i64 (Lib.indexByte [(48 : UInt8), (49 : UInt8), (50 : UInt8), (51 : UInt8), (52 : UInt8), (53 : UInt8), (54 : UInt8), (55 : UInt8), (56 : UInt8), (57 : UInt8), (97 : UInt8), (98 : UInt8), (99 : UInt8), (100 : UInt8), (101 : UInt8), (102 : UInt8)] (Nat.toUInt8 (Int.toNat (((UInt8.toNat (List.getD (Array.toList (ByteArray.data s)) i (0 : UInt8))) : Nat) : Int)))))) [] ∧
  (True ∧
  (((decide ((Lib.indexByte [(48 : UInt8), (49 : UInt8), (50 : UInt8), (51 : UInt8), (52 : UInt8), (53 : UInt8), (54 : UInt8), (55 : UInt8), (56 : UInt8), (57 : UInt8), (97 : UInt8), (98 : UInt8), (99 : UInt8), (100 : UInt8), (101 : UInt8), (102 : UInt8)] (Nat.toUInt8 (Int.toNat (((UInt8.toNat (List.getD (Array.toList (ByteArray.data s)) i (0 : UInt8))) : Nat) : Int)))) < (0 : Int))) = true → 
  ((((32 : Nat) = (32 : Nat)) ∧ (((1 : Nat) = (1 : Nat)) ∧ (∀ (i1 : Nat), ((i1 < (32 : Nat)) → ((true = true) ∧ (Bool.true = true)))))) ∧
   (Φ Ex.ret (St.mk [((0 : Nat), (AV.v (Value.string s))), ((2 : Nat), (AV.ptr (2 : Nat) [])), ((3 : Nat), (AV.v (Value.int IntKind.i64 (3 : Int)))), ((4 : Nat), (AV.ptr (4 : Nat) [])), ((5 : Nat), (AV.v (Value.int IntKind.i64 ((i : Nat) : Int)))), ((6 : Nat), (AV.v (Value.int IntKind.i64 (Lib.indexByte [(48 : UInt8), (49 : UInt8), (50 : UInt8), (51 : UInt8), (52 : UInt8), (53 : UInt8), (54 : UInt8), (55 : UInt8), (56 : UInt8), (57 : UInt8), (97 : UInt8), (98 : UInt8), (99 : UInt8), (100 : UInt8), (101 : UInt8), (102 : UInt8)] (Nat.toUInt8 (Int.toNat (((UInt8.toNat (List.getD (Array.toList (ByteArray.data s)) i (0 : UInt8))) : Nat) : Int))))))), ((12 : Nat), (AV.v (Value.int IntKind.i64 (64 : Int)))), ((13 : Nat), (AV.v (Value.int IntKind.i64 ((i : Nat) : Int)))), ((14 : Nat), (AV.v (Value.bool true))), ((21 : Nat), (AV.v (Value.bool true)))] [((2 : Nat), (Blk.c (AV.arr (32 : Nat) (1 : Nat) (fun (x : Nat) => (AV.v (Value.int IntKind.u8 (0 : Int))))))), ((4 : Nat), (Blk.c (AV.arr (32 : Nat) (1 : Nat) (fun (k : Nat) => (AV.v (Value.int IntKind.u8 (((Sp.nib (Array.toList (ByteArray.data s)) i k) : Nat) : Int)))))))] [(2 : Nat), (4 : Nat)])))) ∧
  ((decide ((Lib.indexByte [(48 : UInt8), (49 : UInt8), (50 : UInt8), (51 : UInt8), (52 : UInt8), (53 : UInt8), (54 : UInt8), (55 : UInt8), (56 : UInt8), (57 : UInt8), (97 : UInt8), (98 : UInt8), (99 : UInt8), (100 : UInt8), (101 : UInt8), (102 : UInt8)] (Nat.toUInt8 (Int.toNat (((UInt8.toNat (List.getD (Array.toList (ByteArray.data s)) i (0 : UInt8))) : Nat) : Int)))) < (0 : Int))) = false → 
  (((2 : Int) ≠ (0 : Int)) ∧
   ((I64 (((i / 2) : Nat) : Int)) ∧
   (((2 : Int) ≠ (0 : Int)) ∧
   ((I64 (((i / 2) : Nat) : Int)) ∧
   ((((0 : Int) ≤ (((i / 2) : Nat) : Int)) ∧ ((((i / 2) : Nat) : Int) < (32 : Int))) ∧
   (((0 : Int) ≤ (4 : Int)) ∧
   ((((0 : Int) ≤ (((i / 2) : Nat) : Int)) ∧ ((((i / 2) : Nat) : Int) < (32 : Int))) ∧
   ((I64 (((i + 1) : Nat) : Int)) ∧
   ((RoundQ C 36 [] K (I_pa0 s) (fun i => s.data.toList.length = 64 ∧ i ≤ 64 ∧ ∀ j, j < i → hexV (cN' s.data.toList j) < 16) (fun i => 64 - i) ((fun i => 64 - i) (i)) (rest_parse_0 K Φ)) Ex.normal (St.mk [((0 : Nat), (AV.v (Value.string s))), ((2 : Nat), (AV.ptr (2 : Nat) [])), ((3 : Nat), (AV.v (Value.int IntKind.i64 (0 : Int)))), ((4 : Nat), (AV.ptr (4 : Nat) [])), ((5 : Nat), (AV.v (Value.int IntKind.i64 ((i : Nat) : Int)))), ((6 : Nat), (AV.v (Value.int IntKind.i64 (Lib.indexByte [(48 : UInt8), (49 : UInt8), (50 : UInt8), (51 : UInt8), (52 : UInt8), (53 : UInt8), (54 : UInt8), (55 : UInt8), (56 : UInt8), (57 : UInt8), (97 : UInt8), (98 : UInt8), (99 : UInt8), (100 : UInt8), (101 : UInt8), (102 : UInt8)] (Nat.toUInt8 (Int.toNat (((UInt8.toNat (List.getD (Array.toList (ByteArray.data s)) i (0 : UInt8))) : Nat) : Int))))))), ((12 : Nat), (AV.v (Value.int IntKind.i64 (64 : Int)))), ((13 : Nat), (AV.v (Value.int IntKind.i64 (((i + 1) : Nat) : Int)))), ((14 : Nat), (AV.v (Value.bool true))), ((21 : Nat), (AV.v (Value.bool false)))] [((2 : Nat), (Blk.c (AV.arr (32 : Nat) (1 : Nat) (fun (x : Nat) => (AV.v (Value.int IntKind.u8 (0 : Int))))))), ((4 : Nat), (Blk.c (AV.arr (32 : Nat) (1 : Nat) (fun (j : Nat) => (if (j = (i / 2)) then (AV.v (Value.int IntKind.u8 (bOr IntKind.u8 (bShl IntKind.u8 (((Sp.nib (Array.toList (ByteArray.data s)) i (i / 2)) : Nat) : Int) (4 : Int)) (IntKind.wrap IntKind.u8 (Lib.indexByte [(48 : UInt8), (49 : UInt8), (50 : UInt8), (51 : UInt8), (52 : UInt8), (53 : UInt8), (54 : UInt8), (55 : UInt8), (56 : UInt8), (57 : UInt8), (97 : UInt8), (98 : UInt8), (99 : UInt8), (100 : UInt8), (101 : UInt8), (102 : UInt8)] (Nat.toUInt8 (Int.toNat (((UInt8.toNat (List.getD (Array.toList (ByteArray.data s)) i (0 : UInt8))) : Nat) : Int)))))))) else (AV.v (Value.int IntKind.u8 (((Sp.nib (Array.toList (ByteArray.data s)) i j) : Nat) : Int))))))))] [(2 : Nat), (4 : Nat)])))))))))))))))) ∧
 ((decide (((i : Nat) : Int) < (64 : Int))) = false → 
 ((((32 : Nat) = (32 : Nat)) ∧ (((1 : Nat) = (1 : Nat)) ∧ (∀ (i1 : Nat), ((i1 < (32 : Nat)) → ((true = true) ∧ (Bool.true = true)))))) ∧
  (Φ Ex.ret (St.mk [((0 : Nat), (AV.v (Value.string s))), ((2 : Nat), (AV.ptr (2 : Nat) [])), ((3 : Nat), (AV.v (Value.int IntKind.i64 (0 : Int)))), ((4 : Nat), (AV.ptr (4 : Nat) [])), ((12 : Nat), (AV.v (Value.int IntKind.i64 (64 : Int)))), ((13 : Nat), (AV.v (Value.int IntKind.i64 ((i : Nat) : Int)))), ((14 : Nat), (AV.v (Value.bool false)))] [((2 : Nat), (Blk.c (AV.arr (32 : Nat) (1 : Nat) (fun (k : Nat) => (AV.v (Value.int IntKind.u8 (((Sp.nib (Array.toList (ByteArray.data s)) i k) : Nat) : Int))))))), ((4 : Nat), (Blk.c (AV.arr (32 : Nat) (1 : Nat) (fun (k : Nat) => (AV.v (Value.int IntKind.u8 (((Sp.nib (Array.toList (ByteArray.data s)) i k) : Nat) : Int)))))))] [(2 : Nat), (4 : Nat)]))))) := by kernel_rfl
theorem rparse_A (s : ByteArray) (K : Nat) (Φ : Ex → St → Prop) :
  (Holds C P 43 [] K Φ (vc C w_rparse b_rparse [] (start [.v (.string s)] []) lf)) =
  ((((32 : Nat) = (32 : Nat)) ∧ (((1 : Nat) = (1 : Nat)) ∧ (∀ (i : Nat), ((i < (32 : Nat)) → ((true = true) ∧ (Bool.true = true)))))) ∧
 ((((((ByteArray.size s) : Nat) : Int) != (64 : Int)) = true → 
 (((((32 : Nat) = (32 : Nat)) ∧ (((1 : Nat) = (1 : Nat)) ∧ (∀ (i : Nat), ((i < (32 : Nat)) → ((true = true) ∧ (true = true)))))) ∧ (((true = true) ∧ (true = true)) ∧ True)) ∧
  (Φ Ex.ret (St.mk [((0 : Nat), (AV.v (Value.string s))), ((2 : Nat), (AV.ptr (2 : Nat) [])), ((3 : Nat), (AV.ptr (3 : Nat) [])), ((10 : Nat), (AV.v (Value.bool true)))] [((2 : Nat), (Blk.c (AV.st [(AV.arr (32 : Nat) (1 : Nat) (fun (x : Nat) => (AV.v (Value.int IntKind.u8 (0 : Int))))), (AV.v (Value.bool false))]))), ((3 : Nat), (Blk.c (AV.arr (32 : Nat) (1 : Nat) (fun (x : Nat) => (AV.v (Value.int IntKind.u8 (0 : Int)))))))] [(3 : Nat), (2 : Nat)])))) ∧
 (((((ByteArray.size s) : Nat) : Int) != (64 : Int)) = false → 
 (LoopOK W.C W.P (43 : Nat) [] K (bodyAt b_rparse [1, 1, 1, 0, 1, 0]) (St.mk [((0 : Nat), (AV.v (Value.string s))), ((2 : Nat), (AV.ptr (2 : Nat) [])), ((3 : Nat), (AV.ptr (3 : Nat) [])), ((4 : Nat), (AV.v (Value.int IntKind.i64 (0 : Int)))), ((10 : Nat), (AV.v (Value.bool false)))] [((2 : Nat), (Blk.c (AV.st [(AV.arr (32 : Nat) (1 : Nat) (fun (x : Nat) => (AV.v (Value.int IntKind.u8 (0 : Int))))), (AV.v (Value.bool false))]))), ((3 : Nat), (Blk.c (AV.arr (32 : Nat) (1 : Nat) (fun (x : Nat) => (AV.v (Value.int IntKind.u8 (0 : Int)))))))] [(3 : Nat), (2 : Nat)]) (fun (e : Ex) (S' : St) => Holds W.C W.P (43 : Nat) [] K Φ (after W.C w_rparse b_rparse [1, 1, 1, 0, 1, 0] [] lf e S')))))) := by kernel_rfl
noncomputable abbrev bd_rparse_0 : Code := bodyAt (b_rparse) [1, 1, 1, 0, 1, 0]
theorem ok_rparse_0 : codeOK bd_rparse_0 = true := by kernel_rfl
noncomputable abbrev rest_rparse_0 (K : Nat) (Φ : Ex → St → Prop) : Ex → St → Prop := fun e S' => Holds C P 43 [] K Φ (after C w_rparse (b_rparse) [1, 1, 1, 0, 1, 0] [] lf e S')
theorem rparse_L0 (s : ByteArray) (i : Nat) (K : Nat) (Φ : Ex → St → Prop) :
  (Holds C P 43 [] K (RoundQ C 43 [] K (I_rp0 s) (fun i => s.data.toList.length = 64 ∧ i ≤ 32 ∧ ∀ j, j < 2 * i → hexV (cN' s.data.toList j) < 16) (fun i => 32 - i) ((fun i => 32 - i) (i)) (rest_rparse_0 K Φ)) (vc C w_rparse bd_rparse_0 [] ((I_rp0 s) (i)) lf)) =
  (((decide (((i : Nat) : Int) < (32 : Int))) = true → 
 ((I64 (((2 * i) : Nat) : Int)) ∧
  ((((0 : Int) ≤ (((2 * i) : Nat) : Int)) ∧ ((((2 * i) : Nat) : Int) < (((ByteArray.size s) : Nat) : Int))) ∧
  (Fun W.C W.P (34 : Nat) [(AV.v (Value.int IntKind.u8 (((UInt8.toNat (List.getD (Array.toList (ByteArray.data s)) (2 * i) (0 : UInt8))) : Nat) : Int)))] [] (AV.v (Value.int IntKind.i64 (((Sp.hexV (UInt8.toNat (List.getD (Array.toList (ByteArray.data s)) (2 * i) (0 : UInt8)))) : Nat) : Int))) [] ∧
  (True ∧
  ((I64 (((2 * i) : Nat) : Int)) ∧
  ((I64 ((((2 * i) + 1) : Nat) : Int)) ∧
  ((((0 : Int) ≤ ((((2 * i) + 1) : Nat) : Int)) ∧ (((((2 * i) + 1) : Nat) : Int) < (((ByteArray.size s) : Nat) : Int))) ∧
  (Fun W.C W.P (34 : Nat) [(AV.v (Value.int IntKind.u8 (((UInt8.toNat (List.getD (Array.toList (ByteArray.data s)) ((2 * i) + 1) (0 : UInt8))) : Nat) : Int)))] [] (AV.v (Value.int IntKind.i64 (((Sp.hexV (UInt8.toNat (List.getD (Array.toList (ByteArray.data s)) ((2 * i) + 1) (0 : UInt8)))) : Nat) : Int))) [] ∧
  (True ∧
  ((((((Sp.hexV (UInt8.toNat (List.getD (Array.toList (ByteArray.data s)) (2 * i) (0 : UInt8)))) : Nat) : Int) == (16 : Int)) = true → 
  (((((32 : Nat) = (32 : Nat)) ∧ (((1 : Nat) = (1 : Nat)) ∧ (∀ (i1 : Nat), ((i1 < (32 : Nat)) → ((true = true) ∧ (true = true)))))) ∧ (((true = true) ∧ (true = true)) ∧ True)) ∧
   (Φ Ex.ret (St.mk [((0 : Nat), (AV.v (Value.string s))), ((2 : Nat), (AV.ptr (2 : Nat) [])), ((3 : Nat), (AV.ptr (3 : Nat) [])), ((4 : Nat), (AV.v (Value.int IntKind.i64 ((i : Nat) : Int)))), ((5 : Nat), (AV.v (Value.int IntKind.i64 (((Sp.hexV (UInt8.toNat (List.getD (Array.toList (ByteArray.data s)) (2 * i) (0 : UInt8)))) : Nat) : Int)))), ((6 : Nat), (AV.v (Value.int IntKind.i64 (((Sp.hexV (UInt8.toNat (List.getD (Array.toList (ByteArray.data s)) ((2 * i) + 1) (0 : UInt8)))) : Nat) : Int)))), ((13 : Nat), (AV.v (Value.bool true))), ((32 : Nat), (AV.v (Value.bool true)))] [((2 : Nat), (Blk.c (AV.st [(AV.arr (32 : Nat) (1 : Nat) (fun (x : Nat) => (AV.v (Value.int IntKind.u8 (0 : Int))))), (AV.v (Value.bool false))]))), ((3 : Nat), (Blk.c (AV.arr (32 : Nat) (1 : Nat) (fun (k : Nat) => (AV.v (Value.int IntKind.u8 (((Sp.nib (Array.toList (ByteArray.data s)) ((2 : Nat) * i) k) : Nat) : Int)))))))] [(2 : Nat), (3 : Nat)])))) ∧
  (((((Sp.hexV (UInt8.toNat (List.getD (Array.toList (ByteArray.data s)) (2 * i) (0 : UInt8)))) : Nat) : Int) == (16 : Int)) = false → 
  ((((((Sp.hexV (UInt8.toNat (List.getD (Array.toList (ByteArray.data s)) ((2 * i) + 1) (0 : UInt8)))) : Nat) : Int) == (16 : Int)) = true → 
   (((((32 : Nat) = (32 : Nat)) ∧ (((1 : Nat) = (1 : Nat)) ∧ (∀ (i1 : Nat), ((i1 < (32 : Nat)) → ((true = true) ∧ (true = true)))))) ∧ (((true = true) ∧ (true = true)) ∧ True)) ∧
    (Φ Ex.ret (St.mk [((0 : Nat), (AV.v (Value.string s))), ((2 : Nat), (AV.ptr (2 : Nat) [])), ((3 : Nat), (AV.ptr (3 : Nat) [])), ((4 : Nat), (AV.v (Value.int IntKind.i64 ((i : Nat) : Int)))), ((5 : Nat), (AV.v (Value.int IntKind.i64 (((Sp.hexV (UInt8.toNat (List.getD (Array.toList (ByteArray.data s)) (2 * i) (0 : UInt8)))) : Nat) : Int)))), ((6 : Nat), (AV.v (Value.int IntKind.i64 (((Sp.hexV (UInt8.toNat (List.getD (Array.toList (ByteArray.data s)) ((2 * i) + 1) (0 : UInt8)))) : Nat) : Int)))), ((13 : Nat), (AV.v (Value.bool true))), ((32 : Nat), (AV.v (Value.bool true)))] [((2 : Nat), (Blk.c (AV.st [(AV.arr (32 : Nat) (1 : Nat) (fun (x : Nat) => (AV.v (Value.int IntKind.u8 (0 : Int))))), (AV.v (Value.bool false))]))), ((3 : Nat), (Blk.c (AV.arr (32 : Nat) (1 : Nat) (fun (k : Nat) => (AV.v (Value.int IntKind.u8 (((Sp.nib (Array.toList (ByteArray.data s)) ((2 : Nat) * i) k) : Nat) : Int)))))))] [(2 : Nat), (3 : Nat)])))) ∧
   (((((Sp.hexV (UInt8.toNat (List.getD (Array.toList (ByteArray.data s)) ((2 * i) + 1) (0 : UInt8)))) : Nat) : Int) == (16 : Int)) = false → 
   ((I64 (((16 * (Sp.hexV (UInt8.toNat (List.getD (Array.toList (ByteArray.data s)) (2 * i) (0 : UInt8))))) : Nat) : Int)) ∧
    ((I64 ((((16 * (Sp.hexV (UInt8.toNat (List.getD (Array.toList (ByteArray.data s)) (2 * i) (0 : UInt8))))) + (Sp.hexV (UInt8.toNat (List.getD (Array.toList (ByteArray.data s)) ((2 * i) + 1) (0 : UInt8))))) : Nat) : Int)) ∧
    ((((0 : Int) ≤ ((i : Nat) : Int)) ∧ (((i : Nat) : Int) < (32 : Int))) ∧
    ((I64 (((i + 1) : Nat) : Int)) ∧
    ((RoundQ C 43 [] K (I_rp0 s) (fun i => s.data.toList.length = 64 ∧ i ≤ 32 ∧ ∀ j, j < 2 * i → hexV (cN' s.data.toList j) < 16) (fun i => 32 - i) ((fun i => 32 - i) (i)) (rest_rparse_0 K Φ)) Ex.normal (St.mk [((0 : Nat), (AV.v (Value.string s))), ((2 : Nat), (AV.ptr (2 : Nat) [])), ((3 : Nat), (AV.ptr (3 : Nat) [])), ((4 : Nat), (AV.v (Value.int IntKind.i64 (((i + 1) : Nat) : Int)))), ((5 : Nat), (AV.v (Value.int IntKind.i64 (((Sp.hexV (UInt8.toNat (List.getD (Array.toList (ByteArray.data s)) (2 * i) (0 : UInt8)))) : Nat) : Int)))), ((6 : Nat), (AV.v (Value.int IntKind.i64 (((Sp.hexV (UInt8.toNat (List.getD (Array.toList (ByteArray.data s)) ((2 * i) + 1) (0 : UInt8)))) : Nat) : Int)))), ((13 : Nat), (AV.v (Value.bool true))), ((32 : Nat), (AV.v (Value.bool false)))] [((2 : Nat), (Blk.c (AV.st [(AV.arr (32 : Nat) (1 : Nat) (fun (x : Nat) => (AV.v (Value.int IntKind.u8 (0 : Int))))), (AV.v (Value.bool false))]))), ((3 : Nat), (Blk.c (AV.arr (32 : Nat) (1 : Nat) (fun (j : Nat) => (if (j = i) then (AV.v (Value.int IntKind.u8 (IntKind.wrap IntKind.u8 ((((16 * (Sp.hexV (UInt8.toNat (List.getD (Array.toList (ByteArray.data s)) (2 * i) (0 : UInt8))))) + (Sp.hexV (UInt8.toNat (List.getD (Array.toList (ByteArray.data s)) ((2 * i) + 1) (0 : UInt8))))) : Nat) : Int)))) else (AV.v (Value.int IntKind.u8 (((Sp.nib (Array.toList (ByteArray.data s)) ((2 : Nat) * i) j) : Nat) : Int))))))))] [(2 : Nat), (3 : Nat)])))))))))))))))))))) ∧
 ((decide (((i : Nat) : Int) < (32 : Int))) = false → 
 (((((32 : Nat) = (32 : Nat)) ∧ (((1 : Nat) = (1 : Nat)) ∧ (∀ (i1 : Nat), ((i1 < (32 : Nat)) → ((true = true) ∧ (Bool.true = true)))))) ∧ (((true = true) ∧ (true = true)) ∧ True)) ∧
  (Φ Ex.ret (St.mk [((0 : Nat), (AV.v (Value.string s))), ((2 : Nat), (AV.ptr (2 : Nat) [])), ((3 : Nat), (AV.ptr (3 : Nat) [])), ((4 : Nat), (AV.v (Value.int IntKind.i64 ((i : Nat) : Int)))), ((13 : Nat), (AV.v (Value.bool false)))] [((2 : Nat), (Blk.c (AV.st [(AV.arr (32 : Nat) (1 : Nat) (fun (k : Nat) => (AV.v (Value.int IntKind.u8 (((Sp.nib (Array.toList (ByteArray.data s)) ((2 : Nat) * i) k) : Nat) : Int))))), (AV.v (Value.bool true))]))), ((3 : Nat), (Blk.c (AV.arr (32 : Nat) (1 : Nat) (fun (k : Nat) => (AV.v (Value.int IntKind.u8 (((Sp.nib (Array.toList (ByteArray.data s)) ((2 : Nat) * i) k) : Nat) : Int)))))))] [(2 : Nat), (3 : Nat)]))))) := by kernel_rfl

theorem post_cell_tmp {C : Ctx} {N : Nat} {S : St} {a t id b : Nat} {x r y q : AV} (h : look S.tm a = some (.ptr id [])) (hb : look S.hp id = some (.c x)) (hs : simR (look [(id, 0)]) x r) (hf : fitsT C t r = true)
    (h2 : look S.tm b = some y) (hs2 : simR (look [(id, 0)]) y q) (hab : Nat.beq a b = false) (hn : noTups [r, q] = true) : FunPost C N 0 [.cell a t, .tmp b] (.tup [r, q]) [] .ret S := by
  refine ⟨{ tm := [(a, .ptr 0 []), (b, q)], hp := [(0, .c r)], seen := [0] }, .tup [r, q], ent_of [(id, 0)] ?_ (tm_cons h (sm_ptr (by simp [look, Nat.beq_refl])) (tm_cons h2 hs2 tm_nil)) (hp_cons rfl hb hs hp_nil), by simp [resAV, resAll, resOne, look, Nat.beq_refl, AV.sub, hf, hab, hn], fun _ _ _ _ h => h, fun id b hb => by cases hb⟩
  simp only [namesOK, keysOf, distinct, memb, List.map, List.all_cons, List.all_nil, List.range_zero, Nat.beq_refl]
  cases memb S.seen id <;> rfl

theorem dig8 {i : Nat} (h : i < 16) : UInt8.toNat (List.getD [(48 : UInt8), 49, 50, 51, 52, 53, 54, 55, 56, 57, 97, 98, 99, 100, 101, 102] i 0) = digN i := by
  have : ∀ i : Fin 16, UInt8.toNat (List.getD [(48 : UInt8), 49, 50, 51, 52, 53, 54, 55, 56, 57, 97, 98, 99, 100, 101, 102] i.1 0) = digN i.1 := by decide
  exact this ⟨i, h⟩
theorem digit_fun (c : Nat) : Fun C P F_digit [u8 c] [] (i64 (hexV c)) [] := by
  refine in_digit (W := w_digit) rfl 0 (by simp) rfl (fun id h => absurd rfl h) ?_
  refine of_eq (digit_A c 0 _) ?_
  refine loop_inv (W := w_digit) ctx mixed ok_digit_0 (I_dg0 c) (fun i => i ≤ 16 ∧ ∀ j, j < i → digN j ≠ c) (fun i => 16 - i) 0 ⟨by decide, fun j hj => absurd hj (Nat.not_lt_zero j)⟩ ?_ fun i hi => ?_
  · exact ent_of [] rfl (tm_cons rfl (sm_same rfl) (tm_cons rfl (sm_same rfl) (tm_cons rfl (sm_same rfl) tm_nil))) hp_nil
  obtain ⟨hi, hall⟩ := hi
  refine of_eq (digit_L0 c i 0 _) ⟨fun h => ?_, fun h => ?_⟩
  · simp only [decide_eq_true_eq] at h
    rw [dig8 (by omega)]
    refine ⟨(by first | omega | decide | (unfold I64; omega)), fun h2 => post_tmp rfl (sm_int ?_), fun h2 => ⟨(by first | omega | decide | (unfold I64; omega)), round_end (i + 1) ⟨by omega, fun j hj => ?_⟩ (ent_of [] rfl (tm_cons rfl (sm_same rfl) (tm_cons rfl (sm_same rfl) (tm_cons rfl (sm_same rfl) tm_nil))) hp_nil) (by dsimp only; omega)⟩⟩
    · have := eq_of_beq h2
      rw [hexV_hit (c := c) (i := i) (by omega) (by omega)]
    · by_cases e : j = i
      · subst e
        intro e2
        rw [e2] at h2
        simp at h2
      · exact hall j (by omega)
  · simp only [decide_eq_false_iff_not] at h
    refine post_tmp rfl (sm_int ?_)
    rw [hexV_none fun j hj => hall j (by omega)]
    rfl

theorem size_len (s : ByteArray) : s.size = s.data.toList.length := rfl
theorem idx_hex (c : Nat) (hc : c < 256) : Lib.indexByte [(48 : UInt8), 49, 50, 51, 52, 53, 54, 55, 56, 57, 97, 98, 99, 100, 101, 102] (Nat.toUInt8 c) = if hexV c < 16 then (hexV c : Int) else -1 := by
  have : ∀ c : Fin 256, Lib.indexByte [(48 : UInt8), 49, 50, 51, 52, 53, 54, 55, 56, 57, 97, 98, 99, 100, 101, 102] (Nat.toUInt8 c.1) = if hexV c.1 < 16 then (hexV c.1 : Int) else -1 := by decide +kernel
  exact this ⟨c, hc⟩
theorem or_nib {a v : Nat} (ha : a < 16) (hv : v < 16) : bOr IntKind.u8 (bShl IntKind.u8 (a : Int) (4 : Int)) (IntKind.wrap IntKind.u8 (v : Int)) = ((16 * a + v : Nat) : Int) := by
  have : ∀ a v : Fin 16, bOr IntKind.u8 (bShl IntKind.u8 (a.1 : Int) (4 : Int)) (IntKind.wrap IntKind.u8 (v.1 : Int)) = ((16 * a.1 + v.1 : Nat) : Int) := by decide +kernel
  exact this ⟨a, ha⟩ ⟨v, hv⟩
theorem shp32 {f g : Nat → AV} (h : ∀ i, leaf (f i) = true ∧ leaf (g i) = true) : (32 : Nat) = 32 ∧ (1 : Nat) = 1 ∧ ∀ i, i < 32 → leaf (f i) = true ∧ leaf (g i) = true := ⟨rfl, rfl, fun i _ => h i⟩
theorem cN'_lt (s : List UInt8) (i : Nat) : cN' s i < 256 := UInt8.toNat_lt _

theorem parse_fun (s : ByteArray) : Fun C P F_parse [.v (.string s)] [] (.tup [sumV s.data.toList, .i (errV (okL s.data.toList))]) [] := by
  refine in_parse (W := w_parse) rfl 0 (by simp) rfl (fun id h => absurd rfl h) ?_
  have bad : okL s.data.toList = false → ∀ {S : St} {f : Nat → AV}, look S.tm 2 = some (.ptr 2 []) → look S.hp 2 = some (.c (.arr 32 1 fun _ => .v (.int .u8 0))) → look S.tm 3 = some (.i 3) → FunPost C 36 0 [.cell 2 27, .tmp 3] (.tup [sumV s.data.toList, .i (errV (okL s.data.toList))]) [] .ret S := by
    intro ho S f h1 h2 h3
    refine post_cell_tmp h1 h2 (sm_arr fun k _ => ?_) rfl h3 (sm_int ?_) rfl rfl
    · rw [sumVal_not ho]; rfl
    · rw [ho]; rfl
  refine of_eq (parse_A s 0 _) ⟨fun h => ⟨⟨rfl, rfl, fun _ _ => ⟨rfl, rfl⟩⟩, bad (okL_len fun e => ?_) (f := fun _ => .sb true) rfl rfl rfl⟩, fun h => ?_⟩
  · rw [size_len, e] at h
    simp at h
  have hl : s.data.toList.length = 64 := by
    rw [size_len, bne_eq_false_iff_eq] at h
    omega
  refine loop_inv (W := w_parse) ctx mixed ok_parse_0 (I_pa0 s) (fun i => s.data.toList.length = 64 ∧ i ≤ 64 ∧ ∀ j, j < i → hexV (cN' s.data.toList j) < 16) (fun i => 64 - i) 0 ⟨hl, by decide, fun j hj => absurd hj (Nat.not_lt_zero j)⟩ ?_ fun i hi => ?_
  · refine ent_of [(2, 2), (4, 4)] rfl (tm_cons rfl (sm_same rfl) (tm_cons rfl (sm_ptr rfl) (tm_cons rfl (sm_same rfl) (tm_cons rfl (sm_ptr rfl) (tm_cons rfl (sm_int (by rw [size_len, hl])) (tm_cons rfl (sm_same rfl) tm_nil)))))) (hp_cons rfl rfl (sm_same rfl) (hp_cons rfl rfl (sm_arr fun k _ => ?_) hp_nil))
    rw [nib_zero]; rfl
  obtain ⟨-, hi, hall⟩ := hi
  refine of_eq (parse_L0 s i 0 _) ⟨fun h => ?_, fun h => ?_⟩
  · simp only [decide_eq_true_eq] at h
    have hib : Fun C P F_indexbyte _ [] _ [] := indexbyte_fun ⟨#[48, 49, 50, 51, 52, 53, 54, 55, 56, 57, 97, 98, 99, 100, 101, 102]⟩ ((cN' s.data.toList i : Nat) : Int)
    have hx := idx_hex (cN' s.data.toList i) (cN'_lt _ _)
    refine ⟨(by rw [size_len, hl]; omega), hib, trivial, fun h2 => ⟨⟨rfl, rfl, fun _ _ => ⟨rfl, rfl⟩⟩, bad (okL_not (i := i) (by omega) fun e => ?_) (f := fun _ => .sb true) rfl rfl rfl⟩, fun h2 => ?_⟩
    · rw [if_pos e] at hx
      have h3 : Lib.indexByte [(48 : UInt8), 49, 50, 51, 52, 53, 54, 55, 56, 57, 97, 98, 99, 100, 101, 102] (Nat.toUInt8 (cN' s.data.toList i)) < 0 := of_decide_eq_true h2
      omega
    · have hv : hexV (cN' s.data.toList i) < 16 := by
        have h3 : ¬ Lib.indexByte [(48 : UInt8), 49, 50, 51, 52, 53, 54, 55, 56, 57, 97, 98, 99, 100, 101, 102] (Nat.toUInt8 (cN' s.data.toList i)) < 0 := of_decide_eq_false h2
        by_cases e : hexV (cN' s.data.toList i) < 16
        · exact e
        · rw [if_neg e] at hx
          omega
      rw [if_pos hv] at hx
      refine ⟨(by first | omega | decide | (unfold I64; omega)), (by first | omega | decide | (unfold I64; omega)), (by first | omega | decide | (unfold I64; omega)), (by first | omega | decide | (unfold I64; omega)), (by first | omega | decide | (unfold I64; omega)), (by first | omega | decide | (unfold I64; omega)), (by first | omega | decide | (unfold I64; omega)), (by first | omega | decide | (unfold I64; omega)), round_end (i + 1) ⟨hl, by omega, fun j hj => ?_⟩ (ent_of [(2, 2), (4, 4)] rfl (tm_cons rfl (sm_same rfl) (tm_cons rfl (sm_ptr rfl) (tm_cons rfl (sm_same rfl) (tm_cons rfl (sm_ptr rfl) (tm_cons rfl (sm_same rfl) (tm_cons rfl (sm_same rfl) tm_nil)))))) (hp_cons rfl rfl (sm_same rfl) (hp_cons rfl rfl (sm_arr fun k _ => ?_) hp_nil))) (by dsimp only; omega)⟩
      · by_cases e : j = i
        · subst e; exact hv
        · exact hall j (by omega)
      · have hn := nib_small hall
        have hor := or_nib hn hv
        rw [← hx] at hor
        rw [nib_step]
        by_cases e : k = i / 2
        · rw [if_pos e, if_pos e]
          exact congrArg (fun z => AV.v (.int .u8 z)) hor
        · rw [if_neg e, if_neg e]
  simp only [decide_eq_false_iff_not] at h
  obtain rfl : i = 64 := by omega
  have ho := okL_of hl hall
  refine ⟨⟨rfl, rfl, fun _ _ => ⟨rfl, rfl⟩⟩, post_cell_tmp rfl rfl (sm_arr fun k hk => ?_) rfl rfl (sm_int ?_) rfl rfl⟩
  · rw [nib_all ho hk]
  · rw [ho]; rfl

theorem rparse_fun (s : ByteArray) : Fun C P F_rparse [.v (.string s)] [] (.st [sumV s.data.toList, .sb (okL s.data.toList)]) [] := by
  refine in_rparse (W := w_rparse) rfl 0 (by simp) rfl (fun id h => absurd rfl h) ?_
  have bad : okL s.data.toList = false → ∀ {S : St}, look S.tm 2 = some (.ptr 2 []) → look S.hp 2 = some (.c (.st [.arr 32 1 fun _ => .v (.int .u8 0), .v (.bool false)])) → FunPost C 43 0 [.cell 2 48] (.st [sumV s.data.toList, .sb (okL s.data.toList)]) [] .ret S := by
    intro ho S h1 h2
    refine post_cell h1 h2 (sm_st (sms_cons (sm_arr fun k _ => ?_) (sms_cons (sm_b ?_) sms_nil))) rfl
    · rw [sumVal_not ho]; rfl
    · rw [ho]
  have sh : ∀ {f g : Nat → AV}, (∀ i, leaf (f i) = true ∧ leaf (g i) = true) → True := fun _ => trivial
  refine of_eq (rparse_A s 0 _) ⟨⟨rfl, rfl, fun _ _ => ⟨rfl, rfl⟩⟩, fun h => ⟨⟨⟨rfl, rfl, fun _ _ => ⟨rfl, rfl⟩⟩, ⟨rfl, rfl⟩, trivial⟩, bad (okL_len fun e => ?_) rfl rfl⟩, fun h => ?_⟩
  · rw [size_len, e] at h
    simp at h
  have hl : s.data.toList.length = 64 := by
    rw [size_len, bne_eq_false_iff_eq] at h
    omega
  refine loop_inv (W := w_rparse) ctx mixed ok_rparse_0 (I_rp0 s) (fun i => s.data.toList.length = 64 ∧ i ≤ 32 ∧ ∀ j, j < 2 * i → hexV (cN' s.data.toList j) < 16) (fun i => 32 - i) 0 ⟨hl, by decide, fun j hj => absurd hj (Nat.not_lt_zero j)⟩ ?_ fun i hi => ?_
  · refine ent_of [(2, 2), (3, 3)] rfl (tm_cons rfl (sm_same rfl) (tm_cons rfl (sm_ptr rfl) (tm_cons rfl (sm_ptr rfl) (tm_cons rfl (sm_same rfl) tm_nil)))) (hp_cons rfl rfl (sm_same rfl) (hp_cons rfl rfl (sm_arr fun k _ => ?_) hp_nil))
    rw [Nat.mul_zero, nib_zero]; rfl
  obtain ⟨-, hi, hall⟩ := hi
  refine of_eq (rparse_L0 s i 0 _) ⟨fun h => ?_, fun h => ?_⟩
  · simp only [decide_eq_true_eq] at h
    have hne : ∀ j, ((hexV (cN' s.data.toList j) : Nat) : Int) == 16 → ¬ hexV (cN' s.data.toList j) < 16 := fun j hj => by
      have := eq_of_beq hj
      omega
    have hlt : ∀ j, (((hexV (cN' s.data.toList j) : Nat) : Int) == 16) = false → hexV (cN' s.data.toList j) < 16 := fun j hj => by
      have := hexV_le (cN' s.data.toList j)
      have h3 : ¬ ((hexV (cN' s.data.toList j) : Nat) : Int) = 16 := fun e => by rw [e] at hj; simp at hj
      omega
    refine ⟨(by first | omega | decide | (unfold I64; omega)), (by rw [size_len, hl]; omega), digit_fun _, trivial, (by first | omega | decide | (unfold I64; omega)), (by first | omega | decide | (unfold I64; omega)), (by rw [size_len, hl]; omega), digit_fun _, trivial, fun h2 => ⟨⟨⟨rfl, rfl, fun _ _ => ⟨rfl, rfl⟩⟩, ⟨rfl, rfl⟩, trivial⟩, bad (okL_not (i := 2 * i) (by omega) (hne _ h2)) rfl rfl⟩,
      fun h2 => ⟨fun h3 => ⟨⟨⟨rfl, rfl, fun _ _ => ⟨rfl, rfl⟩⟩, ⟨rfl, rfl⟩, trivial⟩, bad (okL_not (i := 2 * i + 1) (by omega) (hne _ h3)) rfl rfl⟩, fun h3 => ?_⟩⟩
    have a1 := hlt _ h2
    have a2 := hlt _ h3
    have a1' : hexV (UInt8.toNat (s.data.toList.getD (2 * i) 0)) < 16 := a1
    have a2' : hexV (UInt8.toNat (s.data.toList.getD (2 * i + 1) 0)) < 16 := a2
    refine ⟨(by first | omega | decide | (unfold I64; omega)), (by first | omega | decide | (unfold I64; omega)), (by first | omega | decide | (unfold I64; omega)), (by first | omega | decide | (unfold I64; omega)), round_end (i + 1) ⟨hl, by omega, fun j hj => ?_⟩ (ent_of [(2, 2), (3, 3)] rfl (tm_cons rfl (sm_same rfl) (tm_cons rfl (sm_ptr rfl) (tm_cons rfl (sm_ptr rfl) (tm_cons rfl (sm_same rfl) tm_nil)))) (hp_cons rfl rfl (sm_same rfl) (hp_cons rfl rfl (sm_arr fun k _ => ?_) hp_nil))) (by dsimp only; omega)⟩
    · by_cases e : j = 2 * i
      · subst e; exact a1
      · by_cases e2 : j = 2 * i + 1
        · subst e2; exact a2
        · exact hall j (by omega)
    · rw [nib_pair]
      by_cases e : k = i
      · rw [if_pos e, if_pos e, wrap_u8, Nat.mod_eq_of_lt (by omega)]
        rfl
      · rw [if_neg e, if_neg e]
  simp only [decide_eq_false_iff_not] at h
  obtain rfl : i = 32 := by omega
  have ho := okL_of hl fun j hj => hall j (by omega)
  refine ⟨⟨⟨rfl, rfl, fun _ _ => ⟨rfl, rfl⟩⟩, ⟨rfl, rfl⟩, trivial⟩, post_cell rfl rfl (sm_st (sms_cons (sm_arr fun k hk => ?_) (sms_cons (sm_b ?_) sms_nil))) rfl⟩
  · rw [nib_all ho hk]
  · rw [ho]
end Go.Bu.W

