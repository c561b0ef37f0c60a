/- Several copies together know what one of them knows. -/
import Derived.Test.YtelpjhdglgledaaDoorK20
namespace Go.Bu.W
open Sp
def w_lku : Way := wayU [0, 1, 2, 4, 6, 7, 8, 9, 10, 11, 12, 13, 20, 48, 50, 67] 110 [5,11,13,17,19]
abbrev ids3 (exs : Nat → Bool) (ids : Nat → List Nat) : AV := .arr 3 1 (fun i => u16A (exs i) (ids i))
abbrev rowK3 (n : Nat) (q : Nat → List Cv) : AV := .arr n 1 (fun i => ksA false (q i))
def S_lku5 (s : Nat) (exs : Nat → Bool) (ids : Nat → List Nat) (id : Int) : St := { tm := [(0, u8 s), (4, .ptr 4 []), (7, .sb true), (8, .i id), (9, .sl 9 [] 0 0 0 false 1), (10, .sb false)], hp := [(4, .c (ids3 exs ids)), (9, .c (.arr 0 1 (fun _ => .v (.tuple #[]))))], seen := [4, 9] }
def I_lku (s : Nat) (exs : Nat → Bool) (ids : Nat → List Nat) (id : Int) (q : Nat → List Cv) (so : Nat → Bool) (i : Nat) : St := { tm := [(0, u8 s), (4, .ptr 4 []), (7, .sb true), (8, .i id), (9, .sl 9 [] 0 i i false 1), (10, .sb (so i)), (11, .i i)], hp := [(4, .c (ids3 exs ids)), (9, .c (rowK3 i q))], seen := [4, 9] }
def S_lku11 (id : Int) (q : Nat → List Cv) (so : Bool) : St := { tm := [(7, .sb true), (8, .i id), (9, .sl 9 [] 0 3 3 false 1), (10, .sb so)], hp := [(9, .c (rowK3 3 q))], seen := [9] }
def S_lku13 (id : Int) (q : Nat → List Cv) : St := { tm := [(7, .sb true), (8, .i id), (9, .sl 9 [] 0 3 3 false 1)], hp := [(9, .c (rowK3 3 q))], seen := [9] }
def I_lkv (id : Int) (q : Nat → Nat → List Cv) (i : Nat) : St := { tm := [(7, .sb true), (8, .i id), (9, .sl 9 [] 0 3 3 false 1), (13, .i i)], hp := [(9, .c (rowK3 3 (q i)))], seen := [9] }
def S_lku17 (id : Int) (q : Nat → List Cv) (i : Nat) : St := { tm := [(7, .sb true), (8, .i id), (9, .sl 9 [] 0 3 3 false 1), (13, .i i)], hp := [(9, .c (rowK3 3 q))], seen := [9] }

set_option maxRecDepth 1000000 in
theorem lku_A (s : Nat) (exs : Nat → Bool) (ids : Nat → List Nat) (w : Nat) {D : Dom} (K : Nat) (Φ : Ex → St → Prop) :
  (Holds C P 110 D K Φ (vc C w_lku b_lku [] (start [u8 s, ids3 exs ids, .v (.int .u16 (w : Int))] []) lf)) =
  (Fun W.C W.P 11 [] [] (AV.sb true) [] ∧
 (True ∧
 ((I64 ((w : Nat) : Int)) ∧
 (((4096 : Int) ≠ (0 : Int)) ∧
 (∃ (S2 : St), Ent W.C 110 D K (St.mk [(0, (AV.v (Value.int IntKind.u8 ((s : Nat) : Int)))), (1, (AV.arr 3 1 (fun (i : Nat) => (W.u16A (exs i) (ids i))))), (2, (AV.v (Value.int IntKind.u16 ((w : Nat) : Int)))), (4, (AV.ptr 4 [])), (6, (AV.v (Value.bool false))), (7, (AV.sb true)), (8, (AV.i (Int.tmod ((w : Nat) : Int) (4096 : Int)))), (9, (AV.sl 18 [] 0 0 0 true 1)), (10, (AV.v (Value.bool false)))] [(4, (Blk.c (AV.arr 3 1 (fun (i : Nat) => (W.u16A (exs i) (ids i)))))), (18, (Blk.c (AV.st [])))] [18, 4]) S2 ∧ Holds W.C W.P 110 D K Φ (cutAt W.C w_lku b_lku [1, 1, 1, 1, 1, 0, 0] S2 (after W.C w_lku b_lku [1, 1, 1, 1, 1, 0, 0] [] lf))))))) := by kernel_rfl
theorem lku_C5 (s : Nat) (exs : Nat → Bool) (ids : Nat → List Nat) (id : Int) {D : Dom} (K : Nat) (Φ : Ex → St → Prop) :
  (Holds C P 110 D K Φ (cutAt C w_lku b_lku [1, 1, 1, 1, 1, 0, 0] (S_lku5 s exs ids id) (after C w_lku b_lku [1, 1, 1, 1, 1, 0, 0] [] lf))) =
  (LoopOK W.C W.P 110 D K (bodyAt b_lku [1, 1, 1, 1, 1, 0, 1, 0]) (St.mk [(0, (AV.v (Value.int IntKind.u8 ((s : Nat) : Int)))), (4, (AV.ptr 4 [])), (7, (AV.sb true)), (8, (AV.i id)), (9, (AV.sl 9 [] 0 0 0 false 1)), (10, (AV.sb false)), (11, (AV.i (0 : Int)))] [(4, (Blk.c (AV.arr 3 1 (fun (i : Nat) => (W.u16A (exs i) (ids i)))))), (9, (Blk.c (AV.arr 0 1 (fun (x : Nat) => (AV.v (Value.tuple (List.toArray [])))))))] [4, 9]) (fun (e : Ex) (S' : St) => Holds W.C W.P 110 D K Φ (after W.C w_lku b_lku [1, 1, 1, 1, 1, 0, 1, 0] [] lf e S'))) := by kernel_rfl
noncomputable abbrev bd_lku_0 : Code := bodyAt (b_lku) [1, 1, 1, 1, 1, 0, 1, 0]
theorem ok_lku_0 : codeOK bd_lku_0 = true := by kernel_rfl
noncomputable abbrev rest_lku_0 (D : Dom) (K : Nat) (Φ : Ex → St → Prop) : Ex → St → Prop := fun e S' => Holds C P 110 D K Φ (after C w_lku (b_lku) [1, 1, 1, 1, 1, 0, 1, 0] [] lf e S')
theorem lku_L0 (s : Nat) (exs : Nat → Bool) (ids : Nat → List Nat) (id : Int) (q : Nat → List Cv) (so : Nat → Bool) (i : Nat) {D : Dom} (K : Nat) (Φ : Ex → St → Prop) :
  (Holds C P 110 D K (RoundQ C 110 D K (I_lku s exs ids id q so) (fun i => i ≤ 3) (fun i => 3 - i) ((fun i => 3 - i) (i)) (rest_lku_0 D K Φ)) (vc C w_lku bd_lku_0 [] ((I_lku s exs ids id q so) (i)) lf)) =
  (((decide (((i : Nat) : Int) < (3 : Int))) = true →
 ((((0 : Int) ≤ ((i : Nat) : Int)) ∧ (((i : Nat) : Int) < (3 : Int))) ∧
  (Fun W.C W.P 12 [(AV.v (Value.int IntKind.u8 ((s : Nat) : Int))), (W.u16A (exs i) (ids i))] [] (W.ksA false (W.KV (W.seedK s) (W.goneD (W.u16L (ids i))))) [] ∧
  ((((true = true) ∧ (true = true)) ∧ True) ∧
  ((((i + 1) * 24) ≤ 140737488355328) ∧
  (((so i) = true →
  ((I64 (((i + 1) : Nat) : Int)) ∧
   ((RoundQ C 110 D K (I_lku s exs ids id q so) (fun i => i ≤ 3) (fun i => 3 - i) ((fun i => 3 - i) (i)) (rest_lku_0 D K Φ)) Ex.normal (St.mk [(0, (AV.v (Value.int IntKind.u8 ((s : Nat) : Int)))), (4, (AV.ptr 4 [])), (7, (AV.sb true)), (8, (AV.i id)), (9, (AV.sl 31 [] 0 (i + 1) (i + 1) false 1)), (10, (AV.v (Value.bool true))), (11, (AV.i (((i + 1) : Nat) : Int))), (12, (AV.ptr 12 [])), (20, (AV.v (Value.bool true)))] [(4, (Blk.c (AV.arr 3 1 (fun (i1 : Nat) => (W.u16A (exs i1) (ids i1)))))), (12, (Blk.c (W.ksA false (W.KV (W.seedK s) (W.goneD (W.u16L (ids i))))))), (30, (Blk.c (AV.st [(W.ksA false (W.KV (W.seedK s) (W.goneD (W.u16L (ids i)))))]))), (31, (Blk.c (AV.arr (i + 1) 1 (cat i (fun (i1 : Nat) => (W.ksA false (q (0 + i1)))) (fun (i1 : Nat) => (nthD [(W.ksA false (W.KV (W.seedK s) (W.goneD (W.u16L (ids i)))))] (0 + i1) (AV.v (Value.tuple (List.toArray [])))))))))] [31, 30, 12, 4, 9])))) ∧
  ((so i) = false →
  (Fun W.C W.P 15 [(W.ksA false (W.KV (W.seedK s) (W.goneD (W.u16L (ids i))))), (AV.i id)] [] (AV.st [(W.kyA (W.keyR (W.toKs (W.ksA false (W.KV (W.seedK s) (W.goneD (W.u16L (ids i)))))) id)), (AV.i (W.keyE (W.toKs (W.ksA false (W.KV (W.seedK s) (W.goneD (W.u16L (ids i)))))) id))]) [] ∧
   (((∀ (i1 : Nat), ((i1 < 32) → True)) ∧ (True ∧ True)) ∧
   ((I64 (((i + 1) : Nat) : Int)) ∧
   ((RoundQ C 110 D K (I_lku s exs ids id q so) (fun i => i ≤ 3) (fun i => 3 - i) ((fun i => 3 - i) (i)) (rest_lku_0 D K Φ)) Ex.normal (St.mk [(0, (AV.v (Value.int IntKind.u8 ((s : Nat) : Int)))), (4, (AV.ptr 4 [])), (7, (AV.sb true)), (8, (AV.i id)), (9, (AV.sl 31 [] 0 (i + 1) (i + 1) false 1)), (10, (AV.sb ((W.keyE (W.toKs (W.ksA false (W.KV (W.seedK s) (W.goneD (W.u16L (ids i)))))) id) == (0 : Int)))), (11, (AV.i (((i + 1) : Nat) : Int))), (12, (AV.ptr 12 [])), (20, (AV.v (Value.bool true)))] [(4, (Blk.c (AV.arr 3 1 (fun (i1 : Nat) => (W.u16A (exs i1) (ids i1)))))), (12, (Blk.c (W.ksA false (W.KV (W.seedK s) (W.goneD (W.u16L (ids i))))))), (30, (Blk.c (AV.st [(W.ksA false (W.KV (W.seedK s) (W.goneD (W.u16L (ids i)))))]))), (31, (Blk.c (AV.arr (i + 1) 1 (cat i (fun (i1 : Nat) => (W.ksA false (q (0 + i1)))) (fun (i1 : Nat) => (nthD [(W.ksA false (W.KV (W.seedK s) (W.goneD (W.u16L (ids i)))))] (0 + i1) (AV.v (Value.tuple (List.toArray [])))))))))] [31, 30, 12, 4, 9])))))))))))) ∧
 ((decide (((i : Nat) : Int) < (3 : Int))) = false →
 (∃ (S2 : St), Ent W.C 110 D K (St.mk [(0, (AV.v (Value.int IntKind.u8 ((s : Nat) : Int)))), (4, (AV.ptr 4 [])), (7, (AV.sb true)), (8, (AV.i id)), (9, (AV.sl 9 [] 0 i i false 1)), (10, (AV.sb (so i))), (11, (AV.i ((i : Nat) : Int))), (20, (AV.v (Value.bool false)))] [(4, (Blk.c (AV.arr 3 1 (fun (i1 : Nat) => (W.u16A (exs i1) (ids i1)))))), (9, (Blk.c (AV.arr i 1 (fun (i1 : Nat) => (W.ksA false (q i1))))))] [4, 9]) S2 ∧ Holds W.C W.P 110 D K Φ (cutAt W.C w_lku b_lku [1, 1, 1, 1, 1, 1, 0, 0] S2 (after W.C w_lku b_lku [1, 1, 1, 1, 1, 1, 0, 0] [] lf))))) := by kernel_rfl
theorem lku_C11 (id : Int) (q : Nat → List Cv) (so : Bool) {D : Dom} (K : Nat) (Φ : Ex → St → Prop) :
  (Holds C P 110 D K Φ (cutAt C w_lku b_lku [1, 1, 1, 1, 1, 1, 0, 0] (S_lku11 id q so) (after C w_lku b_lku [1, 1, 1, 1, 1, 1, 0, 0] [] lf))) =
  (Fun W.C W.P 16 [(AV.dat 3 false 1 (fun (i : Nat) => (W.ksA false (q (0 + i))))), (AV.i id)] [] (AV.sb (W.knownB (W.toLs (AV.dat 3 false 1 (fun (i : Nat) => (W.ksA false (q (0 + i)))))) id)) [] ∧
 (True ∧
 (((! ((W.knownB (W.toLs (AV.dat 3 false 1 (fun (i : Nat) => (W.ksA false (q (0 + i)))))) id) == so)) = true →
 (Φ Ex.ret (St.mk [(6, (AV.v (Value.bool false))), (7, (AV.sb true)), (8, (AV.i id)), (9, (AV.sl 9 [] 0 3 3 false 1)), (10, (AV.sb so)), (48, (AV.v (Value.bool true)))] [(9, (Blk.c (AV.arr 3 1 (fun (i : Nat) => (W.ksA false (q i))))))] [9]))) ∧
 ((! ((W.knownB (W.toLs (AV.dat 3 false 1 (fun (i : Nat) => (W.ksA false (q (0 + i)))))) id) == so)) = false →
 (Fun W.C W.P 16 [(AV.dat 0 true 0 (fun (x : Nat) => (AV.v (Value.tuple (List.toArray []))))), (AV.i id)] [] (AV.sb (W.knownB (W.toLs (AV.dat 0 true 0 (fun (x : Nat) => (AV.v (Value.tuple (List.toArray [])))))) id)) [] ∧
  (True ∧
  (((W.knownB (W.toLs (AV.dat 0 true 0 (fun (x : Nat) => (AV.v (Value.tuple (List.toArray [])))))) id) = true →
  (Φ Ex.ret (St.mk [(6, (AV.v (Value.bool false))), (7, (AV.sb true)), (8, (AV.i id)), (9, (AV.sl 9 [] 0 3 3 false 1)), (10, (AV.sb so)), (48, (AV.v (Value.bool true)))] [(9, (Blk.c (AV.arr 3 1 (fun (i : Nat) => (W.ksA false (q i))))))] [9]))) ∧
  ((W.knownB (W.toLs (AV.dat 0 true 0 (fun (x : Nat) => (AV.v (Value.tuple (List.toArray [])))))) id) = false →
  (∃ (S2 : St), Ent W.C 110 D K (St.mk [(7, (AV.sb true)), (8, (AV.i id)), (9, (AV.sl 9 [] 0 3 3 false 1)), (10, (AV.sb so)), (48, (AV.v (Value.bool false)))] [(9, (Blk.c (AV.arr 3 1 (fun (i : Nat) => (W.ksA false (q i))))))] [9]) S2 ∧ Holds W.C W.P 110 D K Φ (cutAt W.C w_lku b_lku [1, 1, 1, 1, 1, 1, 1, 0, 0] S2 (after W.C w_lku b_lku [1, 1, 1, 1, 1, 1, 1, 0, 0] [] lf))))))))))) := by kernel_rfl
theorem lku_C13 (id : Int) (q : Nat → List Cv) {D : Dom} (K : Nat) (Φ : Ex → St → Prop) :
  (Holds C P 110 D K Φ (cutAt C w_lku b_lku [1, 1, 1, 1, 1, 1, 1, 0, 0] (S_lku13 id q) (after C w_lku b_lku [1, 1, 1, 1, 1, 1, 1, 0, 0] [] lf))) =
  (LoopOK W.C W.P 110 D K (bodyAt b_lku [1, 1, 1, 1, 1, 1, 1, 0, 1, 0]) (St.mk [(7, (AV.sb true)), (8, (AV.i id)), (9, (AV.sl 9 [] 0 3 3 false 1)), (13, (AV.i (0 : Int)))] [(9, (Blk.c (AV.arr 3 1 (fun (i : Nat) => (W.ksA false (q i))))))] [9]) (fun (e : Ex) (S' : St) => Holds W.C W.P 110 D K Φ (after W.C w_lku b_lku [1, 1, 1, 1, 1, 1, 1, 0, 1, 0] [] lf e S'))) := by kernel_rfl
noncomputable abbrev bd_lku_1 : Code := bodyAt (b_lku) [1, 1, 1, 1, 1, 1, 1, 0, 1, 0]
theorem ok_lku_1 : codeOK bd_lku_1 = true := by kernel_rfl
noncomputable abbrev rest_lku_1 (D : Dom) (K : Nat) (Φ : Ex → St → Prop) : Ex → St → Prop := fun e S' => Holds C P 110 D K Φ (after C w_lku (b_lku) [1, 1, 1, 1, 1, 1, 1, 0, 1, 0] [] lf e S')
theorem lku_L1 (id : Int) (q : Nat → Nat → List Cv) (i : Nat) {D : Dom} (K : Nat) (Φ : Ex → St → Prop) :
  (Holds C P 110 D K (RoundQ C 110 D K (I_lkv id q) (fun i => i ≤ 3) (fun i => 3 - i) ((fun i => 3 - i) (i)) (rest_lku_1 D K Φ)) (vc C w_lku bd_lku_1 [] ((I_lkv id q) (i)) lf)) =
  (((decide (((i : Nat) : Int) < (3 : Int))) = true →
 ((((0 : Int) ≤ ((i : Nat) : Int)) ∧ (((i : Nat) : Int) < (3 : Int))) ∧
  (Fun W.C W.P 13 [(W.ksA false (q i (0 + i))), (AV.i id)] [] (W.ksA false (W.desL (W.toKs (W.ksA false (q i (0 + i)))) id)) [] ∧
  ((((0 : Int) ≤ ((i : Nat) : Int)) ∧ (((i : Nat) : Int) < (3 : Int))) ∧
  ((((true = true) ∧ (true = true)) ∧ True) ∧
  (∃ (S2 : St), Ent W.C 110 D K (St.mk [(7, (AV.sb true)), (8, (AV.i id)), (9, (AV.sl 9 [] 0 3 3 false 1)), (13, (AV.i ((i : Nat) : Int))), (50, (AV.v (Value.bool true)))] [(9, (Blk.c (AV.arr 3 1 (fun (j : Nat) => (if (j = (0 + i)) then (W.ksA false (W.desL (W.toKs (W.ksA false (q i (0 + i)))) id)) else (W.ksA false (q i j)))))))] [9]) S2 ∧ Holds W.C W.P 110 D K (RoundQ C 110 D K (I_lkv id q) (fun i => i ≤ 3) (fun i => 3 - i) ((fun i => 3 - i) (i)) (rest_lku_1 D K Φ)) (cutAt W.C w_lku bd_lku_1 [1, 0, 0, 1, 0] S2 (after W.C w_lku bd_lku_1 [1, 0, 0, 1, 0] [] lf)))))))) ∧
 ((decide (((i : Nat) : Int) < (3 : Int))) = false →
 (∃ (S2 : St), Ent W.C 110 D K (St.mk [(7, (AV.sb true)), (8, (AV.i id)), (9, (AV.sl 9 [] 0 3 3 false 1)), (13, (AV.i ((i : Nat) : Int))), (50, (AV.v (Value.bool false)))] [(9, (Blk.c (AV.arr 3 1 (fun (i1 : Nat) => (W.ksA false (q i i1))))))] [9]) S2 ∧ Holds W.C W.P 110 D K Φ (cutAt W.C w_lku b_lku [1, 1, 1, 1, 1, 1, 1, 1, 0] S2 (after W.C w_lku b_lku [1, 1, 1, 1, 1, 1, 1, 1, 0] [] lf))))) := by kernel_rfl
theorem lku_C17 (id : Int) (q : Nat → List Cv) (i : Nat) {D : Dom} (K : Nat) (Φ : Ex → St → Prop) :
  (Holds C P 110 D K Φ (cutAt C w_lku bd_lku_1 [1, 0, 0, 1, 0] (S_lku17 id q i) (after C w_lku bd_lku_1 [1, 0, 0, 1, 0] [] lf))) =
  ((((0 : Int) ≤ ((i : Nat) : Int)) ∧ (((i : Nat) : Int) < (3 : Int))) ∧
 (Fun W.C W.P 14 [(W.ksA false (q (0 + i)))] [] (AV.sb (W.validB (W.toKs (W.ksA false (q (0 + i)))))) [] ∧
 (True ∧
 (((! (W.validB (W.toKs (W.ksA false (q (0 + i)))))) = true →
 (Φ Ex.ret (St.mk [(6, (AV.v (Value.bool false))), (7, (AV.sb true)), (8, (AV.i id)), (9, (AV.sl 9 [] 0 3 3 false 1)), (13, (AV.i ((i : Nat) : Int))), (67, (AV.v (Value.bool true)))] [(9, (Blk.c (AV.arr 3 1 (fun (i1 : Nat) => (W.ksA false (q i1))))))] [9]))) ∧
 ((! (W.validB (W.toKs (W.ksA false (q (0 + i)))))) = false →
 ((I64 (((i + 1) : Nat) : Int)) ∧
  (Φ Ex.normal (St.mk [(7, (AV.sb true)), (8, (AV.i id)), (9, (AV.sl 9 [] 0 3 3 false 1)), (13, (AV.i (((i + 1) : Nat) : Int))), (67, (AV.v (Value.bool false)))] [(9, (Blk.c (AV.arr 3 1 (fun (i1 : Nat) => (W.ksA false (q i1))))))] [9])))))))) := by kernel_rfl
theorem lku_C19 (id : Int) (q : Nat → List Cv) {D : Dom} (K : Nat) (Φ : Ex → St → Prop) :
  (Holds C P 110 D K Φ (cutAt C w_lku b_lku [1, 1, 1, 1, 1, 1, 1, 1, 0] (S_lku13 id q) (after C w_lku b_lku [1, 1, 1, 1, 1, 1, 1, 1, 0] [] lf))) =
  ((true = true →
 (Fun W.C W.P 16 [(AV.dat 3 false 1 (fun (i : Nat) => (W.ksA false (q (0 + i))))), (AV.i id)] [] (AV.sb (W.knownB (W.toLs (AV.dat 3 false 1 (fun (i : Nat) => (W.ksA false (q (0 + i)))))) id)) [] ∧
  (True ∧
  (((! (W.knownB (W.toLs (AV.dat 3 false 1 (fun (i : Nat) => (W.ksA false (q (0 + i)))))) id)) = true →
  (Fun W.C W.P 16 [(AV.dat 3 false 1 (fun (i : Nat) => (W.ksA false (q (0 + i))))), (AV.i (bXor IntKind.i64 id (1 : Int)))] [] (AV.sb (W.knownB (W.toLs (AV.dat 3 false 1 (fun (i : Nat) => (W.ksA false (q (0 + i)))))) (bXor IntKind.i64 id (1 : Int)))) [] ∧
   (True ∧
   ((((0 : Int) ≤ (0 : Int)) ∧ ((0 : Int) < (3 : Int))) ∧
   (Fun W.C W.P 15 [(W.ksA false (q 0)), (AV.i (bXor IntKind.i64 id (1 : Int)))] [] (AV.st [(W.kyA (W.keyR (W.toKs (W.ksA false (q 0))) (bXor IntKind.i64 id (1 : Int)))), (AV.i (W.keyE (W.toKs (W.ksA false (q 0))) (bXor IntKind.i64 id (1 : Int))))]) [] ∧
   (((∀ (i : Nat), ((i < 32) → True)) ∧ (True ∧ True)) ∧
   ((((W.keyE (W.toKs (W.ksA false (q 0))) (bXor IntKind.i64 id (1 : Int))) == (0 : Int)) = true →
   (Φ Ex.ret (St.mk [(6, (AV.sb ((W.knownB (W.toLs (AV.dat 3 false 1 (fun (i : Nat) => (W.ksA false (q (0 + i)))))) (bXor IntKind.i64 id (1 : Int))) == true))), (7, (AV.sb true)), (8, (AV.i id)), (9, (AV.sl 9 [] 0 3 3 false 1))] [(9, (Blk.c (AV.arr 3 1 (fun (i : Nat) => (W.ksA false (q i))))))] [9]))) ∧
   (((W.keyE (W.toKs (W.ksA false (q 0))) (bXor IntKind.i64 id (1 : Int))) == (0 : Int)) = false →
   ((((0 : Int) ≤ (1 : Int)) ∧ ((1 : Int) < (3 : Int))) ∧
    (Fun W.C W.P 15 [(W.ksA false (q 1)), (AV.i (bXor IntKind.i64 id (1 : Int)))] [] (AV.st [(W.kyA (W.keyR (W.toKs (W.ksA false (q 1))) (bXor IntKind.i64 id (1 : Int)))), (AV.i (W.keyE (W.toKs (W.ksA false (q 1))) (bXor IntKind.i64 id (1 : Int))))]) [] ∧
    (((∀ (i : Nat), ((i < 32) → True)) ∧ (True ∧ True)) ∧
    ((((W.keyE (W.toKs (W.ksA false (q 1))) (bXor IntKind.i64 id (1 : Int))) == (0 : Int)) = true →
    (Φ Ex.ret (St.mk [(6, (AV.sb ((W.knownB (W.toLs (AV.dat 3 false 1 (fun (i : Nat) => (W.ksA false (q (0 + i)))))) (bXor IntKind.i64 id (1 : Int))) == true))), (7, (AV.sb true)), (8, (AV.i id)), (9, (AV.sl 9 [] 0 3 3 false 1))] [(9, (Blk.c (AV.arr 3 1 (fun (i : Nat) => (W.ksA false (q i))))))] [9]))) ∧
    (((W.keyE (W.toKs (W.ksA false (q 1))) (bXor IntKind.i64 id (1 : Int))) == (0 : Int)) = false →
    ((((0 : Int) ≤ (2 : Int)) ∧ ((2 : Int) < (3 : Int))) ∧
     (Fun W.C W.P 15 [(W.ksA false (q 2)), (AV.i (bXor IntKind.i64 id (1 : Int)))] [] (AV.st [(W.kyA (W.keyR (W.toKs (W.ksA false (q 2))) (bXor IntKind.i64 id (1 : Int)))), (AV.i (W.keyE (W.toKs (W.ksA false (q 2))) (bXor IntKind.i64 id (1 : Int))))]) [] ∧
     (((∀ (i : Nat), ((i < 32) → True)) ∧ (True ∧ True)) ∧
     (Φ Ex.ret (St.mk [(6, (AV.sb ((W.knownB (W.toLs (AV.dat 3 false 1 (fun (i : Nat) => (W.ksA false (q (0 + i)))))) (bXor IntKind.i64 id (1 : Int))) == ((W.keyE (W.toKs (W.ksA false (q 2))) (bXor IntKind.i64 id (1 : Int))) == (0 : Int))))), (7, (AV.sb true)), (8, (AV.i id)), (9, (AV.sl 9 [] 0 3 3 false 1))] [(9, (Blk.c (AV.arr 3 1 (fun (i : Nat) => (W.ksA false (q i))))))] [9])))))))))))))))))) ∧
  ((! (W.knownB (W.toLs (AV.dat 3 false 1 (fun (i : Nat) => (W.ksA false (q (0 + i)))))) id)) = false →
  (Φ Ex.ret (St.mk [(6, (AV.v (Value.bool false))), (7, (AV.sb true)), (8, (AV.i id)), (9, (AV.sl 9 [] 0 3 3 false 1))] [(9, (Blk.c (AV.arr 3 1 (fun (i : Nat) => (W.ksA false (q i))))))] [9]))))))) ∧
 (true = false →
 (Φ Ex.ret (St.mk [(6, (AV.v (Value.bool false))), (7, (AV.sb true)), (8, (AV.i id)), (9, (AV.sl 9 [] 0 3 3 false 1))] [(9, (Blk.c (AV.arr 3 1 (fun (i : Nat) => (W.ksA false (q i))))))] [9])))) := by kernel_rfl
theorem KOK.z {s : Nat → Nat} {D : List Int} {l : List Cv} (h : KOK s D l) (x : Int) : (keyE l x == 0) = hasB l x := by
  rw [h.E, h.B]
  by_cases h1 : inR x = true <;> by_cases h2 : inX D x = true <;> simp [h1, h2]
theorem cat_row {i j : Nat} (hj : j < i + 1) (q : Nat → List Cv) {z : List Cv} (hz : q i = z) : cat i (fun (i1 : Nat) => ksA false (q (0 + i1))) (fun (i1 : Nat) => nthD [ksA false z] (0 + i1) (AV.v (Value.tuple (List.toArray [])))) j = ksA false (q j) := by
  unfold cat
  by_cases h : j < i
  · rw [if_pos h]
    show ksA false (q (0 + j)) = _
    rw [Nat.zero_add]
  · rw [if_neg h]
    obtain rfl : j = i := by omega
    rw [Nat.sub_self, ← hz]; rfl
def soN (q : Nat → List Cv) (id : Int) : Nat → Bool
  | 0 => false
  | i + 1 => soN q id i || hasB (q i) id
theorem known3 {q : Nat → List Cv} (hq : ∀ i, i < 3 → VL (q i) ∧ (q i).length < 2 ^ 30) (x : Int) : Fun C P F_known [(AV.dat 3 false 1 (fun (i : Nat) => (ksA false (q (0 + i))))), .i x] [] (.sb (soN q x 3)) [] ∧ knownB (toLs (AV.dat 3 false 1 (fun (i : Nat) => (ksA false (q (0 + i)))))) x = soN q x 3 := by
  obtain ⟨k1, _, k3⟩ := known_list (n := 3) (ex := false) (f := fun (i : Nat) => (ksA false (q (0 + i)))) (ls := [q 0, q 1, q 2]) x rfl (show 3 < 2 ^ 60 by decide)
    (fun i hi => match i, hi with | 0, _ => rfl | 1, _ => rfl | 2, _ => rfl)
    (fun i hi => match i, hi with | 0, _ => hq 0 (by decide) | 1, _ => hq 1 (by decide) | 2, _ => hq 2 (by decide))
  have e : knownB [q 0, q 1, q 2] x = soN q x 3 := by
    show (hasB (q 0) x || (hasB (q 1) x || (hasB (q 2) x || false))) = (((false || hasB (q 0) x) || hasB (q 1) x) || hasB (q 2) x)
    cases hasB (q 0) x <;> cases hasB (q 1) x <;> cases hasB (q 2) x <;> rfl
  rw [e] at k1
  exact ⟨k1, by rw [k3, e]⟩
theorem known0 (x : Int) : Fun C P F_known [(AV.dat 0 true 0 (fun (_ : Nat) => (AV.v (Value.tuple (List.toArray []))))), .i x] [] (.sb false) [] :=
  (known_fun true (fun _ => false) [] x (by decide) (fun i hi => absurd hi (Nat.not_lt_zero i))).sim ⟨.inr ⟨rfl, fun h => h, .inl rfl, fun i hi => absurd hi (Nat.not_lt_zero i)⟩, sm_same rfl, trivial⟩ trivial
set_option maxRecDepth 1000000 in
theorem lku_fun (s : Nat) (hs : s < 256) (exs : Nat → Bool) (ids : Nat → List Nat) (hi : ∀ k, k < 3 → ∀ i, i < (ids k).length → (ids k).getD i 0 < 65536) (w : Nat) (hw : w < 65536) : Fun C P F_lku [u8 s, ids3 exs ids, .v (.int .u16 (w : Int))] [] (.sb true) [] := by
  refine in_lku (W := w_lku) rfl 0 (by simp) rfl (fun id h => absurd rfl h) fun D => ?_
  refine of_eq (lku_A s exs ids w 0 _) ?_
  rw [tmod4096]
  obtain ⟨id, hid⟩ : ∃ id, id = ((w % 4096 : Nat) : Int) := ⟨_, rfl⟩
  have hr : inR id = true := by rw [hid]; exact inR_mod _
  rw [← hid]
  obtain ⟨l, el⟩ : ∃ l : Nat → List Cv, l = fun k => KV (seedK s) (goneD (ids k)) := ⟨_, rfl⟩
  have kl : ∀ k, KOK (seedK s) (goneD (ids k)) (l k) := fun k => ⟨by rw [el], seed_ok s⟩
  have ml : ∀ k, k < 3 → Fun C P F_made [u8 s, u16A (exs k) (ids k)] [] (ksA false (l k)) [] := fun k hk => by rw [el]; exact made_fun s hs (exs k) (ids k) (hi k hk)
  have el2 : ∀ k, KV (seedK s) (goneD (u16L (ids k))) = l k := fun k => by rw [u16L_eq, el]
  clear el
  refine ⟨sanity_fun, trivial, (by first | omega | decide | (unfold I64; omega)), by decide, cut_ok (S2 := S_lku5 s exs ids id) (ent_of [(4, 4), (18, 9)] rfl (tm_cons rfl (sm_same rfl) (tm_cons rfl (sm_ptr rfl) (tm_cons rfl (sm_same rfl) (tm_cons rfl (sm_same rfl) (tm_cons rfl (sm_sl rfl rfl (Nat.le_refl _) (Nat.le_refl _) (by simp)) (tm_cons rfl (sm_b rfl) tm_nil)))))) (hp_cons rfl rfl (sm_same rfl) (hp_cons rfl rfl (sm_row rfl rfl rfl fun i x hx => (by cases hx)) hp_nil))) ?_⟩
  refine of_eq (lku_C5 s exs ids id 0 _) ?_
  refine loop_inv (W := w_lku) ctx mixed ok_lku_0 (I_lku s exs ids id l (soN l id)) (fun i => i ≤ 3) (fun i => 3 - i) 0 (Nat.zero_le _) ?_ fun i hi' => ?_
  · exact ent_of [(4, 4), (9, 9)] rfl (tm_cons rfl (sm_same rfl) (tm_cons rfl (sm_ptr rfl) (tm_cons rfl (sm_same rfl) (tm_cons rfl (sm_same rfl) (tm_cons rfl (sm_sl rfl rfl (Nat.le_refl _) (Nat.le_refl _) (by simp)) (tm_cons rfl (sm_same rfl) (tm_cons rfl (sm_same rfl) tm_nil))))))) (hp_cons rfl rfl (sm_same rfl) (hp_cons rfl rfl (sm_arr fun j hj => absurd hj (Nat.not_lt_zero j)) hp_nil))
  refine of_eq (lku_L0 s exs ids id l (soN l id) i 0 _) ⟨fun h => ?_, fun h => ?_⟩
  · simp only [decide_eq_true_eq] at h
    have hlt : i < 3 := by omega
    rw [el2, toKs_A, (kl i).z]
    refine ⟨(by first | omega | decide | (unfold I64; omega)), ml i hlt, TT, by omega, fun hso => ⟨(by first | omega | decide | (unfold I64; omega)), round_end (i + 1) (by omega) ?_ (by dsimp only; omega)⟩, fun hso => ⟨got_fun false (l i) id (by have := (kl i).n; omega) (kl i).v, T32, (by first | omega | decide | (unfold I64; omega)), round_end (i + 1) (by omega) ?_ (by dsimp only; omega)⟩⟩
    · have e : soN l id (i + 1) = true := by show (soN l id i || _) = true; rw [hso]; rfl
      exact ent_of [(4, 4), (31, 9)] rfl (tm_cons rfl (sm_same rfl) (tm_cons rfl (sm_ptr rfl) (tm_cons rfl (sm_same rfl) (tm_cons rfl (sm_same rfl) (tm_cons rfl (sm_sl rfl rfl (Nat.le_refl _) (Nat.le_refl _) (by simp)) (tm_cons rfl (sm_b (by rw [e])) (tm_cons rfl (sm_same rfl) tm_nil))))))) (hp_cons rfl rfl (sm_same rfl) (hp_cons rfl rfl (sm_arr fun j hj => cat_row hj l rfl) hp_nil))
    · have e : soN l id (i + 1) = hasB (l i) id := by show (soN l id i || _) = _; rw [hso]; rfl
      rw [← e]
      exact ent_of [(4, 4), (31, 9)] rfl (tm_cons rfl (sm_same rfl) (tm_cons rfl (sm_ptr rfl) (tm_cons rfl (sm_same rfl) (tm_cons rfl (sm_same rfl) (tm_cons rfl (sm_sl rfl rfl (Nat.le_refl _) (Nat.le_refl _) (by simp)) (tm_cons rfl (sm_same rfl) (tm_cons rfl (sm_same rfl) tm_nil))))))) (hp_cons rfl rfl (sm_same rfl) (hp_cons rfl rfl (sm_arr fun j hj => cat_row hj l rfl) hp_nil))
  simp only [decide_eq_false_iff_not] at h
  obtain rfl : i = 3 := by omega
  refine cut_ok (S2 := S_lku11 id l (soN l id 3)) (ent_of [(9, 9)] rfl (tm_cons rfl (sm_same rfl) (tm_cons rfl (sm_same rfl) (tm_cons rfl (sm_sl rfl rfl (Nat.le_refl _) (Nat.le_refl _) (by simp)) (tm_cons rfl (sm_same rfl) tm_nil)))) (hp_cons rfl rfl (sm_same rfl) hp_nil)) ?_
  refine of_eq (lku_C11 id l (soN l id 3) 0 _) ?_
  obtain ⟨k1, k2⟩ := known3 (q := l) (fun i _ => ⟨(kl i).v, (kl i).n⟩) id
  rw [k2]
  refine ⟨k1, trivial, nf_then (beq_self_eq_true _) ⟨known0 id, trivial, ff_then rfl (cut_ok (S2 := S_lku13 id l) (ent_of [(9, 9)] rfl (tm_cons rfl (sm_same rfl) (tm_cons rfl (sm_same rfl) (tm_cons rfl (sm_sl rfl rfl (Nat.le_refl _) (Nat.le_refl _) (by simp)) tm_nil))) (hp_cons rfl rfl (sm_same rfl) hp_nil)) ?_)⟩⟩
  refine of_eq (lku_C13 id l 0 _) ?_
  obtain ⟨q, eq⟩ : ∃ q : Nat → Nat → List Cv, q = fun i j => if j < i then desL (l j) id else l j := ⟨_, rfl⟩
  have q0 : ∀ j, q 0 j = l j := fun j => by rw [eq]; exact if_neg (Nat.not_lt_zero j)
  have qi : ∀ i, q i i = l i := fun i => by rw [eq]; exact if_neg (Nat.lt_irrefl i)
  have qs : ∀ i, q (i + 1) i = desL (l i) id := fun i => by rw [eq]; exact if_pos (Nat.lt_succ_self i)
  have qn : ∀ i j, j ≠ i → q (i + 1) j = q i j := fun i j h => by
    rw [eq]
    show (if j < i + 1 then _ else _) = if j < i then _ else _
    by_cases h1 : j < i
    · rw [if_pos h1, if_pos (by omega)]
    · rw [if_neg h1, if_neg (by omega)]
  have qd : ∀ j, j < 3 → q 3 j = desL (l j) id := fun j h => by rw [eq]; exact if_pos h
  clear eq
  refine loop_inv (W := w_lku) ctx mixed ok_lku_1 (I_lkv id q) (fun i => i ≤ 3) (fun i => 3 - i) 0 (Nat.zero_le _) ?_ fun i hi' => ?_
  · exact ent_of [(9, 9)] rfl (tm_cons rfl (sm_same rfl) (tm_cons rfl (sm_same rfl) (tm_cons rfl (sm_sl rfl rfl (Nat.le_refl _) (Nat.le_refl _) (by simp)) (tm_cons rfl (sm_same rfl) tm_nil)))) (hp_cons rfl rfl (sm_arr fun j hj => (by rw [q0])) hp_nil)
  refine of_eq (lku_L1 id q i 0 _) ⟨fun h => ?_, fun h => ?_⟩
  · simp only [decide_eq_true_eq] at h
    have hlt : i < 3 := by omega
    rw [Nat.zero_add, qi, toKs_A]
    refine ⟨(by first | omega | decide | (unfold I64; omega)), destroy_fun false (l i) id (kl i).n (kl i).v, (by first | omega | decide | (unfold I64; omega)), TT, cut_ok (S2 := S_lku17 id (q (i + 1)) i) (ent_of [(9, 9)] rfl (tm_cons rfl (sm_same rfl) (tm_cons rfl (sm_same rfl) (tm_cons rfl (sm_sl rfl rfl (Nat.le_refl _) (Nat.le_refl _) (by simp)) (tm_cons rfl (sm_same rfl) tm_nil)))) (hp_cons rfl rfl (sm_arr fun j hj => ?_) hp_nil)) ?_⟩
    · by_cases hji : j = i
      · subst hji; rw [qs]; exact if_pos rfl
      · rw [qn i j hji]; exact if_neg hji
    refine of_eq (lku_C17 id (q (i + 1)) i 0 _) ?_
    rw [Nat.zero_add, qs, toKs_A]
    have hd := (kl i).des hr
    exact ⟨(by first | omega | decide | (unfold I64; omega)), rvalid_fun false _ (by have := hd.n; omega), trivial, nf_then hd.v.valid ⟨(by first | omega | decide | (unfold I64; omega)), round_end (i + 1) (by omega) (ent_of [(9, 9)] rfl (tm_cons rfl (sm_same rfl) (tm_cons rfl (sm_same rfl) (tm_cons rfl (sm_sl rfl rfl (Nat.le_refl _) (Nat.le_refl _) (by simp)) (tm_cons rfl (sm_same rfl) tm_nil)))) (hp_cons rfl rfl (sm_same rfl) hp_nil)) (by dsimp only; omega)⟩⟩
  simp only [decide_eq_false_iff_not] at h
  obtain rfl : i = 3 := by omega
  obtain ⟨r, er⟩ : ∃ r : Nat → List Cv, r = fun j => desL (l j) id := ⟨_, rfl⟩
  have kr : ∀ k, KOK (seedK s) (id :: goneD (ids k)) (r k) := fun k => by rw [er]; exact (kl k).des hr
  refine cut_ok (S2 := S_lku13 id r) (ent_of [(9, 9)] rfl (tm_cons rfl (sm_same rfl) (tm_cons rfl (sm_same rfl) (tm_cons rfl (sm_sl rfl rfl (Nat.le_refl _) (Nat.le_refl _) (by simp)) tm_nil))) (hp_cons rfl rfl (sm_arr fun j hj => (by rw [qd j hj, er])) hp_nil)) ?_
  refine of_eq (lku_C19 id r 0 _) ⟨fun _ => ?_, fun h => (by cases h)⟩
  obtain ⟨x, ex⟩ : ∃ x, x = bXor .i64 id 1 := ⟨_, rfl⟩
  rw [← ex]
  obtain ⟨k1, k2⟩ := known3 (q := r) (fun i _ => ⟨(kr i).v, (kr i).n⟩) id
  obtain ⟨k3, k4⟩ := known3 (q := r) (fun i _ => ⟨(kr i).v, (kr i).n⟩) x
  have kno : soN r id 3 = false := by
    have hn : ∀ k, hasB (r k) id = false := fun k => by rw [(kr k).B, inX_self]; simp
    show (((false || hasB (r 0) id) || hasB (r 1) id) || hasB (r 2) id) = false
    rw [hn, hn, hn]; rfl
  have k5 : soN r x 3 = (((false || hasB (r 0) x) || hasB (r 1) x) || hasB (r 2) x) := rfl
  rw [k2, k4, toKs_A, toKs_A, toKs_A, (kr 0).z, (kr 1).z, (kr 2).z]
  have gf : ∀ k, Fun C P F_got [ksA false (r k), .i x] [] (.st [kyA (keyR (r k) x), .i (keyE (r k) x)]) [] := fun k => got_fun false (r k) x (by have := (kr k).n; omega) (kr k).v
  rw [kno] at k1 ⊢
  refine ⟨k1, trivial, fun _ => ⟨k3, trivial, (by first | omega | decide | (unfold I64; omega)), gf 0, T32, fun h0 => ?_, fun h0 => ⟨(by first | omega | decide | (unfold I64; omega)), gf 1, T32, fun h1 => ?_, fun h1 => ⟨(by first | omega | decide | (unfold I64; omega)), gf 2, T32, ?_⟩⟩⟩, fun h => (by cases h)⟩
  · rw [k5, h0]
    exact post_tmp rfl (sm_same rfl)
  · rw [k5, h0, h1]
    exact post_tmp rfl (sm_same rfl)
  · rw [k5, h0, h1]
    rw [show ((((false || false) || false) || hasB (r 2) x) == hasB (r 2) x) = true by cases hasB (r 2) x <;> rfl]
    exact post_tmp rfl (sm_same rfl)
theorem sim_dat {m : Nat → Option Nat} {x : AV} {n e : Nat} {ex : Bool} {g : Nat → AV} (h : simR m x (.dat n ex e g)) : x = .dat n ex e g ∨ sim (fun _ => none) x (.dat n ex e g) := by
  rcases h with h | h
  · exact .inl h.2
  · cases x <;> first | exact .inr h | (simp [sim] at h)
theorem typed_ids3 {n t : Nat} {x : AV} (hd : (C.tt t).d = .array 3 22 false) (h : Typed C.tt (n + 3) t x) : ∃ (ids : Nat → List Nat) (exs : Nat → Bool), (∀ i, i < 3 → ∀ j, j < (ids i).length → (ids i).getD j 0 < 65536) ∧ simR some x (ids3 exs ids) := by
  simp only [Typed, hd] at h
  obtain ⟨f, rfl, hf⟩ := h
  have ch : ∀ i, ∃ p : List Nat × Bool, i < 3 → (∀ j, j < p.1.length → p.1.getD j 0 < 65536) ∧ simR some (f i) (u16A p.2 p.1) := fun i => by
    by_cases hi : i < 3
    · obtain ⟨ids, ex, h1, _, h3⟩ := typed_ids (n := n) (show Typed C.tt (n + 2) 22 (f i) from hf i hi)
      exact ⟨(ids, ex), fun _ => ⟨h1, h3⟩⟩
    · exact ⟨([], false), fun h => absurd h hi⟩
  exact ⟨fun i => (Classical.choose (ch i)).1, fun i => (Classical.choose (ch i)).2, fun i hi => (Classical.choose_spec (ch i) hi).1, .inr ⟨rfl, rfl, fun i hi => sim_dat (Classical.choose_spec (ch i) hi).2⟩⟩
theorem lku_law {x0 x1 x2 : AV} (h0 : Typed C.tt 6 5 x0) (h1 : Typed C.tt 6 52 x1) (h2 : Typed C.tt 6 23 x2) : Fun C P F_lku [x0, x1, x2] [] (.sb true) [] := by
  obtain ⟨s, rfl, hs⟩ := typed_u8 rfl h0
  obtain ⟨ids, exs, hi, s1⟩ := typed_ids3 rfl h1
  obtain ⟨z, rfl, g1, g2⟩ := typed_int (k := .u16) rfl h2
  have g1' : (0 : Int) ≤ z := g1
  have g2' : z ≤ 65535 := g2
  have h := lku_fun s hs exs ids hi z.toNat (by omega)
  rw [show ((z.toNat : Nat) : Int) = z by omega] at h
  exact h.sim ⟨sm_same rfl, s1, sm_same rfl, trivial⟩ trivial
end Go.Bu.W

