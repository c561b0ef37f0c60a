/- The program agrees with the reference. -/
import Derived.Test.YtelpjhdglgledaaDoorK21
namespace Go.Bu.W
open Sp
def w_lkm : Way := wayU [0, 1, 2, 5, 6, 7, 8, 9, 10, 11, 28, 50, 98] 136 [4,8,13]
abbrev z2 (z : Nat → Int) : AV := .arr 2 1 (fun i => .i (z i))
def S_lkm4 (s : Nat) (ex : Bool) (ids : List Nat) (k : List Cv) (os : List Int) : St := { tm := [(0, u8 s), (1, u16A ex ids), (7, .sb true), (8, .ptr 8 []), (9, .sl 9 [] 0 os.length os.length false 1)], hp := [(8, .c (ksA false k)), (9, .c (.arr os.length 1 (fun i => .i (os.getD i 0))))], seen := [8, 9] }
def I_lkm (s : Nat) (ex : Bool) (ids : List Nat) (k : List Cv) (os : Nat → List Int) (i : Nat) : St := { tm := [(0, u8 s), (1, u16A ex ids), (7, .sb true), (8, .ptr 8 []), (9, .sl 9 [] 0 (os i).length (os i).length false 1), (10, .i i)], hp := [(8, .c (ksA false k)), (9, .c (.arr (os i).length 1 (fun j => .i ((os i).getD j 0))))], seen := [8, 9] }
def S_lkm8 (s : Nat) (k : List Cv) (os : List Int) : St := { tm := [(0, u8 s), (7, .sb true), (8, .ptr 8 []), (9, iA false os)], hp := [(8, .c (ksA false k))], seen := [8] }
def I_lkn (s : Nat) (k : List Cv) (os : List Int) (i : Nat) : St := { tm := [(0, u8 s), (7, .sb true), (8, .ptr 8 []), (9, iA false os), (11, .i i)], hp := [(8, .c (ksA false k))], seen := [8] }

theorem lkm_A (s : Nat) (ex : Bool) (ids : List Nat) (z : Nat → Int) {D : Dom} (K : Nat) (Φ : Ex → St → Prop) :
  (Holds C P 136 D K Φ (vc C w_lkm b_lkm [] (start [u8 s, u16A ex ids, z2 z] []) lf)) =
  (Fun W.C W.P 11 [] [] (AV.sb true) [] ∧
 (True ∧
 (Fun W.C W.P 12 [(AV.v (Value.int IntKind.u8 ((s : Nat) : Int))), (W.u16A ex ids)] [] (W.ksA false (W.KV (W.seedK s) (W.goneD (W.u16L ids)))) [] ∧
 ((((true = true) ∧ (true = true)) ∧ True) ∧
 ((((0 : Int) ≤ (0 : Int)) ∧ ((0 : Int) < (2 : Int))) ∧
 ((((0 : Int) ≤ (1 : Int)) ∧ ((1 : Int) < (2 : Int))) ∧
 (∃ (S2 : St), Ent W.C 136 D K (St.mk [(0, (AV.v (Value.int IntKind.u8 ((s : Nat) : Int)))), (1, (W.u16A ex ids)), (2, (AV.arr 2 1 (fun (i : Nat) => (AV.i (z i))))), (5, (AV.ptr 5 [])), (6, (AV.v (Value.bool false))), (7, (AV.sb true)), (8, (AV.ptr 8 [])), (9, (AV.sl 20 [] 0 4 4 true 1))] [(5, (Blk.c (AV.arr 2 1 (fun (i : Nat) => (AV.i (z i)))))), (8, (Blk.c (W.ksA false (W.KV (W.seedK s) (W.goneD (W.u16L ids)))))), (20, (Blk.c (AV.st [(AV.i (z 0)), (AV.i (z 1)), (AV.i (0 : Int)), (AV.i (4095 : Int))])))] [20, 8, 5]) S2 ∧ Holds W.C W.P 136 D K Φ (cutAt W.C w_lkm b_lkm [1, 1, 1, 1, 0, 0] S2 (after W.C w_lkm b_lkm [1, 1, 1, 1, 0, 0] [] lf))))))))) := by kernel_rfl
theorem lkm_C4 (s : Nat) (ex : Bool) (ids : List Nat) (k : List Cv) (os : List Int) {D : Dom} (K : Nat) (Φ : Ex → St → Prop) :
  (Holds C P 136 D K Φ (cutAt C w_lkm b_lkm [1, 1, 1, 1, 0, 0] (S_lkm4 s ex ids k os) (after C w_lkm b_lkm [1, 1, 1, 1, 0, 0] [] lf))) =
  (LoopOK W.C W.P 136 D K (bodyAt b_lkm [1, 1, 1, 1, 0, 1, 0]) (St.mk [(0, (AV.v (Value.int IntKind.u8 ((s : Nat) : Int)))), (1, (W.u16A ex ids)), (7, (AV.sb true)), (8, (AV.ptr 8 [])), (9, (AV.sl 9 [] 0 (List.length os) (List.length os) false 1)), (10, (AV.i (0 : Int)))] [(8, (Blk.c (W.ksA false k))), (9, (Blk.c (AV.arr (List.length os) 1 (fun (i : Nat) => (AV.i (List.getD os i (0 : Int)))))))] [8, 9]) (fun (e : Ex) (S' : St) => Holds W.C W.P 136 D K Φ (after W.C w_lkm b_lkm [1, 1, 1, 1, 0, 1, 0] [] lf e S'))) := by kernel_rfl
noncomputable abbrev bd_lkm_0 : Code := bodyAt (b_lkm) [1, 1, 1, 1, 0, 1, 0]
theorem ok_lkm_0 : codeOK bd_lkm_0 = true := by kernel_rfl
noncomputable abbrev rest_lkm_0 (D : Dom) (K : Nat) (Φ : Ex → St → Prop) : Ex → St → Prop := fun e S' => Holds C P 136 D K Φ (after C w_lkm (b_lkm) [1, 1, 1, 1, 0, 1, 0] [] lf e S')
set_option maxRecDepth 1000000 in
theorem lkm_L0 (s : Nat) (ex : Bool) (ids : List Nat) (k : List Cv) (os : Nat → List Int) (i : Nat) {D : Dom} (K : Nat) (Φ : Ex → St → Prop) :
  (Holds C P 136 D K (RoundQ C 136 D K (I_lkm s ex ids k os) (fun i => i ≤ ids.length ∧ i ≤ 12) (fun i => 12 - i) ((fun i => 12 - i) (i)) (rest_lkm_0 D K Φ)) (vc C w_lkm bd_lkm_0 [] ((I_lkm s ex ids k os) (i)) lf)) =
  (((decide (((i : Nat) : Int) < (((List.length ids) : Nat) : Int))) = true →
 (((decide (((i : Nat) : Int) < (12 : Int))) = true →
  ((((0 : Int) ≤ ((i : Nat) : Int)) ∧ (((i : Nat) : Int) < (((List.length ids) : Nat) : Int))) ∧
   ((I64 (((List.getD ids i 0) : Nat) : Int)) ∧
   (((4096 : Int) ≠ (0 : Int)) ∧
   ((((0 : Int) ≤ ((i : Nat) : Int)) ∧ (((i : Nat) : Int) < (((List.length ids) : Nat) : Int))) ∧
   ((I64 (((List.getD ids i 0) : Nat) : Int)) ∧
   (((4096 : Int) ≠ (0 : Int)) ∧
   (((((List.length (os i)) + 2) * 8) ≤ 140737488355328) ∧
   ((I64 (((i + 1) : Nat) : Int)) ∧
   ((RoundQ C 136 D K (I_lkm s ex ids k os) (fun i => i ≤ ids.length ∧ i ≤ 12) (fun i => 12 - i) ((fun i => 12 - i) (i)) (rest_lkm_0 D K Φ)) Ex.normal (St.mk [(0, (AV.v (Value.int IntKind.u8 ((s : Nat) : Int)))), (1, (W.u16A ex ids)), (7, (AV.sb true)), (8, (AV.ptr 8 [])), (9, (AV.sl 46 [] 0 ((List.length (os i)) + 2) ((List.length (os i)) + 2) false 1)), (10, (AV.i (((i + 1) : Nat) : Int))), (28, (AV.v (Value.bool true)))] [(8, (Blk.c (W.ksA false k))), (45, (Blk.c (AV.st [(AV.i (Int.tmod (((List.getD ids i 0) : Nat) : Int) (4096 : Int))), (AV.i (bXor IntKind.i64 (Int.tmod (((List.getD ids i 0) : Nat) : Int) (4096 : Int)) (1 : Int)))]))), (46, (Blk.c (AV.arr ((List.length (os i)) + 2) 1 (cat (List.length (os i)) (fun (i1 : Nat) => (AV.i (List.getD (os i) (0 + i1) (0 : Int)))) (fun (i1 : Nat) => (nthD [(AV.i (Int.tmod (((List.getD ids i 0) : Nat) : Int) (4096 : Int))), (AV.i (bXor IntKind.i64 (Int.tmod (((List.getD ids i 0) : Nat) : Int) (4096 : Int)) (1 : Int)))] (0 + i1) (AV.v (Value.tuple (List.toArray [])))))))))] [46, 45, 8, 9]))))))))))) ∧
  ((decide (((i : Nat) : Int) < (12 : Int))) = false →
  (∃ (S2 : St), Ent W.C 136 D K (St.mk [(0, (AV.v (Value.int IntKind.u8 ((s : Nat) : Int)))), (1, (W.u16A ex ids)), (7, (AV.sb true)), (8, (AV.ptr 8 [])), (9, (AV.sl 9 [] 0 (List.length (os i)) (List.length (os i)) false 1)), (10, (AV.i ((i : Nat) : Int))), (28, (AV.v (Value.bool false)))] [(8, (Blk.c (W.ksA false k))), (9, (Blk.c (AV.arr (List.length (os i)) 1 (fun (j : Nat) => (AV.i (List.getD (os i) j (0 : Int)))))))] [8, 9]) S2 ∧ Holds W.C W.P 136 D K Φ (cutAt W.C w_lkm b_lkm [1, 1, 1, 1, 1, 0, 0] S2 (after W.C w_lkm b_lkm [1, 1, 1, 1, 1, 0, 0] [] lf)))))) ∧
 ((decide (((i : Nat) : Int) < (((List.length ids) : Nat) : Int))) = false →
 (∃ (S2 : St), Ent W.C 136 D K (St.mk [(0, (AV.v (Value.int IntKind.u8 ((s : Nat) : Int)))), (1, (W.u16A ex ids)), (7, (AV.sb true)), (8, (AV.ptr 8 [])), (9, (AV.sl 9 [] 0 (List.length (os i)) (List.length (os i)) false 1)), (10, (AV.i ((i : Nat) : Int))), (28, (AV.v (Value.bool false)))] [(8, (Blk.c (W.ksA false k))), (9, (Blk.c (AV.arr (List.length (os i)) 1 (fun (j : Nat) => (AV.i (List.getD (os i) j (0 : Int)))))))] [8, 9]) S2 ∧ Holds W.C W.P 136 D K Φ (cutAt W.C w_lkm b_lkm [1, 1, 1, 1, 1, 0, 0] S2 (after W.C w_lkm b_lkm [1, 1, 1, 1, 1, 0, 0] [] lf))))) := by kernel_rfl
theorem lkm_C8 (s : Nat) (k : List Cv) (os : List Int) {D : Dom} (K : Nat) (Φ : Ex → St → Prop) :
  (Holds C P 136 D K Φ (cutAt C w_lkm b_lkm [1, 1, 1, 1, 1, 0, 0] (S_lkm8 s k os) (after C w_lkm b_lkm [1, 1, 1, 1, 1, 0, 0] [] lf))) =
  (LoopOK W.C W.P 136 D K (bodyAt b_lkm [1, 1, 1, 1, 1, 0, 1, 0]) (St.mk [(0, (AV.v (Value.int IntKind.u8 ((s : Nat) : Int)))), (7, (AV.sb true)), (8, (AV.ptr 8 [])), (9, (W.iA false os)), (11, (AV.i (0 : Int)))] [(8, (Blk.c (W.ksA false k)))] [8]) (fun (e : Ex) (S' : St) => Holds W.C W.P 136 D K Φ (after W.C w_lkm b_lkm [1, 1, 1, 1, 1, 0, 1, 0] [] lf e S'))) := by kernel_rfl
noncomputable abbrev bd_lkm_1 : Code := bodyAt (b_lkm) [1, 1, 1, 1, 1, 0, 1, 0]
theorem ok_lkm_1 : codeOK bd_lkm_1 = true := by kernel_rfl
noncomputable abbrev rest_lkm_1 (D : Dom) (K : Nat) (Φ : Ex → St → Prop) : Ex → St → Prop := fun e S' => Holds C P 136 D K Φ (after C w_lkm (b_lkm) [1, 1, 1, 1, 1, 0, 1, 0] [] lf e S')
theorem lkm_L1 (s : Nat) (k : List Cv) (os : List Int) (i : Nat) {D : Dom} (K : Nat) (Φ : Ex → St → Prop) :
  (Holds C P 136 D K (RoundQ C 136 D K (I_lkn s k os) (fun i => i ≤ os.length) (fun i => os.length - i) ((fun i => os.length - i) (i)) (rest_lkm_1 D K Φ)) (vc C w_lkm bd_lkm_1 [] ((I_lkn s k os) (i)) lf)) =
  (((decide (((i : Nat) : Int) < (((List.length os) : Nat) : Int))) = true →
 ((((0 : Int) ≤ ((i : Nat) : Int)) ∧ (((i : Nat) : Int) < (((List.length os) : Nat) : Int))) ∧
  (Fun W.C W.P 15 [(W.ksA false k), (AV.i (List.getD os i (0 : Int)))] [] (AV.st [(W.kyA (W.keyR (W.toKs (W.ksA false k)) (List.getD os i (0 : Int)))), (AV.i (W.keyE (W.toKs (W.ksA false k)) (List.getD os i (0 : Int))))]) [] ∧
  (((∀ (i1 : Nat), ((i1 < 32) → True)) ∧ (True ∧ True)) ∧
  ((((0 : Int) ≤ ((i : Nat) : Int)) ∧ (((i : Nat) : Int) < (((List.length os) : Nat) : Int))) ∧
  (Fun W.C W.P 23 [(W.ksA false k), (AV.i (List.getD os i (0 : Int)))] [] (AV.st [(W.kyA (W.keyR (W.toKs (W.ksA false k)) (List.getD os i (0 : Int)))), (AV.i (W.keyE (W.toKs (W.ksA false k)) (List.getD os i (0 : Int))))]) [] ∧
  (((∀ (i1 : Nat), ((i1 < 32) → True)) ∧ (True ∧ True)) ∧
  ((∀ (i1 : Nat), ((i1 < 32) → ((IntKind.u8 = IntKind.u8) ∧ (IntKind.u8 = IntKind.u8)))) ∧
  (((! ((List.all (List.range 32) (fun (i1 : Nat) => ((((W.keyR (W.toKs (W.ksA false k)) (List.getD os i (0 : Int)) i1) : Nat) : Int) == (((W.keyR (W.toKs (W.ksA false k)) (List.getD os i (0 : Int)) i1) : Nat) : Int)))) && (((W.keyE (W.toKs (W.ksA false k)) (List.getD os i (0 : Int))) == (W.keyE (W.toKs (W.ksA false k)) (List.getD os i (0 : Int)))) && true))) = true →
  (Φ Ex.ret (St.mk [(0, (AV.v (Value.int IntKind.u8 ((s : Nat) : Int)))), (6, (AV.v (Value.bool false))), (7, (AV.sb true)), (8, (AV.ptr 8 [])), (9, (W.iA false os)), (11, (AV.i ((i : Nat) : Int))), (50, (AV.v (Value.bool true))), (98, (AV.v (Value.bool true)))] [(8, (Blk.c (W.ksA false k)))] [8]))) ∧
  ((! ((List.all (List.range 32) (fun (i1 : Nat) => ((((W.keyR (W.toKs (W.ksA false k)) (List.getD os i (0 : Int)) i1) : Nat) : Int) == (((W.keyR (W.toKs (W.ksA false k)) (List.getD os i (0 : Int)) i1) : Nat) : Int)))) && (((W.keyE (W.toKs (W.ksA false k)) (List.getD os i (0 : Int))) == (W.keyE (W.toKs (W.ksA false k)) (List.getD os i (0 : Int)))) && true))) = false →
  ((((0 : Int) ≤ ((i : Nat) : Int)) ∧ (((i : Nat) : Int) < (((List.length os) : Nat) : Int))) ∧
   (Fun W.C W.P 13 [(W.ksA false k), (AV.i (List.getD os i (0 : Int)))] [] (W.ksA false (W.desL (W.toKs (W.ksA false k)) (List.getD os i (0 : Int)))) [] ∧
   ((((0 : Int) ≤ ((i : Nat) : Int)) ∧ (((i : Nat) : Int) < (((List.length os) : Nat) : Int))) ∧
   (Fun W.C W.P 24 [(W.ksA false k), (AV.i (List.getD os i (0 : Int)))] [] (W.ksA false (W.desL (W.toKs (W.ksA false k)) (List.getD os i (0 : Int)))) [] ∧
   (Fun W.C W.P 19 [(W.ksA false (W.desL (W.toKs (W.ksA false k)) (List.getD os i (0 : Int)))), (W.ksA false (W.desL (W.toKs (W.ksA false k)) (List.getD os i (0 : Int))))] [] (AV.sb (W.sameL (W.toKs (W.ksA false (W.desL (W.toKs (W.ksA false k)) (List.getD os i (0 : Int))))) (W.toKs (W.ksA false (W.desL (W.toKs (W.ksA false k)) (List.getD os i (0 : Int))))))) [] ∧
   (True ∧
   (((! (W.sameL (W.toKs (W.ksA false (W.desL (W.toKs (W.ksA false k)) (List.getD os i (0 : Int))))) (W.toKs (W.ksA false (W.desL (W.toKs (W.ksA false k)) (List.getD os i (0 : Int))))))) = true →
   (Φ Ex.ret (St.mk [(0, (AV.v (Value.int IntKind.u8 ((s : Nat) : Int)))), (6, (AV.v (Value.bool false))), (7, (AV.sb true)), (8, (AV.ptr 8 [])), (9, (W.iA false os)), (11, (AV.i ((i : Nat) : Int))), (50, (AV.v (Value.bool true))), (98, (AV.v (Value.bool true)))] [(8, (Blk.c (W.ksA false k)))] [8]))) ∧
   ((! (W.sameL (W.toKs (W.ksA false (W.desL (W.toKs (W.ksA false k)) (List.getD os i (0 : Int))))) (W.toKs (W.ksA false (W.desL (W.toKs (W.ksA false k)) (List.getD os i (0 : Int))))))) = false →
   ((((0 : Int) ≤ ((i : Nat) : Int)) ∧ (((i : Nat) : Int) < (((List.length os) : Nat) : Int))) ∧
    (Fun W.C W.P 16 [(AV.dat 1 false 1 (fun (i1 : Nat) => (nthD [(W.ksA false k)] (0 + i1) (AV.v (Value.tuple (List.toArray [])))))), (AV.i (List.getD os i (0 : Int)))] [] (AV.sb (W.knownB (W.toLs (AV.dat 1 false 1 (fun (i1 : Nat) => (nthD [(W.ksA false k)] (0 + i1) (AV.v (Value.tuple (List.toArray []))))))) (List.getD os i (0 : Int)))) [] ∧
    (True ∧
    ((((0 : Int) ≤ ((i : Nat) : Int)) ∧ (((i : Nat) : Int) < (((List.length os) : Nat) : Int))) ∧
    (Fun W.C W.P 25 [(AV.dat 1 false 1 (fun (i1 : Nat) => (nthD [(W.ksA false k)] (0 + i1) (AV.v (Value.tuple (List.toArray [])))))), (AV.i (List.getD os i (0 : Int)))] [] (AV.sb (W.knownB (W.toLs (AV.dat 1 false 1 (fun (i1 : Nat) => (nthD [(W.ksA false k)] (0 + i1) (AV.v (Value.tuple (List.toArray []))))))) (List.getD os i (0 : Int)))) [] ∧
    (True ∧
    (((! ((W.knownB (W.toLs (AV.dat 1 false 1 (fun (i1 : Nat) => (nthD [(W.ksA false k)] (0 + i1) (AV.v (Value.tuple (List.toArray []))))))) (List.getD os i (0 : Int))) == (W.knownB (W.toLs (AV.dat 1 false 1 (fun (i1 : Nat) => (nthD [(W.ksA false k)] (0 + i1) (AV.v (Value.tuple (List.toArray []))))))) (List.getD os i (0 : Int))))) = true →
    (Φ Ex.ret (St.mk [(0, (AV.v (Value.int IntKind.u8 ((s : Nat) : Int)))), (6, (AV.v (Value.bool false))), (7, (AV.sb true)), (8, (AV.ptr 8 [])), (9, (W.iA false os)), (11, (AV.i ((i : Nat) : Int))), (50, (AV.v (Value.bool true))), (98, (AV.v (Value.bool true)))] [(8, (Blk.c (W.ksA false k))), (84, (Blk.c (AV.st [(W.ksA false k)]))), (91, (Blk.c (AV.st [(W.ksA false k)])))] [91, 84, 8]))) ∧
    ((! ((W.knownB (W.toLs (AV.dat 1 false 1 (fun (i1 : Nat) => (nthD [(W.ksA false k)] (0 + i1) (AV.v (Value.tuple (List.toArray []))))))) (List.getD os i (0 : Int))) == (W.knownB (W.toLs (AV.dat 1 false 1 (fun (i1 : Nat) => (nthD [(W.ksA false k)] (0 + i1) (AV.v (Value.tuple (List.toArray []))))))) (List.getD os i (0 : Int))))) = false →
    ((I64 (((i + 1) : Nat) : Int)) ∧
     ((RoundQ C 136 D K (I_lkn s k os) (fun i => i ≤ os.length) (fun i => os.length - i) ((fun i => os.length - i) (i)) (rest_lkm_1 D K Φ)) Ex.normal (St.mk [(0, (AV.v (Value.int IntKind.u8 ((s : Nat) : Int)))), (7, (AV.sb true)), (8, (AV.ptr 8 [])), (9, (W.iA false os)), (11, (AV.i (((i + 1) : Nat) : Int))), (50, (AV.v (Value.bool true))), (98, (AV.v (Value.bool false)))] [(8, (Blk.c (W.ksA false k))), (84, (Blk.c (AV.st [(W.ksA false k)]))), (91, (Blk.c (AV.st [(W.ksA false k)])))] [91, 84, 8]))))))))))))))))))))))))))))) ∧
 ((decide (((i : Nat) : Int) < (((List.length os) : Nat) : Int))) = false →
 (∃ (S2 : St), Ent W.C 136 D K (St.mk [(0, (AV.v (Value.int IntKind.u8 ((s : Nat) : Int)))), (7, (AV.sb true)), (8, (AV.ptr 8 [])), (9, (W.iA false os)), (11, (AV.i ((i : Nat) : Int))), (50, (AV.v (Value.bool false)))] [(8, (Blk.c (W.ksA false k)))] [8]) S2 ∧ Holds W.C W.P 136 D K Φ (cutAt W.C w_lkm b_lkm [1, 1, 1, 1, 1, 1, 0] S2 (after W.C w_lkm b_lkm [1, 1, 1, 1, 1, 1, 0] [] lf))))) := by kernel_rfl
theorem lkm_C13 (s : Nat) (k : List Cv) (os : List Int) {D : Dom} (K : Nat) (Φ : Ex → St → Prop) :
  (Holds C P 136 D K Φ (cutAt C w_lkm b_lkm [1, 1, 1, 1, 1, 1, 0] (S_lkm8 s k os) (after C w_lkm b_lkm [1, 1, 1, 1, 1, 1, 0] [] lf))) =
  ((true = true →
 (Fun W.C W.P 18 [(AV.dat 1 false 1 (fun (i : Nat) => (nthD [(AV.v (Value.int IntKind.u8 ((s : Nat) : Int)))] (0 + i) (AV.v (Value.tuple (List.toArray []))))))] [] (W.kyA (Sp.sumN [s])) [] ∧
  ((∀ (i : Nat), ((i < 32) → True)) ∧
  (Fun W.C W.P 22 [(W.kyA (Sp.sumN [s]))] [] (W.ksA false (W.newL (Sp.sumN [s]))) [] ∧
  (Fun W.C W.P 18 [(AV.dat 1 false 1 (fun (i : Nat) => (nthD [(AV.v (Value.int IntKind.u8 ((s : Nat) : Int)))] (0 + i) (AV.v (Value.tuple (List.toArray []))))))] [] (W.kyA (Sp.sumN [s])) [] ∧
  ((∀ (i : Nat), ((i < 32) → True)) ∧
  (Fun W.C W.P 17 [(W.kyA (Sp.sumN [s]))] [] (W.ksA false (W.newL (Sp.sumN [s]))) [] ∧
  (Fun W.C W.P 19 [(W.ksA false (W.newL (Sp.sumN [s]))), (W.ksA false (W.newL (Sp.sumN [s])))] [] (AV.sb (W.sameL [(W.cAt (W.newL (Sp.sumN [s])) 0)] [(W.cAt (W.newL (Sp.sumN [s])) 0)])) [] ∧
  (True ∧
  (((W.sameL [(W.cAt (W.newL (Sp.sumN [s])) 0)] [(W.cAt (W.newL (Sp.sumN [s])) 0)]) = true →
  (Fun W.C W.P 20 [(W.ksA false k)] [] (AV.i (W.leftI (W.toKs (W.ksA false k)))) [] ∧
   (True ∧
   (Fun W.C W.P 26 [(W.ksA false k)] [] (AV.i (W.leftI (W.toKs (W.ksA false k)))) [] ∧
   (True ∧
   ((((W.leftI (W.toKs (W.ksA false k))) == (W.leftI (W.toKs (W.ksA false k)))) = true →
   (Fun W.C W.P 28 [(W.ksA false k), (W.iA false os)] [] (W.iA false (W.lostL (W.toKs (W.ksA false k)) (W.toIs (W.iA false os)))) [] ∧
    (Fun W.C W.P 29 [(W.ksA false k), (W.iA false os)] [] (W.iA false (W.lostL (W.toKs (W.ksA false k)) (W.toIs (W.iA false os)))) [] ∧
    (Fun W.C W.P 27 [(W.iA false (W.lostL (W.toKs (W.ksA false k)) (W.toIs (W.iA false os)))), (W.iA false (W.lostL (W.toKs (W.ksA false k)) (W.toIs (W.iA false os))))] [] (AV.sb (W.intsB (W.toIs (W.iA false (W.lostL (W.toKs (W.ksA false k)) (W.toIs (W.iA false os))))) (W.toIs (W.iA false (W.lostL (W.toKs (W.ksA false k)) (W.toIs (W.iA false os))))))) [] ∧
    (True ∧
    (((W.intsB (W.toIs (W.iA false (W.lostL (W.toKs (W.ksA false k)) (W.toIs (W.iA false os))))) (W.toIs (W.iA false (W.lostL (W.toKs (W.ksA false k)) (W.toIs (W.iA false os)))))) = true →
    (Fun W.C W.P 30 [(W.ksA false k)] [] (AV.dat (List.length (W.bytesK (W.toKs (W.ksA false k)))) false 1 (rowL (W.bytesK (W.toKs (W.ksA false k))))) [] ∧
     ((∀ (i : Nat), ((i < (List.length (W.bytesK (W.toKs (W.ksA false k))))) → (((0 : Int) ≤ (((List.getD (W.bytesK (W.toKs (W.ksA false k))) i 0) : Nat) : Int)) ∧ ((((List.getD (W.bytesK (W.toKs (W.ksA false k))) i 0) : Nat) : Int) < (256 : Int))))) ∧
     (Fun W.C W.P 31 [(W.ksA false k)] [] (AV.dat (List.length (W.bytesK (W.toKs (W.ksA false k)))) false 1 (rowL (W.bytesK (W.toKs (W.ksA false k))))) [] ∧
     ((∀ (i : Nat), ((i < (List.length (W.bytesK (W.toKs (W.ksA false k))))) → (((0 : Int) ≤ (((List.getD (W.bytesK (W.toKs (W.ksA false k))) i 0) : Nat) : Int)) ∧ ((((List.getD (W.bytesK (W.toKs (W.ksA false k))) i 0) : Nat) : Int) < (256 : Int))))) ∧
     (Φ Ex.ret (St.mk [(0, (AV.v (Value.int IntKind.u8 ((s : Nat) : Int)))), (6, (AV.sb ((ByteArray.toList (bytesOf (List.length (W.bytesK (W.toKs (W.ksA false k)))) (rowL (W.bytesK (W.toKs (W.ksA false k)))))) == (ByteArray.toList (bytesOf (List.length (W.bytesK (W.toKs (W.ksA false k)))) (rowL (W.bytesK (W.toKs (W.ksA false k))))))))), (7, (AV.sb true)), (8, (AV.ptr 8 [])), (9, (W.iA false os))] [(8, (Blk.c (W.ksA false k))), (102, (Blk.c (AV.st [(AV.v (Value.int IntKind.u8 ((s : Nat) : Int)))]))), (106, (Blk.c (AV.st [(AV.v (Value.int IntKind.u8 ((s : Nat) : Int)))])))] [106, 102, 8]))))))) ∧
    ((W.intsB (W.toIs (W.iA false (W.lostL (W.toKs (W.ksA false k)) (W.toIs (W.iA false os))))) (W.toIs (W.iA false (W.lostL (W.toKs (W.ksA false k)) (W.toIs (W.iA false os)))))) = false →
    (Φ Ex.ret (St.mk [(0, (AV.v (Value.int IntKind.u8 ((s : Nat) : Int)))), (6, (AV.v (Value.bool false))), (7, (AV.sb true)), (8, (AV.ptr 8 [])), (9, (W.iA false os))] [(8, (Blk.c (W.ksA false k))), (102, (Blk.c (AV.st [(AV.v (Value.int IntKind.u8 ((s : Nat) : Int)))]))), (106, (Blk.c (AV.st [(AV.v (Value.int IntKind.u8 ((s : Nat) : Int)))])))] [106, 102, 8]))))))))) ∧
   (((W.leftI (W.toKs (W.ksA false k))) == (W.leftI (W.toKs (W.ksA false k)))) = false →
   (Φ Ex.ret (St.mk [(0, (AV.v (Value.int IntKind.u8 ((s : Nat) : Int)))), (6, (AV.v (Value.bool false))), (7, (AV.sb true)), (8, (AV.ptr 8 [])), (9, (W.iA false os))] [(8, (Blk.c (W.ksA false k))), (102, (Blk.c (AV.st [(AV.v (Value.int IntKind.u8 ((s : Nat) : Int)))]))), (106, (Blk.c (AV.st [(AV.v (Value.int IntKind.u8 ((s : Nat) : Int)))])))] [106, 102, 8]))))))))) ∧
  ((W.sameL [(W.cAt (W.newL (Sp.sumN [s])) 0)] [(W.cAt (W.newL (Sp.sumN [s])) 0)]) = false →
  (Φ Ex.ret (St.mk [(0, (AV.v (Value.int IntKind.u8 ((s : Nat) : Int)))), (6, (AV.v (Value.bool false))), (7, (AV.sb true)), (8, (AV.ptr 8 [])), (9, (W.iA false os))] [(8, (Blk.c (W.ksA false k))), (102, (Blk.c (AV.st [(AV.v (Value.int IntKind.u8 ((s : Nat) : Int)))]))), (106, (Blk.c (AV.st [(AV.v (Value.int IntKind.u8 ((s : Nat) : Int)))])))] [106, 102, 8]))))))))))))) ∧
 (true = false →
 (Φ Ex.ret (St.mk [(0, (AV.v (Value.int IntKind.u8 ((s : Nat) : Int)))), (6, (AV.v (Value.bool false))), (7, (AV.sb true)), (8, (AV.ptr 8 [])), (9, (W.iA false os))] [(8, (Blk.c (W.ksA false k)))] [8])))) := by kernel_rfl
theorem desL_len {s : Nat → Nat} {D : List Int} {l : List Cv} (h : KOK s D l) (x : Int) : (desL l x).length < 2 ^ 60 := by
  by_cases hr : inR x = true
  · have := (h.des hr).n; omega
  · have hb : hasB l x = false := by rw [h.B]; simp [hr]
    have e : desL l x = l := by unfold desL; rw [hb]; rfl
    have := h.n
    rw [e]; omega
def osN (o : List Int) (ids : List Nat) : Nat → List Int
  | 0 => o
  | i + 1 => osN o ids i ++ [((ids.getD i 0 % 4096 : Nat) : Int), bXor .i64 ((ids.getD i 0 % 4096 : Nat) : Int) 1]
theorem osN_len (o : List Int) (ids : List Nat) : ∀ i, (osN o ids i).length = o.length + 2 * i
  | 0 => rfl
  | i + 1 => by unfold osN; rw [List.length_append, osN_len o ids i]; simp; omega
theorem int_row2 {l : List Int} {x y : Int} (i : Nat) (hi : i < l.length + 2) : cat l.length (fun i1 => AV.i (l.getD (0 + i1) 0)) (fun i1 => nthD [AV.i x, AV.i y] (0 + i1) (AV.v (Value.tuple (List.toArray [])))) i = AV.i ((l ++ [x, y]).getD i 0) := by
  unfold cat
  simp only [List.getD_eq_getElem?_getD]
  by_cases e : i < l.length
  · rw [if_pos e, Nat.zero_add, List.getElem?_append_left e]
  · rw [if_neg e, List.getElem?_append_right (by omega)]
    have h2 : i - l.length = 0 ∨ i - l.length = 1 := by omega
    rcases h2 with h2 | h2 <;> rw [h2] <;> rfl
set_option maxRecDepth 1000000 in
theorem lkm_fun (s : Nat) (hs : s < 256) (ex : Bool) (ids : List Nat) (hi : ∀ i, i < ids.length → ids.getD i 0 < 65536) (z : Nat → Int) : Fun C P F_lkm [u8 s, u16A ex ids, z2 z] [] (.sb true) [] := by
  refine in_lkm (W := w_lkm) rfl 0 (by simp) rfl (fun id h => absurd rfl h) fun D => ?_
  refine of_eq (lkm_A s ex ids z 0 _) ?_
  rw [u16L_eq]
  have hb : B8 1 (fun (i : Nat) => (nthD [(AV.v (Value.int IntKind.u8 ((s : Nat) : Int)))] (0 + i) (AV.v (Value.tuple (List.toArray []))))) := fun i hi => by
    obtain rfl : i = 0 := by omega
    exact ⟨rfl, hs⟩
  have hk := KOK.made s ids
  have hmade := made_fun s hs ex ids hi
  obtain ⟨k, ek⟩ : ∃ k, k = KV (seedK s) (goneD ids) := ⟨_, rfl⟩
  rw [← ek] at hk hmade ⊢
  clear ek
  obtain ⟨o, eo⟩ : ∃ o : List Int, o = [z 0, z 1, 0, 4095] := ⟨_, rfl⟩
  have ho : o.length = 4 := by rw [eo]; rfl
  have kn := hk.n
  have kv := hk.v
  have tail : ∀ os : List Int, os.length < 2 ^ 30 → Holds C P 136 D 0 (FunPost C 136 0 [.tmp 6] (.sb true) []) (cutAt C w_lkm b_lkm [1, 1, 1, 1, 1, 0, 0] (S_lkm8 s k os) (after C w_lkm b_lkm [1, 1, 1, 1, 1, 0, 0] [] lf)) := fun os hos => by
    refine of_eq (lkm_C8 s k os 0 _) ?_
    refine loop_inv (W := w_lkm) ctx mixed ok_lkm_1 (I_lkn s k os) (fun i => i ≤ os.length) (fun i => os.length - i) 0 (Nat.zero_le _) ?_ fun i hi' => ?_
    · exact ent_of [(8, 8)] rfl (tm_cons rfl (sm_same rfl) (tm_cons rfl (sm_same rfl) (tm_cons rfl (sm_ptr rfl) (tm_cons rfl (sm_same rfl) (tm_cons rfl (sm_same rfl) tm_nil))))) (hp_cons rfl rfl (sm_same rfl) hp_nil)
    refine of_eq (lkm_L1 s k os i 0 _) ⟨fun h => ?_, fun h => ?_⟩
    · simp only [decide_eq_true_eq] at h
      obtain ⟨k1, k2, k3⟩ := known_one hk (os.getD i 0)
      rw [toKs_A, toKs_A, k3]
      have hd := destroy_fun false k (os.getD i 0) kn kv
      have hrd := rdestroy_fun false k (os.getD i 0) kn kv
      have hlen : (desL k (os.getD i 0)).length < 2 ^ 60 := desL_len hk _
      have hss := rsame_fun false (desL k (os.getD i 0)) false (desL k (os.getD i 0)) hlen
      exact ⟨(by first | omega | decide | (unfold I64; omega)), got_fun false k _ (by omega) kv, T32, (by first | omega | decide | (unfold I64; omega)), rkey_fun false k _ (by omega) kv, T32, fun _ _ => ⟨rfl, rfl⟩, nf_then (got_eq rfl rfl) ⟨(by first | omega | decide | (unfold I64; omega)), hd, (by first | omega | decide | (unfold I64; omega)), hrd, hss, trivial, nf_then (sameL_refl _) ⟨(by first | omega | decide | (unfold I64; omega)), k1, trivial, (by first | omega | decide | (unfold I64; omega)), k2, trivial, nf_then (beq_self_eq_true _) ⟨(by first | omega | decide | (unfold I64; omega)), round_end (i + 1) (by omega) (ent_of [(8, 8)] rfl (tm_cons rfl (sm_same rfl) (tm_cons rfl (sm_same rfl) (tm_cons rfl (sm_ptr rfl) (tm_cons rfl (sm_same rfl) (tm_cons rfl (sm_same rfl) tm_nil))))) (hp_cons rfl rfl (sm_same rfl) hp_nil)) (by dsimp only; omega)⟩⟩⟩⟩
    · refine cut_ok (S2 := S_lkm8 s k os) (ent_of [(8, 8)] rfl (tm_cons rfl (sm_same rfl) (tm_cons rfl (sm_same rfl) (tm_cons rfl (sm_ptr rfl) (tm_cons rfl (sm_same rfl) tm_nil)))) (hp_cons rfl rfl (sm_same rfl) hp_nil)) ?_
      refine of_eq (lkm_C13 s k os 0 _) ⟨fun _ => ?_, fun h => (by cases h)⟩
      have eL : [cAt (newL (sumN [s])) 0] = newL (sumN [s]) := rfl
      have hss := rsame_fun false (newL (sumN [s])) false (newL (sumN [s])) (by show 1 < 2 ^ 60; decide)
      rw [eL, toKs_A, toIs_A, toIs_A, sameL_refl]
      rw [sameL_refl] at hss
      have hl2 : (lostL k os).length < 2 ^ 60 := Nat.lt_of_le_of_lt (List.length_filter_le _ _) (by omega)
      have hii := ints_fun false (lostL k os) false (lostL k os) hl2
      have hsm := kv.small
      have hby : ∀ i, i < (bytesK k).length → (0 : Int) ≤ (((bytesK k).getD i 0 : Nat) : Int) ∧ (((bytesK k).getD i 0 : Nat) : Int) < 256 := fun i _ => by
        have := getD_small hsm i
        omega
      have hfin : (ByteArray.toList (bytesOf (bytesK k).length (rowL (bytesK k))) == ByteArray.toList (bytesOf (bytesK k).length (rowL (bytesK k)))) = true := beq_self_eq_true _
      rw [hfin]
      exact ⟨rsum_call (ex := false) hb (.inr rfl) (by decide), fun _ _ => trivial, new_fun _, rsum_call (ex := false) hb (.inr rfl) (by decide), fun _ _ => trivial, rnew_fun _, hss, trivial, tt_then rfl ⟨kleft_fun false k (by omega) kv, trivial, rkleft_fun false k (by omega) kv, trivial, tt_then (beq_self_eq_true _) ⟨lost_fun false k false os (by omega) kv (by omega), rlost_fun false k false os (by omega) kv (by omega), hii, trivial, tt_then (decide_eq_true rfl) ⟨kbytes_fun false k (by omega), hby, rkbytes_fun false k (by omega), hby, post_tmp rfl (sm_same rfl)⟩⟩⟩⟩
  refine ⟨sanity_fun, trivial, hmade, TT, (by first | omega | decide | (unfold I64; omega)), (by first | omega | decide | (unfold I64; omega)), cut_ok (S2 := S_lkm4 s ex ids k o) ?_ ?_⟩
  · exact ent_of [(8, 8), (20, 9)] rfl (tm_cons rfl (sm_same rfl) (tm_cons rfl (sm_same rfl) (tm_cons rfl (sm_same rfl) (tm_cons rfl (sm_ptr rfl) (tm_cons rfl (sm_sl rfl ho.symm (by omega) (by omega) (by simp)) tm_nil))))) (hp_cons rfl rfl (sm_same rfl) (hp_cons rfl rfl (sm_row ho rfl rfl fun i x hx => (by rw [eo]; exact (match i, hx with | 0, h => (by cases h; rfl) | 1, h => (by cases h; rfl) | 2, h => (by cases h; rfl) | 3, h => (by cases h; rfl) | i + 4, h => (by cases h)))) hp_nil))
  refine of_eq (lkm_C4 s ex ids k o 0 _) ?_
  refine loop_inv (W := w_lkm) ctx mixed ok_lkm_0 (I_lkm s ex ids k (osN o ids)) (fun i => i ≤ ids.length ∧ i ≤ 12) (fun i => 12 - i) 0 ⟨Nat.zero_le _, Nat.zero_le _⟩ ?_ fun i hi' => ?_
  · exact ent_of [(8, 8), (9, 9)] rfl (tm_cons rfl (sm_same rfl) (tm_cons rfl (sm_same rfl) (tm_cons rfl (sm_same rfl) (tm_cons rfl (sm_ptr rfl) (tm_cons rfl (sm_sl rfl rfl (Nat.le_refl _) (Nat.le_refl _) (by simp)) (tm_cons rfl (sm_same rfl) tm_nil)))))) (hp_cons rfl rfl (sm_same rfl) (hp_cons rfl rfl (sm_same rfl) hp_nil))
  have hlen := osN_len o ids i
  have htail := tail (osN o ids i) (by omega)
  refine of_eq (lkm_L0 s ex ids k (osN o ids) i 0 _) ⟨fun h => ⟨fun h3 => ?_, fun h3 => ?_⟩, fun h => ?_⟩
  · simp only [decide_eq_true_eq] at h h3
    have hu := hi i (by omega)
    rw [tmod4096]
    refine ⟨(by first | omega | decide | (unfold I64; omega)), (by first | omega | decide | (unfold I64; omega)), by decide, (by first | omega | decide | (unfold I64; omega)), (by first | omega | decide | (unfold I64; omega)), by decide, by omega, (by first | omega | decide | (unfold I64; omega)), round_end (i + 1) (by omega) ?_ (by dsimp only; omega)⟩
    have hl2 := osN_len o ids (i + 1)
    exact ent_of [(8, 8), (46, 9)] rfl (tm_cons rfl (sm_same rfl) (tm_cons rfl (sm_same rfl) (tm_cons rfl (sm_same rfl) (tm_cons rfl (sm_ptr rfl) (tm_cons rfl (sm_sl rfl (by omega) (by omega) (by omega) (by simp)) (tm_cons rfl (sm_same rfl) tm_nil)))))) (hp_cons rfl rfl (sm_same rfl) (hp_cons rfl rfl (sm_arr' (by omega) fun j hj => int_row2 j hj) hp_nil))
  · exact cut_ok (S2 := S_lkm8 s k (osN o ids i)) (Ent.trans (ent_freeze _ [9]) (ent_of [(8, 8)] rfl (tm_cons rfl (sm_same rfl) (tm_cons rfl (sm_same rfl) (tm_cons rfl (sm_ptr rfl) (tm_cons rfl (sm_dat' rfl (by simp) fun j _ => congrArg (fun j => AV.i ((osN o ids i).getD j 0)) (Nat.zero_add j)) tm_nil)))) (hp_cons rfl rfl (sm_same rfl) hp_nil))) htail
  · exact cut_ok (S2 := S_lkm8 s k (osN o ids i)) (Ent.trans (ent_freeze _ [9]) (ent_of [(8, 8)] rfl (tm_cons rfl (sm_same rfl) (tm_cons rfl (sm_same rfl) (tm_cons rfl (sm_ptr rfl) (tm_cons rfl (sm_dat' rfl (by simp) fun j _ => congrArg (fun j => AV.i ((osN o ids i).getD j 0)) (Nat.zero_add j)) tm_nil)))) (hp_cons rfl rfl (sm_same rfl) hp_nil))) htail
theorem lkm_law {x0 x1 x2 : AV} (h0 : Typed C.tt 6 5 x0) (h1 : Typed C.tt 6 22 x1) (h2 : Typed C.tt 6 57 x2) : Fun C P F_lkm [x0, x1, x2] [] (.sb true) [] := by
  obtain ⟨s, rfl, hs⟩ := typed_u8 rfl h0
  obtain ⟨ids, ex, hi, _, s1⟩ := typed_ids h1
  obtain ⟨z, hz, f, rfl, hf⟩ := typed_i64s (e := 3) (m := 2) rfl rfl rfl h2
  exact (lkm_fun s hs ex ids hi z).sim ⟨sm_same rfl, s1, .inr ⟨rfl, rfl, fun i hi => .inl (hf i hi)⟩, trivial⟩ trivial
end Go.Bu.W

